import Derived.WalkKit
import Derived.WalkSpells
import Derived.WalkLawsBesides
import Derived.Deep.LoopGhost
import Derived.ChangeKeysEq
import Derived.Still
import Derived.Lib.AppendZeros
import Derived.Laws.StructEq
import Derived.OpenShut
import Derived.Scope
import Derived.Shelf.SlSortCmp.Kit1
import Derived.Shelf.SlSortCmp.InsertionK
import Derived.Lib.SlicesCompact
import Derived.ProofKit
import Derived.ChangeSame
import Derived.Carry
import Derived.SliceStrings
import Derived.ChangeMaps5
import Derived.Deep.Slices
import Derived.Test.YtckjaledibkghaaGreatRows
import Derived.Shelf.Abstract
import Derived.Deep.RegionLaw
import Derived.Lib.Walk
import Derived.Lib.Overlaps
import Derived.Lib.AppendZerosOnto
import Derived.Laws.CopyRow
import Derived.Test.YtckjaledibkghaaGreatK1
import Derived.Test.YtckjaledibkghaaGreatK2
set_option maxRecDepth 20000
set_option maxHeartbeats 16000000
set_option linter.unusedVariables false
set_option linter.unusedSimpArgs false
namespace Go.Proofs.YtckjaledibkghaaGreat
open Go Go.Abs
theorem vR (g:Nat) (a1 u b1 v c1:List bS) (N:Nat) (za zb zn:Int) (hN:N=a1.length+u.length+b1.length+v.length+c1.length) (huv:v.length=u.length) (hza:za=(a1.length:Nat)) (hzb:zb=((a1.length+u.length+b1.length:Nat):Int)) (hzn:zn=(u.length:Nat)) (hM:N<4611686018427387904) :DenM Tryz.prog 194 [.own E0 4 0 N,.s (.int .i64 za),.s (.int .i64 zb),.s (.int .i64 zn),.fn g []] 4 ((List.map stC (a1++(u++(b1++(v++c1)))))) (fun r ys=>ys=(List.map stC (a1++(v++(b1++(u++c1)))))):=by
 subst hza
 subst hzb
 subst hzn
 refine iL Tryz.func194 rfl (Nat.le_of_ble_eq_true rfl) (fun w0 x0 A hf=>?_)
 refine aC (fun K1 hK1=>(aB (aE aA 1 rfl (aD (hK1 _ (aQ (bR (ι:=Nat) (fun i=>⟨38,[(0,.own E0 4 0 N),(1,.s (.int .i64 (a1.length:Nat))),(2,.s (.int .i64 ((a1.length+u.length+b1.length:Nat):Int))),(3,.s (.int .i64 (u.length:Nat))),(10,.s (.int .i64 (i:Nat)))],[(E0,.buf 4 (List.map stC (swr a1 u b1 v c1 i)))]⟩) (fun i=>i≤u.length) (fun i=>u.length - i) 0 ?_ ?_ ?_)))))))
 · exact Nat.zero_le _
 · exact cJ ⟨rfl,rfl,rfl,rfl,rfl,trivial⟩ (by simp [swr])
 ·
  rintro i hC
  have hsl:=swr_len (A:=a1) (B:=b1) (C:=c1) (i:=i) huv
  refine aC (fun K2 hK2=>(aC (fun K3 hK3=>(aB (aE aA 3 rfl (aD (hK3 _ (aL rfl (fun hc1=>?_) (fun hc1=>?_)))))))))
  ·
   simp only[bs] at hc1
   refine aM (hK2 _ (aC (fun K4 hK4=>(aQ (dY bE ?_)))))
   refine cE (listed':=#[true,false,false,false,false,false,false,false,false,false,false,false,false,false,false,false,false,false,false,false,false,false,false,false]) 0 rfl (by kernel_rfl) (by kernel_rfl) (by kernel_rfl) rfl (fun _ _ h=>h) (eO rfl) ?_
   refine cE (listed':=#[true,true,false,false,false,false,false,false,false,false,false,false,false,false,false,false,false,false,false,false,false,false,false,false]) 1 rfl (by kernel_rfl) (by kernel_rfl) (by kernel_rfl) rfl (fun _ _ h=>h) (eO rfl) ?_
   refine cE (listed':=#[true,true,true,false,false,false,false,false,false,false,false,false,false,false,false,false,false,false,false,false,false,false,false,false]) 2 rfl (by kernel_rfl) (by kernel_rfl) (by kernel_rfl) rfl (fun _ _ h=>h) (eO rfl) ?_
   refine cE (listed':=#[true,true,true,true,false,false,false,false,false,false,false,false,false,false,false,false,false,false,false,false,false,false,false,false]) 3 rfl (by kernel_rfl) (by kernel_rfl) (by kernel_rfl) rfl (fun _ _ h=>h) (aIh rfl rfl (by omega) (by omega)) ?_
   refine cE (listed':=#[true,true,true,true,true,false,false,false,false,false,false,false,false,false,false,false,false,false,false,false,false,false,false,false]) 4 rfl (by kernel_rfl) (by kernel_rfl) (by kernel_rfl) rfl (fun _ _ h=>h) (eO rfl) ?_
   refine cE (listed':=#[true,true,true,true,true,true,false,false,false,false,false,false,false,false,false,false,false,false,false,false,false,false,false,false]) 5 rfl (by kernel_rfl) (by kernel_rfl) (by kernel_rfl) rfl (fun _ _ h=>h) (eO rfl) ?_
   refine cE (listed':=#[true,true,true,true,true,true,true,false,false,false,false,false,false,false,false,false,false,false,false,false,false,false,false,false]) 6 rfl (by kernel_rfl) (by kernel_rfl) (by kernel_rfl) rfl (fun _ _ h=>h) (eO rfl) ?_
   refine cE (listed':=#[true,true,true,true,true,true,true,true,false,false,false,false,false,false,false,false,false,false,false,false,false,false,false,false]) 7 rfl (by kernel_rfl) (by kernel_rfl) (by kernel_rfl) rfl (fun _ _ h=>h) (aIh rfl rfl (by omega) (by omega)) ?_
   refine cE (listed':=#[true,true,true,true,true,true,true,true,true,false,false,false,false,false,false,false,false,false,false,false,false,false,false,false]) 8 rfl (by kernel_rfl) (by kernel_rfl) (by kernel_rfl) rfl (fun _ _ h=>h) (eO rfl) ?_
   refine cE (listed':=#[true,true,true,true,true,true,true,true,true,true,false,false,false,false,false,false,false,false,false,false,false,false,false,false]) 9 rfl (by kernel_rfl) (by kernel_rfl) (by kernel_rfl) rfl (fun _ _ h=>h) (eO rfl) ?_
   refine cE (listed':=#[true,true,true,true,true,true,true,true,true,true,true,false,false,false,false,false,false,false,false,false,false,false,false,false]) 10 rfl (by kernel_rfl) (by kernel_rfl) (by kernel_rfl) rfl (fun _ _ h=>h) (eO rfl) ?_
   refine cE (listed':=#[true,true,true,true,true,true,true,true,true,true,true,true,false,false,false,false,false,false,false,false,false,false,false,false]) 11 rfl (by kernel_rfl) (by kernel_rfl) (by kernel_rfl) rfl (fun _ _ h=>h) (aIh rfl rfl (by omega) (by omega)) ?_
   refine cE (listed':=#[true,true,true,true,true,true,true,true,true,true,true,true,true,false,false,false,false,false,false,false,false,false,false,false]) 12 rfl (by kernel_rfl) (by kernel_rfl) (by kernel_rfl) rfl (fun _ _ h=>h) (nG rfl rfl cH bH (by omega)) ?_
   refine cE (listed':=#[true,true,true,true,true,true,true,true,true,true,true,true,true,false,true,false,false,false,false,false,false,false,false,false]) 14 rfl (by kernel_rfl) (by kernel_rfl) (by kernel_rfl) rfl (fun _ _ h=>h) (eO rfl) ?_
   refine cE (listed':=#[true,true,true,true,true,true,true,true,true,true,true,true,true,false,true,true,false,false,false,false,false,false,false,false]) 15 rfl (by kernel_rfl) (by kernel_rfl) (by kernel_rfl) rfl (fun _ _ h=>h) (eO rfl) ?_
   refine cE (listed':=#[true,true,true,true,true,true,true,true,true,true,true,true,true,false,true,true,true,false,false,false,false,false,false,false]) 16 rfl (by kernel_rfl) (by kernel_rfl) (by kernel_rfl) rfl (fun _ _ h=>h) (eO rfl) ?_
   refine cE (listed':=#[true,true,true,true,true,true,true,true,true,true,true,true,true,false,true,true,true,true,false,false,false,false,false,false]) 17 rfl (by kernel_rfl) (by kernel_rfl) (by kernel_rfl) rfl (fun _ _ h=>h) (aIh rfl rfl (by omega) (by omega)) ?_
   refine cE (listed':=#[true,true,true,true,true,true,true,true,true,true,true,true,true,false,true,true,true,true,true,false,false,false,false,false]) 18 rfl (by kernel_rfl) (by kernel_rfl) (by kernel_rfl) rfl (fun _ _ h=>h) (nG rfl rfl cH bH (by omega)) ?_
   refine jM (eR [0,1,2,3,10,16,19,20,23,28,34] rfl) (aH 13 [19] (by kernel_rfl) ⟨?_,?_,trivial⟩)
   ·
    refine⟨_,rfl,rfl,(ao rfl (aG rfl (bW rfl eP bH rfl (eS (k:=4) (enc:=stC) (z:=a1.length+u.length+b1.length+i) (by omega) (aEd huv (by omega)) rfl) (dZ (k:=4) (enc:=stC) (z:=a1.length+u.length+b1.length+i) (by omega) (aEd huv (by omega)) rfl)) (aF (aH 19 [] (by kernel_rfl) ⟨?_,trivial⟩))))⟩
    ·
     refine⟨_,rfl,rfl,(ao rfl (aG rfl (bW rfl eP bH rfl (eS (k:=4) (enc:=stC) (z:=a1.length+i) (by omega) (aEe huv (by omega)) rfl) (dZ (k:=4) (enc:=stC) (z:=a1.length+i) (by omega) (aEe huv (by omega)) rfl)) (aF (aH 20 [] (by kernel_rfl) ⟨?_,trivial⟩))))⟩
     ·
      refine⟨_,rfl,rfl,(ao rfl ?_)⟩
      refine aG rfl (cL rfl rfl cH bH (by omega)) ?_
      refine aF (aH 21 [] (by kernel_rfl) ⟨?_,trivial⟩)
      ·
       refine⟨_,rfl,rfl,(ao rfl (aU hf rfl rfl bH rfl rfl (by simp [stC,AV.cells,AV.one,Value.oneCell']) (by simp [stC,AV.cells,AV.leaf,Value.oneCell']) (fD (k:=4) (enc:=stC) (z:=a1.length+i) (v:=v[i]) (by omega) (by rw[hsl]; omega) rfl rfl rfl) ?_))⟩
       refine aF (aH 22 [] (by kernel_rfl) ⟨?_,trivial⟩)
       ·
        refine⟨_,rfl,rfl,(ao rfl ?_)⟩
        refine aG rfl (cL rfl rfl cH bH (by omega)) ?_
        refine aF (aH 23 [] (by kernel_rfl) ⟨?_,trivial⟩)
        ·
         refine⟨_,rfl,rfl,(ao rfl (aU hf rfl rfl bH rfl rfl (by simp [stC,AV.cells,AV.one,Value.oneCell']) (by simp [stC,AV.cells,AV.leaf,Value.oneCell']) (fD (k:=4) (enc:=stC) (z:=a1.length+u.length+b1.length+i) (v:=u[i]) (by omega) (by rw[List.length_set,hsl]; omega) rfl rfl rfl) ?_))⟩
         refine aF (dF (by kernel_rfl) ?_)
         refine hK4 _ (aB (aE aA 1 rfl ?_))
         refine aG rfl (bN rfl rfl (by omega) (by omega)) ?_
         refine aE aA 1 rfl (aD ?_)
         exact⟨i+1,by omega,by omega,cJ ⟨rfl,rfl,rfl,rfl,rfl,trivial⟩ (by rw[← aLw huv (by omega)]; rfl)⟩
   ·
    refine⟨_,rfl,rfl,(ao rfl (aG rfl (bW rfl eP bH rfl (eS (k:=4) (enc:=stC) (z:=a1.length+i) (by omega) (aEe huv (by omega)) rfl) (dZ (k:=4) (enc:=stC) (z:=a1.length+i) (by omega) (aEe huv (by omega)) rfl)) (aF (aH 13 [] (by kernel_rfl) ⟨?_,trivial⟩))))⟩
    ·
     refine⟨_,rfl,rfl,(ao rfl (aG rfl (bW rfl eP bH rfl (eS (k:=4) (enc:=stC) (z:=a1.length+u.length+b1.length+i) (by omega) (aEd huv (by omega)) rfl) (dZ (k:=4) (enc:=stC) (z:=a1.length+u.length+b1.length+i) (by omega) (aEd huv (by omega)) rfl)) (aF (aH 20 [] (by kernel_rfl) ⟨?_,trivial⟩))))⟩
     ·
      refine⟨_,rfl,rfl,(ao rfl ?_)⟩
      refine aG rfl (cL rfl rfl cH bH (by omega)) ?_
      refine aF (aH 21 [] (by kernel_rfl) ⟨?_,trivial⟩)
      ·
       refine⟨_,rfl,rfl,(ao rfl (aU hf rfl rfl bH rfl rfl (by simp [stC,AV.cells,AV.one,Value.oneCell']) (by simp [stC,AV.cells,AV.leaf,Value.oneCell']) (fD (k:=4) (enc:=stC) (z:=a1.length+i) (v:=v[i]) (by omega) (by rw[hsl]; omega) rfl rfl rfl) ?_))⟩
       refine aF (aH 22 [] (by kernel_rfl) ⟨?_,trivial⟩)
       ·
        refine⟨_,rfl,rfl,(ao rfl ?_)⟩
        refine aG rfl (cL rfl rfl cH bH (by omega)) ?_
        refine aF (aH 23 [] (by kernel_rfl) ⟨?_,trivial⟩)
        ·
         refine⟨_,rfl,rfl,(ao rfl (aU hf rfl rfl bH rfl rfl (by simp [stC,AV.cells,AV.one,Value.oneCell']) (by simp [stC,AV.cells,AV.leaf,Value.oneCell']) (fD (k:=4) (enc:=stC) (z:=a1.length+u.length+b1.length+i) (v:=u[i]) (by omega) (by rw[List.length_set,hsl]; omega) rfl rfl rfl) ?_))⟩
         refine aF (dF (by kernel_rfl) ?_)
         refine hK4 _ (aB (aE aA 1 rfl ?_))
         refine aG rfl (bN rfl rfl (by omega) (by omega)) ?_
         refine aE aA 1 rfl (aD ?_)
         exact⟨i+1,by omega,by omega,cJ ⟨rfl,rfl,rfl,rfl,rfl,trivial⟩ (by rw[← aLw huv (by omega)]; rfl)⟩
  ·
   simp only[bs] at hc1
   refine bB ?_
   refine⟨_,_,_,Le.refl _,rfl,rfl,?_⟩
   have hi:i=u.length:=by omega
   rw[hi,swr,← huv,List.take_length,List.drop_length,huv,List.take_length,List.drop_length,List.append_nil,List.append_nil]
theorem aP1 (g:Nat) (p s1 s2 q:List bS) (N:Nat) (za zm zb:Int) (hN:N=p.length+s1.length+s2.length+q.length) (hza:za=(p.length:Nat)) (hzm:zm=((p.length+s1.length:Nat):Int)) (hzb:zb=((p.length+s1.length+s2.length:Nat):Int)) (h01:0<s1.length) (h02:0<s2.length) (hM:N<4611686018427387904) :DenM Tryz.prog 192 [.own E0 4 0 N,.s (.int .i64 za),.s (.int .i64 zm),.s (.int .i64 zb),.fn g []] 4 ((List.map stC (p++(s1++(s2++q))))) (fun r ys=>ys=(List.map stC (p++(s2++(s1++q))))):=by
 subst hza
 subst hzm
 subst hzb
 refine iL Tryz.func192 rfl (Nat.le_of_ble_eq_true rfl) (fun w0 x0 A hf=>?_)
 refine aC (fun K1 hK1=>(aB (aE aA 2 rfl ?_)))
 refine aG rfl (fB rfl rfl (by omega) (by omega)) ?_
 refine aE aA 1 rfl (aD (hK1 _ (aC (fun K2 hK2=>(aB (aE aA 2 rfl ?_))))))
 refine aG rfl (fB rfl rfl (by omega) (by omega)) ?_
 refine aE aA 1 rfl (aD (hK2 _ (aC (fun K3 hK3=>(aQ (bR (ι:=(List bS×List bS)×(List bS×List bS)) (fun(⟨⟨L,u⟩,⟨v,R⟩⟩:(List bS×List bS)×(List bS×List bS))=>⟨58,[(0,.own E0 4 0 N),(2,.s (.int .i64 ((p.length+s1.length:Nat):Int))),(4,.fn g []),(10,.s (.int .i64 (u.length:Nat))),(11,.s (.int .i64 (v.length:Nat)))],[(E0,.buf 4 (List.map stC (L++(u++(v++R)))))]⟩) (fun(⟨⟨L,u⟩,⟨v,R⟩⟩:(List bS×List bS)×(List bS×List bS))=>L.length+u.length=p.length+s1.length∧0<u.length∧0<v.length∧L++(v++(u++R))=p++(s2++(s1++q))) (fun(⟨⟨L,u⟩,⟨v,R⟩⟩:(List bS×List bS)×(List bS×List bS))=>u.length+v.length) ((p,s1),(s2,q)) ?_ ?_ ?_))))))
 · exact⟨rfl,h01,h02,rfl⟩
 · exact cJ ⟨rfl,rfl,rfl,aV (by omega),aV (by omega),trivial⟩ rfl
 ·
  rintro ⟨⟨L,u⟩,⟨v,R⟩⟩ hC
  obtain ⟨hl,hu,hv,ht⟩:=hC
  have htl:=congrArg List.length ht
  simp only[List.length_append] at htl
  have hf1:=List.length_take (i:=v.length) (l:=u)
  have hf2:=List.length_drop (i:=v.length) (l:=u)
  have hf3:=List.length_take (i:=v.length - u.length) (l:=v)
  have hf4:=List.length_drop (i:=v.length - u.length) (l:=v)
  refine aC (fun K4 hK4=>(aC (fun K5 hK5=>(aB (aE aA 3 rfl (aD (hK5 _ (aL rfl (fun hc1=>?_) (fun hc1=>?_)))))))))
  ·
   simp only[bs] at hc1
   refine aM (hK4 _ (aQ (aC (fun K6 hK6=>(aB (aE aA 3 rfl (aD (hK6 _ (aL rfl (fun hc2=>?_) (fun hc2=>?_))))))))))
   ·
    simp only[bs] at hc2
    refine aC (fun K7 hK7=>(aB ?_))
    rw[show L++(u++(v++R))=L++(u.take v.length++(u.drop v.length++(v++R))) from by rw[← List.append_assoc (u.take v.length),List.take_append_drop]]
    refine aE aA 3 rfl ?_
    refine aG rfl (fB rfl rfl (by omega) (by omega)) ?_
    refine aE aA 3 rfl (hZ hf E0 rfl rfl rfl rfl rfl wV (vR g L (u.take v.length) (u.drop v.length) v R N _ _ _ (by omega) (by omega) (by omega) (by omega) (by omega) hM) ?_)
    rintro r zs rfl
    refine aD (hK7 _ (aB (aE aA 2 rfl ?_)))
    refine aG rfl (fB rfl rfl (by omega) (by omega)) ?_
    refine aE aA 1 rfl ?_
    refine bK ?_
    exact⟨((L++v,u.drop v.length),(u.take v.length,R)),⟨by rw[List.length_append]; omega,by omega,by omega,by rw[← ht]; simp [← List.append_assoc (u.take v.length)]⟩,by simp only; omega,cJ ⟨rfl,rfl,rfl,aV (by omega),aV (by omega),trivial⟩ (by rw[List.append_assoc L v]; rfl)⟩
   ·
    simp only[bs] at hc2
    refine aC (fun K8 hK8=>(aB ?_))
    rw[show L++(u++(v++R))=L++(u++(v.take (v.length - u.length)++(v.drop (v.length - u.length)++R))) from by rw[← List.append_assoc (v.take (v.length - u.length)),List.take_append_drop]]
    refine aE aA 3 rfl ?_
    refine aG rfl (fB rfl rfl (by omega) (by omega)) ?_
    refine aE aA 2 rfl ?_
    refine aG rfl (bN rfl rfl (by omega) (by omega)) ?_
    refine aE aA 1 rfl ?_
    refine aG rfl (fB rfl rfl (by omega) (by omega)) ?_
    refine aE aA 2 rfl (hZ hf E0 rfl rfl rfl rfl rfl wV (vR g L u (v.take (v.length - u.length)) (v.drop (v.length - u.length)) R N _ _ _ (by omega) (by omega) (by omega) (by omega) (by omega) hM) ?_)
    rintro r zs rfl
    refine aD (hK8 _ (aB (aE aA 2 rfl ?_)))
    refine aG rfl (fB rfl rfl (by omega) (by omega)) ?_
    refine aE aA 1 rfl ?_
    refine bK ?_
    exact⟨((L,v.drop (v.length - u.length)),(v.take (v.length - u.length),u++R)),⟨by omega,by omega,by omega,by rw[← ht]; simp [← List.append_assoc (v.take (v.length - u.length))]⟩,by simp only; omega,cJ ⟨rfl,rfl,rfl,aV (by omega),aV (by omega),trivial⟩ rfl⟩
  ·
   simp only[bs] at hc1
   refine bB (hK3 _ (aB ?_))
   rw[show L++(u++(v++R))=L++(u++([]++(v++R))) from rfl]
   refine aE aA 3 rfl ?_
   refine aG rfl (fB rfl rfl (by omega) (by omega)) ?_
   refine aE aA 3 rfl (hZ hf E0 rfl rfl rfl rfl rfl wV (vR g L u [] v R N _ _ _ (by simp only[List.length_nil]; omega) (by omega) (by omega) (by simp only[List.length_nil]; omega) (by omega) hM) ?_)
   rintro r zs rfl
   refine bK ?_
   refine⟨_,_,_,Le.refl _,rfl,rfl,?_⟩
   rw[← ht]; rfl
theorem aE5 {g:Nat} (hent:∀ args w,(callFunc g args).run Tryz.prog w=.ok (.enter g args) w) {c:bS→bS→Int} (hc:Tri c) (hcmp:∀ x y:bS,Den Tryz.prog g [.agg (stC x),.agg (stC y)] (·=.s (.int .i64 (c x y)))) (p s0 q:List bS) (N:Nat) (za zb:Int) (hN:N=p.length+s0.length+q.length) (hza:za=(p.length:Nat)) (hzb:zb=((p.length+s0.length:Nat):Int)) (hM:N<4611686018427387904) :DenM Tryz.prog 189 [.own E0 4 0 N,.s (.int .i64 za),.s (.int .i64 zb),.fn g []] 4 ((List.map stC (p++(s0++q)))) (fun r ys=>∃ t:List bS,t.Perm s0∧Srt c t∧ys=(List.map stC (p++(t++q)))):=by
 subst hza
 subst hzb
 refine iL Tryz.func189 rfl (Nat.le_of_ble_eq_true rfl) (fun w0 x0 A hf=>?_)
 refine aC (fun K1 hK1=>(aB (aE aA 1 rfl ?_)))
 refine aG rfl (bN rfl rfl (by omega) (by omega)) ?_
 refine aE aA 1 rfl (aD (hK1 _ (aQ (bR (ι:=List bS×List bS) (fun(⟨s1,s2⟩:List bS×List bS)=>⟨53,[(0,.own E0 4 0 N),(1,.s (.int .i64 (p.length:Nat))),(2,.s (.int .i64 ((p.length+s0.length:Nat):Int))),(3,.fn g []),(8,.s (.int .i64 ((p.length+1+(s1.length - 1):Nat):Int)))],[(E0,.buf 4 (List.map stC (p++(s1++(s2++q)))))]⟩) (fun(⟨s1,s2⟩:List bS×List bS)=>Srt c s1∧(s1++s2).Perm s0∧(0<s1.length∨s0=[])) (fun(⟨s1,s2⟩:List bS×List bS)=>s2.length) (s0.take 1,s0.drop 1) ?_ ?_ ?_))))
 · exact⟨srt_one (by simp; omega),by rw[List.take_append_drop],by cases s0 <;> simp⟩
 · exact cJ ⟨rfl,rfl,rfl,rfl,aV (by have:=List.length_take (i:=1) (l:=s0); omega),trivial⟩ (by rw[← List.append_assoc (s0.take 1),List.take_append_drop])
 ·
  rintro ⟨s1,s2⟩ hC
  obtain ⟨hs1,hp12,hne⟩:=hC
  have hpl:=hp12.length_eq
  rw[List.length_append] at hpl
  have hnl:s0=[]→s0.length=0:=fun h=>by rw[h]; rfl
  refine aC (fun K2 hK2=>(aC (fun K3 hK3=>(aB (aE aA 3 rfl (aD (hK3 _ (aL rfl (fun hc1=>?_) (fun hc1=>?_)))))))))
  ·
   simp only[bs] at hc1
   refine aM (hK2 _ (aC (fun K4 hK4=>(aQ (aC (fun K5 hK5=>(aB ?_)))))))
   have h0:0<s1.length:=by rcases hne with h | h; exact h; exfalso; have:=hnl h; omega
   obtain ⟨e,s3,rfl⟩:∃ e s3,s2=e::s3:=by
    cases s2 with
    | nil=>exfalso; simp only[List.length_nil] at hpl; omega
    | cons e r=>exact⟨e,r,rfl⟩
   simp only[List.length_cons] at hpl
   refine aE aA 2 rfl (aD (hK5 _ (aQ (bR (ι:=List bS×List bS) (fun(⟨u,v⟩:List bS×List bS)=>⟨53,[(0,.own E0 4 0 N),(1,.s (.int .i64 (p.length:Nat))),(2,.s (.int .i64 ((p.length+s0.length:Nat):Int))),(3,.fn g []),(8,.s (.int .i64 ((p.length+1+(s1.length - 1):Nat):Int))),(9,.s (.int .i64 ((p.length+u.length:Nat):Int)))],[(E0,.buf 4 (List.map stC (p++(u++(e::(v++(s3++q)))))))]⟩) (fun(⟨u,v⟩:List bS×List bS)=>u++v=s1∧∀ y∈v,c e y≤0) (fun(⟨u,v⟩:List bS×List bS)=>u.length) (s1,[]) ?_ ?_ ?_))))
   · exact⟨List.append_nil _,by simp⟩
   · exact cJ ⟨rfl,rfl,rfl,rfl,rfl,aV (by omega),trivial⟩ rfl
   ·
    rintro ⟨u,v⟩ hC
    obtain ⟨huv,hv⟩:=hC
    have hul:=congrArg List.length huv
    rw[List.length_append] at hul
    refine aC (fun K6 hK6=>(aC (fun K7 hK7=>(cM hf bE (by kernel_rfl) rfl (aT aA 4 rfl (dP 21 true rfl (fun hg2=>?_) (fun hg2=>?_)))))))
    ·
     simp only[bs] at hg2
     obtain ⟨u1,z,hu1⟩:=last_of (u:=u) (by omega)
     have hu2:=congrArg List.length hu1
     simp only[List.length_append,List.length_cons,List.length_nil] at hu2
     refine aT aA 3 rfl ?_
     refine bL [(23,_),(24,_)] rfl rfl ⟨⟨rfl,rfl⟩,⟨rfl,rfl⟩,trivial⟩ rfl (cL rfl rfl cH bH (by omega)) ?_
     refine bL [(25,_)] rfl rfl ⟨⟨rfl,rfl⟩,trivial⟩ rfl (bW rfl eP bH rfl (eS (k:=4) (enc:=stC) (z:=p.length+u.length) (by omega) (atQ (p:=p++u) (q:=v++(s3++q)) (x:=e) (by simp) (by simp)) rfl) (dZ (k:=4) (enc:=stC) (z:=p.length+u.length) (by omega) (atQ (p:=p++u) (q:=v++(s3++q)) (x:=e) (by simp) (by simp)) rfl)) ?_
     refine aT aA 2 rfl ?_
     refine bL [(28,_)] rfl rfl ⟨⟨rfl,rfl⟩,trivial⟩ rfl (fB rfl rfl (by omega) (by omega)) ?_
     refine bL [(27,_),(29,_)] rfl rfl ⟨⟨rfl,rfl⟩,⟨rfl,rfl⟩,trivial⟩ rfl (cL rfl rfl cH bH (by omega)) ?_
     refine bL [(30,_)] rfl rfl ⟨⟨rfl,rfl⟩,trivial⟩ rfl (bW rfl eP bH rfl (eS (k:=4) (enc:=stC) (z:=p.length+u1.length) (by omega) (atQ (p:=p++u1) (q:=e::(v++(s3++q))) (x:=z) (by rw[hu1]; simp) (by simp)) rfl) (dZ (k:=4) (enc:=stC) (z:=p.length+u1.length) (by omega) (atQ (p:=p++u1) (q:=e::(v++(s3++q))) (x:=z) (by rw[hu1]; simp) (by simp)) rfl)) ?_
     refine aZ [(22,_),(26,_),(31,_)] rfl rfl ⟨⟨rfl,rfl⟩,⟨rfl,rfl⟩,⟨rfl,rfl⟩,trivial⟩ rfl (aK rfl rfl hent rfl (hcmp e z)) (aT aA 2 rfl (cP [0,1,2,3,8,9,34] rfl rfl rfl (hK7 _ (aL rfl (fun hc3=>?_) (fun hc3=>?_)))))
     ·
      simp only[bs] at hc3
      refine aM (hK6 _ (aC (fun K8 hK8=>(aQ (dY bE ?_)))))
      refine cE (listed':=#[true,false,false,false,false,false,false,false,false,false,false,false,false,false,false,false,false,false]) 0 rfl (by kernel_rfl) (by kernel_rfl) (by kernel_rfl) rfl (fun _ _ h=>h) (eO rfl) ?_
      refine cE (listed':=#[true,true,false,false,false,false,false,false,false,false,false,false,false,false,false,false,false,false]) 1 rfl (by kernel_rfl) (by kernel_rfl) (by kernel_rfl) rfl (fun _ _ h=>h) (eO rfl) ?_
      refine cE (listed':=#[true,true,true,false,false,false,false,false,false,false,false,false,false,false,false,false,false,false]) 2 rfl (by kernel_rfl) (by kernel_rfl) (by kernel_rfl) rfl (fun _ _ h=>h) (eO rfl) ?_
      refine cE (listed':=#[true,true,true,true,false,false,false,false,false,false,false,false,false,false,false,false,false,false]) 3 rfl (by kernel_rfl) (by kernel_rfl) (by kernel_rfl) rfl (fun _ _ h=>h) (eO rfl) ?_
      refine cE (listed':=#[true,true,true,true,true,false,false,false,false,false,false,false,false,false,false,false,false,false]) 4 rfl (by kernel_rfl) (by kernel_rfl) (by kernel_rfl) rfl (fun _ _ h=>h) (aSf rfl rfl (by omega) (by omega)) ?_
      refine cE (listed':=#[true,true,true,true,true,true,false,false,false,false,false,false,false,false,false,false,false,false]) 5 rfl (by kernel_rfl) (by kernel_rfl) (by kernel_rfl) rfl (fun _ _ h=>h) (eO rfl) ?_
      refine cE (listed':=#[true,true,true,true,true,true,true,false,false,false,false,false,false,false,false,false,false,false]) 6 rfl (by kernel_rfl) (by kernel_rfl) (by kernel_rfl) rfl (fun _ _ h=>h) (eO rfl) ?_
      refine cE (listed':=#[true,true,true,true,true,true,true,true,false,false,false,false,false,false,false,false,false,false]) 7 rfl (by kernel_rfl) (by kernel_rfl) (by kernel_rfl) rfl (fun _ _ h=>h) (aSf rfl rfl (by omega) (by omega)) ?_
      refine cE (listed':=#[true,true,true,true,true,true,true,true,true,false,false,false,false,false,false,false,false,false]) 8 rfl (by kernel_rfl) (by kernel_rfl) (by kernel_rfl) rfl (fun _ _ h=>h) (nG rfl rfl cH bH (by omega)) ?_
      refine cE (listed':=#[true,true,true,true,true,true,true,true,true,false,true,false,false,false,false,false,false,false]) 10 rfl (by kernel_rfl) (by kernel_rfl) (by kernel_rfl) rfl (fun _ _ h=>h) (eO rfl) ?_
      refine cE (listed':=#[true,true,true,true,true,true,true,true,true,false,true,true,false,false,false,false,false,false]) 11 rfl (by kernel_rfl) (by kernel_rfl) (by kernel_rfl) rfl (fun _ _ h=>h) (eO rfl) ?_
      refine cE (listed':=#[true,true,true,true,true,true,true,true,true,false,true,true,true,false,false,false,false,false]) 12 rfl (by kernel_rfl) (by kernel_rfl) (by kernel_rfl) rfl (fun _ _ h=>h) (nG rfl rfl cH bH (by omega)) ?_
      refine jM (eR [0,1,2,3,8,9,37,38,39,41,45,49] rfl) (aH 9 [13] (by kernel_rfl) ⟨?_,?_,trivial⟩)
      ·
       refine⟨_,rfl,rfl,(ao rfl (aG rfl (bW rfl eP bH rfl (eS (k:=4) (enc:=stC) (z:=p.length+u1.length) (by omega) (atQ (p:=p++u1) (q:=e::(v++(s3++q))) (x:=z) (by rw[hu1]; simp) (by simp)) rfl) (dZ (k:=4) (enc:=stC) (z:=p.length+u1.length) (by omega) (atQ (p:=p++u1) (q:=e::(v++(s3++q))) (x:=z) (by rw[hu1]; simp) (by simp)) rfl)) ?_))⟩
       refine aF (aH 13 [] (by kernel_rfl) ⟨?_,trivial⟩)
       ·
        refine⟨_,rfl,rfl,(ao rfl (aG rfl (bW rfl eP bH rfl (eS (k:=4) (enc:=stC) (z:=p.length+u.length) (by omega) (atQ (p:=p++u) (q:=v++(s3++q)) (x:=e) (by simp) (by simp)) rfl) (dZ (k:=4) (enc:=stC) (z:=p.length+u.length) (by omega) (atQ (p:=p++u) (q:=v++(s3++q)) (x:=e) (by simp) (by simp)) rfl)) ?_))⟩
        refine aF (aH 14 [] (by kernel_rfl) ⟨?_,trivial⟩)
        ·
         refine⟨_,rfl,rfl,(ao rfl ?_)⟩
         refine aG rfl (cL rfl rfl cH bH (by omega)) ?_
         refine aF (aH 15 [] (by kernel_rfl) ⟨?_,trivial⟩)
         ·
          refine⟨_,rfl,rfl,(ao rfl (aU hf rfl rfl bH rfl rfl (by simp [stC,AV.cells,AV.one,Value.oneCell']) (by simp [stC,AV.cells,AV.leaf,Value.oneCell']) (fD (k:=4) (enc:=stC) (z:=p.length+u.length) (v:=z) (by omega) (by simp only[List.length_append,List.length_cons,List.length_set]; omega) rfl rfl rfl) ?_))⟩
          refine aF (aH 16 [] (by kernel_rfl) ⟨?_,trivial⟩)
          ·
           refine⟨_,rfl,rfl,(ao rfl ?_)⟩
           refine aG rfl (cL rfl rfl cH bH (by omega)) ?_
           refine aF (aH 17 [] (by kernel_rfl) ⟨?_,trivial⟩)
           ·
            refine⟨_,rfl,rfl,(ao rfl (aU hf rfl rfl bH rfl rfl (by simp [stC,AV.cells,AV.one,Value.oneCell']) (by simp [stC,AV.cells,AV.leaf,Value.oneCell']) (fD (k:=4) (enc:=stC) (z:=p.length+u1.length) (v:=e) (by omega) (by simp only[List.length_append,List.length_cons,List.length_set]; omega) rfl rfl rfl) ?_))⟩
            refine aF (dF (by kernel_rfl) ?_)
            refine hK8 _ (aB (aE aA 1 rfl ?_))
            refine aG rfl (fB rfl rfl (by omega) (by omega)) ?_
            refine aE aA 1 rfl (aD ?_)
            exact⟨(u1,z::v),⟨by rw[← huv,hu1]; simp,fun y hy=>by
             rcases List.mem_cons.1 hy with rfl | hy
             · omega
             · exact hv y hy⟩,by simp only; omega,cJ ⟨rfl,rfl,rfl,rfl,rfl,aV (by omega),trivial⟩ (congrArg (fun l=>[(E0,AM.buf 4 (List.map stC l))]) ((xJ (p:=p++u1) (x:=z) (y:=e) (q:=v++(s3++q)) (by rw[hu1]; simp) (by simp; omega) (by simp)).trans (by simp)))⟩
      ·
       refine⟨_,rfl,rfl,(ao rfl (aG rfl (bW rfl eP bH rfl (eS (k:=4) (enc:=stC) (z:=p.length+u.length) (by omega) (atQ (p:=p++u) (q:=v++(s3++q)) (x:=e) (by simp) (by simp)) rfl) (dZ (k:=4) (enc:=stC) (z:=p.length+u.length) (by omega) (atQ (p:=p++u) (q:=v++(s3++q)) (x:=e) (by simp) (by simp)) rfl)) ?_))⟩
       refine aF (aH 9 [] (by kernel_rfl) ⟨?_,trivial⟩)
       ·
        refine⟨_,rfl,rfl,(ao rfl (aG rfl (bW rfl eP bH rfl (eS (k:=4) (enc:=stC) (z:=p.length+u1.length) (by omega) (atQ (p:=p++u1) (q:=e::(v++(s3++q))) (x:=z) (by rw[hu1]; simp) (by simp)) rfl) (dZ (k:=4) (enc:=stC) (z:=p.length+u1.length) (by omega) (atQ (p:=p++u1) (q:=e::(v++(s3++q))) (x:=z) (by rw[hu1]; simp) (by simp)) rfl)) ?_))⟩
        refine aF (aH 14 [] (by kernel_rfl) ⟨?_,trivial⟩)
        ·
         refine⟨_,rfl,rfl,(ao rfl ?_)⟩
         refine aG rfl (cL rfl rfl cH bH (by omega)) ?_
         refine aF (aH 15 [] (by kernel_rfl) ⟨?_,trivial⟩)
         ·
          refine⟨_,rfl,rfl,(ao rfl (aU hf rfl rfl bH rfl rfl (by simp [stC,AV.cells,AV.one,Value.oneCell']) (by simp [stC,AV.cells,AV.leaf,Value.oneCell']) (fD (k:=4) (enc:=stC) (z:=p.length+u.length) (v:=z) (by omega) (by simp only[List.length_append,List.length_cons,List.length_set]; omega) rfl rfl rfl) ?_))⟩
          refine aF (aH 16 [] (by kernel_rfl) ⟨?_,trivial⟩)
          ·
           refine⟨_,rfl,rfl,(ao rfl ?_)⟩
           refine aG rfl (cL rfl rfl cH bH (by omega)) ?_
           refine aF (aH 17 [] (by kernel_rfl) ⟨?_,trivial⟩)
           ·
            refine⟨_,rfl,rfl,(ao rfl (aU hf rfl rfl bH rfl rfl (by simp [stC,AV.cells,AV.one,Value.oneCell']) (by simp [stC,AV.cells,AV.leaf,Value.oneCell']) (fD (k:=4) (enc:=stC) (z:=p.length+u1.length) (v:=e) (by omega) (by simp only[List.length_append,List.length_cons,List.length_set]; omega) rfl rfl rfl) ?_))⟩
            refine aF (dF (by kernel_rfl) ?_)
            refine hK8 _ (aB (aE aA 1 rfl ?_))
            refine aG rfl (fB rfl rfl (by omega) (by omega)) ?_
            refine aE aA 1 rfl (aD ?_)
            exact⟨(u1,z::v),⟨by rw[← huv,hu1]; simp,fun y hy=>by
             rcases List.mem_cons.1 hy with rfl | hy
             · omega
             · exact hv y hy⟩,by simp only; omega,cJ ⟨rfl,rfl,rfl,rfl,rfl,aV (by omega),trivial⟩ (congrArg (fun l=>[(E0,AM.buf 4 (List.map stC l))]) ((xJ (p:=p++u1) (x:=z) (y:=e) (q:=v++(s3++q)) (by rw[hu1]; simp) (by simp; omega) (by simp)).trans (by simp)))⟩
     ·
      simp only[bs] at hc3
      refine bB (hK4 _ (aB (aE aA 1 rfl ?_)))
      refine aG rfl (bN rfl rfl (by omega) (by omega)) ?_
      refine aE aA 1 rfl (aD ?_)
      exact⟨(u++e::v,s3),⟨aGb hc (by rw[huv]; exact hs1) hv (fun z' hz'=>by rw[hu1] at hz'; simp at hz'; subst hz'; have:=hc.swap e z; omega),aM1 huv hp12,.inl (by simp only[List.length_append,List.length_cons]; omega)⟩,by simp,cJ ⟨rfl,rfl,rfl,rfl,aV (by simp only[List.length_append,List.length_cons]; omega),trivial⟩ (by simp)⟩
    ·
     simp only[bs] at hg2
     refine aT aA 13 rfl (cP [0,1,2,3,8,9,34] rfl rfl rfl (hK7 _ (bG rfl (bB (hK4 _ (aB (aE aA 1 rfl ?_)))))))
     refine aG rfl (bN rfl rfl (by omega) (by omega)) ?_
     refine aE aA 1 rfl (aD ?_)
     exact⟨(u++e::v,s3),⟨aGb hc (by rw[huv]; exact hs1) hv (fun z' hz'=>by rw[List.eq_nil_of_length_eq_zero (show u.length=0 by omega)] at hz'; simp at hz'),aM1 huv hp12,.inl (by simp only[List.length_append,List.length_cons]; omega)⟩,by simp,cJ ⟨rfl,rfl,rfl,rfl,aV (by simp only[List.length_append,List.length_cons]; omega),trivial⟩ (by simp)⟩
  ·
   simp only[bs] at hc1
   refine bB ?_
   have hs2:s2=[]:=List.eq_nil_of_length_eq_zero (by rcases hne with h | h; omega; have:=hnl h; omega)
   subst hs2
   exact⟨_,_,_,Le.refl _,rfl,rfl,s1,by simpa using hp12,hs1,rfl⟩
theorem aE4 {g:Nat} (hent:∀ args w,(callFunc g args).run Tryz.prog w=.ok (.enter g args) w) {c:bS→bS→Int} (hc:Tri c) (hcmp:∀ x y:bS,Den Tryz.prog g [.agg (stC x),.agg (stC y)] (·=.s (.int .i64 (c x y)))) (NN:Nat) (ih:∀ (p s1 s2 q:List bS) (N:Nat) (za zm zb:Int),s1.length+s2.length≤NN→N=p.length+s1.length+s2.length+q.length→za=(p.length:Nat)→zm=((p.length+s1.length:Nat):Int)→zb=((p.length+s1.length+s2.length:Nat):Int)→0<s1.length→0<s2.length→Srt c s1→Srt c s2→N<4611686018427387904→DenM Tryz.prog 190 [.own E0 4 0 N,.s (.int .i64 za),.s (.int .i64 zm),.s (.int .i64 zb),.fn g []] 4 (List.map stC (p++(s1++(s2++q)))) (fun r ys=>∃ t:List bS,t.Perm (s1++s2)∧Srt c t∧ys=(List.map stC (p++(t++q))))) (p s1 s2 q:List bS) (N:Nat) (za zm zb:Int) (hle:s1.length+s2.length≤NN+1) (hN:N=p.length+s1.length+s2.length+q.length) (hza:za=(p.length:Nat)) (hzm:zm=((p.length+s1.length:Nat):Int)) (hzb:zb=((p.length+s1.length+s2.length:Nat):Int)) (h01:0<s1.length) (h02:0<s2.length) (hs1:Srt c s1) (hs2:Srt c s2) (hM:N<4611686018427387904) :DenM Tryz.prog 190 [.own E0 4 0 N,.s (.int .i64 za),.s (.int .i64 zm),.s (.int .i64 zb),.fn g []] 4 ((List.map stC (p++(s1++(s2++q))))) (fun r ys=>∃ t:List bS,t.Perm (s1++s2)∧Srt c t∧ys=(List.map stC (p++(t++q)))):=by
 subst hza
 subst hzm
 subst hzb
 refine iL Tryz.func190 rfl (Nat.le_of_ble_eq_true rfl) (fun w0 x0 A hf=>?_)
 refine aC (fun K1 hK1=>(aC (fun K2 hK2=>(aB (aE aA 2 rfl ?_)))))
 refine aG rfl (fB rfl rfl (by omega) (by omega)) ?_
 refine aE aA 1 rfl (aD (hK2 _ (aL rfl (fun hc1=>?_) (fun hc1=>?_))))
 ·
  simp only[bs] at hc1
  obtain ⟨x,hx1⟩:∃ x,s1=[x]:=List.length_eq_one_iff.1 (by omega)
  have hl1:s1.length=1:=by rw[hx1]; rfl
  refine aC (fun K3 hK3=>(aB (aE aA 2 rfl (aD (hK3 _ (aC (fun K4 hK4=>(aB (aE aA 2 rfl (aD (hK4 _ (aC (fun K5 hK5=>(aQ (bR (ι:=Nat×Nat) (fun(⟨i,j⟩:Nat×Nat)=>⟨220,[(0,.own E0 4 0 N),(1,.s (.int .i64 (p.length:Nat))),(4,.fn g []),(10,.s (.int .i64 ((p.length+s1.length+i:Nat):Int))),(11,.s (.int .i64 ((p.length+s1.length+j:Nat):Int)))],[(E0,.buf 4 (List.map stC (p++(s1++(s2++q)))))]⟩) (fun(⟨i,j⟩:Nat×Nat)=>i≤j∧j≤s2.length∧(∀ z,s2[i - 1]?=some z→0<i→c z x≤0)∧(∀ z,s2[j]?=some z→c x z≤0)) (fun(⟨i,j⟩:Nat×Nat)=>j - i) (0,s2.length) ?_ ?_ ?_)))))))))))))))
  · exact⟨Nat.zero_le _,Nat.le_refl _,fun _ _ h=>absurd h (by omega),fun z hz=>by rw[List.getElem?_eq_none (Nat.le_refl _)] at hz; cases hz⟩
  · exact cJ ⟨(by first | rfl | exact aV (by omega)),(by first | rfl | exact aV (by omega)),(by first | rfl | exact aV (by omega)),(by first | rfl | exact aV (by omega)),(by first | rfl | exact aV (by omega)),trivial⟩ rfl
  ·
   rintro ⟨i,j⟩ hC
   obtain ⟨q1,q2,q3,q4⟩:=hC
   refine aC (fun K6 hK6=>(aC (fun K7 hK7=>(aB (aE aA 3 rfl (aD (hK7 _ (aL rfl (fun hc2=>?_) (fun hc2=>?_)))))))))
   ·
    simp only[bs] at hc2
    refine aM (hK6 _ (aQ (aC (fun K8 hK8=>(aB ?_)))))
    obtain ⟨h,eh⟩:∃ h,h=(i+j) / 2:=⟨_,rfl⟩
    have hz:=aB3 (a:=((p.length+s1.length+i:Nat):Int)+((p.length+s1.length+j:Nat):Int)) (b:=((p.length+s1.length+h:Nat):Int)) (by omega) (by omega) (by omega)
    refine aE aA 2 rfl ?_
    refine aG rfl (bN rfl rfl (by omega) (by omega)) ?_
    refine aG rfl (qG rfl Tryz.underlying3 Tryz.underlying225 hz.1) (aG rfl (aBv rfl hz.2.1 (by decide)) (aG rfl (qG rfl Tryz.underlying225 Tryz.underlying3 hz.2.2) (aE aA 1 rfl (aD (hK8 _ (aC (fun K9 hK9=>(cM hf bE (by kernel_rfl) rfl ?_))))))))
    have hh2:h<s2.length:=by omega
    refine aT aA 3 rfl ?_
    refine bL [(41,_),(42,_)] rfl rfl ⟨⟨rfl,rfl⟩,⟨rfl,rfl⟩,trivial⟩ rfl (cL rfl rfl cH bH (by omega)) ?_
    refine bL [(43,_)] rfl rfl ⟨⟨rfl,rfl⟩,trivial⟩ rfl (bW rfl eP bH rfl (eS (k:=4) (enc:=stC) (z:=p.length+s1.length+h) (by omega) (atM hh2) rfl) (dZ (k:=4) (enc:=stC) (z:=p.length+s1.length+h) (by omega) (atM hh2) rfl)) (aT aA 2 rfl ?_)
    refine bL [(45,_),(46,_)] rfl rfl ⟨⟨rfl,rfl⟩,⟨rfl,rfl⟩,trivial⟩ rfl (cL rfl rfl cH bH (by omega)) ?_
    refine bL [(47,_)] rfl rfl ⟨⟨rfl,rfl⟩,trivial⟩ rfl (bW rfl eP bH rfl (eS (k:=4) (enc:=stC) (z:=p.length) (by omega) (atQ (p:=p) (q:=s2++q) (by rw[hx1]; rfl) rfl) rfl) (dZ (k:=4) (enc:=stC) (z:=p.length) (by omega) (atQ (p:=p) (q:=s2++q) (by rw[hx1]; rfl) rfl) rfl)) ?_
    refine aZ [(40,_),(44,_),(48,_)] rfl rfl ⟨⟨rfl,rfl⟩,⟨rfl,rfl⟩,⟨rfl,rfl⟩,trivial⟩ rfl (aK rfl rfl hent rfl (hcmp s2[h] x)) (aT aA 1 rfl (cP [0,1,4,10,11,12,50] rfl rfl rfl (hK9 _ (aL rfl (fun hc3=>?_) (fun hc3=>?_)))))
    ·
     simp only[bs] at hc3
     refine aB (aE aA 1 rfl ?_)
     refine aG rfl (bN rfl rfl (by omega) (by omega)) ?_
     refine aE aA 1 rfl ?_
     refine bK ?_
     exact⟨(h+1,j),⟨by omega,by omega,fun z hz _=>by rw[Nat.add_sub_cancel,List.getElem?_eq_getElem hh2] at hz; cases hz; omega,q4⟩,by simp only; omega,cJ ⟨(by first | rfl | exact aV (by omega)),(by first | rfl | exact aV (by omega)),(by first | rfl | exact aV (by omega)),(by first | rfl | exact aV (by omega)),(by first | rfl | exact aV (by omega)),trivial⟩ rfl⟩
    ·
     simp only[bs] at hc3
     refine aB (aE aA 2 rfl ?_)
     refine bK ?_
     exact⟨(i,h),⟨by omega,by omega,q3,fun z hz=>by rw[List.getElem?_eq_getElem hh2] at hz; cases hz; have:=hc.swap s2[h] x; omega⟩,by simp only; omega,cJ ⟨(by first | rfl | exact aV (by omega)),(by first | rfl | exact aV (by omega)),(by first | rfl | exact aV (by omega)),(by first | rfl | exact aV (by omega)),(by first | rfl | exact aV (by omega)),trivial⟩ rfl⟩
   ·
    simp only[bs] at hc2
    refine bB (hK5 _ (aC (fun K10 hK10=>(aC (fun K11 hK11=>(aB (aE aA 2 rfl (aD (hK11 _ (aQ (bR (ι:=Nat) (fun t=>⟨220,[(0,.own E0 4 0 N),(10,.s (.int .i64 ((p.length+s1.length+i:Nat):Int))),(13,.s (.int .i64 ((p.length+t:Nat):Int)))],[(E0,.buf 4 (List.map stC (p++(s2.take t++(x::(s2.drop t++q))))))]⟩) (fun t=>t≤i) (fun t=>i - t) 0 ?_ ?_ ?_)))))))))))
    · exact Nat.zero_le _
    · exact cJ ⟨(by first | rfl | exact aV (by omega)),(by first | rfl | exact aV (by omega)),(by first | rfl | exact aV (by omega)),trivial⟩ (by rw[hx1]; rfl)
    ·
     rintro t hC
     have hq:=hC
     refine aC (fun K12 hK12=>(aC (fun K13 hK13=>(aB (aE aA 2 rfl ?_)))))
     refine aG rfl (fB rfl rfl (by omega) (by omega)) ?_
     refine aE aA 1 rfl (aD (hK13 _ (aL rfl (fun hc4=>?_) (fun hc4=>?_))))
     ·
      simp only[bs] at hc4
      refine aM (hK12 _ (aC (fun K14 hK14=>(aQ (dY bE ?_)))))
      refine cE (listed':=#[true,false,false,false,false,false,false,false,false,false,false,false,false,false,false,false,false,false]) 0 rfl (by kernel_rfl) (by kernel_rfl) (by kernel_rfl) rfl (fun _ _ h=>h) (eO rfl) ?_
      refine cE (listed':=#[true,true,false,false,false,false,false,false,false,false,false,false,false,false,false,false,false,false]) 1 rfl (by kernel_rfl) (by kernel_rfl) (by kernel_rfl) rfl (fun _ _ h=>h) (eO rfl) ?_
      refine cE (listed':=#[true,true,true,false,false,false,false,false,false,false,false,false,false,false,false,false,false,false]) 2 rfl (by kernel_rfl) (by kernel_rfl) (by kernel_rfl) rfl (fun _ _ h=>h) (eO rfl) ?_
      refine cE (listed':=#[true,true,true,true,false,false,false,false,false,false,false,false,false,false,false,false,false,false]) 3 rfl (by kernel_rfl) (by kernel_rfl) (by kernel_rfl) rfl (fun _ _ h=>h) (eO rfl) ?_
      refine cE (listed':=#[true,true,true,true,true,false,false,false,false,false,false,false,false,false,false,false,false,false]) 4 rfl (by kernel_rfl) (by kernel_rfl) (by kernel_rfl) rfl (fun _ _ h=>h) (aIh rfl rfl (by omega) (by omega)) ?_
      refine cE (listed':=#[true,true,true,true,true,true,false,false,false,false,false,false,false,false,false,false,false,false]) 5 rfl (by kernel_rfl) (by kernel_rfl) (by kernel_rfl) rfl (fun _ _ h=>h) (eO rfl) ?_
      refine cE (listed':=#[true,true,true,true,true,true,true,false,false,false,false,false,false,false,false,false,false,false]) 6 rfl (by kernel_rfl) (by kernel_rfl) (by kernel_rfl) rfl (fun _ _ h=>h) (eO rfl) ?_
      refine cE (listed':=#[true,true,true,true,true,true,true,true,false,false,false,false,false,false,false,false,false,false]) 7 rfl (by kernel_rfl) (by kernel_rfl) (by kernel_rfl) rfl (fun _ _ h=>h) (aIh rfl rfl (by omega) (by omega)) ?_
      refine cE (listed':=#[true,true,true,true,true,true,true,true,true,false,false,false,false,false,false,false,false,false]) 8 rfl (by kernel_rfl) (by kernel_rfl) (by kernel_rfl) rfl (fun _ _ h=>h) (nG rfl rfl cH bH (by omega)) ?_
      refine cE (listed':=#[true,true,true,true,true,true,true,true,true,false,true,false,false,false,false,false,false,false]) 10 rfl (by kernel_rfl) (by kernel_rfl) (by kernel_rfl) rfl (fun _ _ h=>h) (eO rfl) ?_
      refine cE (listed':=#[true,true,true,true,true,true,true,true,true,false,true,true,false,false,false,false,false,false]) 11 rfl (by kernel_rfl) (by kernel_rfl) (by kernel_rfl) rfl (fun _ _ h=>h) (eO rfl) ?_
      refine cE (listed':=#[true,true,true,true,true,true,true,true,true,false,true,true,true,false,false,false,false,false]) 12 rfl (by kernel_rfl) (by kernel_rfl) (by kernel_rfl) rfl (fun _ _ h=>h) (nG rfl rfl cH bH (by omega)) ?_
      refine jM (eR [0,10,13,61,62,63,65,69,73] rfl) (aH 9 [13] (by kernel_rfl) ⟨?_,?_,trivial⟩)
      ·
       refine⟨_,rfl,rfl,(ao rfl (aG rfl (bW rfl eP bH rfl (eS (k:=4) (enc:=stC) (z:=p.length+t+1) (by omega) (atQ (p:=p++(s2.take t++[x])) (q:=s2.drop (t+1)++q) (x:=s2[t]) (by rw[List.drop_eq_getElem_cons (show t<s2.length by omega)]; simp only[List.append_assoc,List.cons_append,List.nil_append]) (by simp only[List.length_append,List.length_take,List.length_cons,List.length_nil]; omega)) rfl) (dZ (k:=4) (enc:=stC) (z:=p.length+t+1) (by omega) (atQ (p:=p++(s2.take t++[x])) (q:=s2.drop (t+1)++q) (x:=s2[t]) (by rw[List.drop_eq_getElem_cons (show t<s2.length by omega)]; simp only[List.append_assoc,List.cons_append,List.nil_append]) (by simp only[List.length_append,List.length_take,List.length_cons,List.length_nil]; omega)) rfl)) ?_))⟩
       refine aF (aH 13 [] (by kernel_rfl) ⟨?_,trivial⟩)
       ·
        refine⟨_,rfl,rfl,(ao rfl (aG rfl (bW rfl eP bH rfl (eS (k:=4) (enc:=stC) (z:=p.length+t) (by omega) (atQ (p:=p++s2.take t) (q:=s2.drop t++q) (x:=x) (by simp only[List.append_assoc]) (by(try simp only[List.length_take,List.length_drop,List.length_append]); omega)) rfl) (dZ (k:=4) (enc:=stC) (z:=p.length+t) (by omega) (atQ (p:=p++s2.take t) (q:=s2.drop t++q) (x:=x) (by simp only[List.append_assoc]) (by(try simp only[List.length_take,List.length_drop,List.length_append]); omega)) rfl)) ?_))⟩
        refine aF (aH 14 [] (by kernel_rfl) ⟨?_,trivial⟩)
        ·
         refine⟨_,rfl,rfl,(ao rfl ?_)⟩
         refine aG rfl (cL rfl rfl cH bH (by omega)) ?_
         refine aF (aH 15 [] (by kernel_rfl) ⟨?_,trivial⟩)
         ·
          refine⟨_,rfl,rfl,(ao rfl (aU hf rfl rfl bH rfl rfl (by simp [stC,AV.cells,AV.one,Value.oneCell']) (by simp [stC,AV.cells,AV.leaf,Value.oneCell']) (fD (k:=4) (enc:=stC) (z:=p.length+t) (v:=s2[t]) (by omega) (by simp only[List.length_append,List.length_cons,List.length_set,List.length_take,List.length_drop]; omega) rfl rfl rfl) ?_))⟩
          refine aF (aH 16 [] (by kernel_rfl) ⟨?_,trivial⟩)
          ·
           refine⟨_,rfl,rfl,(ao rfl ?_)⟩
           refine aG rfl (cL rfl rfl cH bH (by omega)) ?_
           refine aF (aH 17 [] (by kernel_rfl) ⟨?_,trivial⟩)
           ·
            refine⟨_,rfl,rfl,(ao rfl (aU hf rfl rfl bH rfl rfl (by simp [stC,AV.cells,AV.one,Value.oneCell']) (by simp [stC,AV.cells,AV.leaf,Value.oneCell']) (fD (k:=4) (enc:=stC) (z:=p.length+t+1) (v:=x) (by omega) (by simp only[List.length_append,List.length_cons,List.length_set,List.length_take,List.length_drop]; omega) rfl rfl rfl) ?_))⟩
            refine aF (dF (by kernel_rfl) ?_)
            refine hK14 _ (aB (aE aA 1 rfl ?_))
            refine aG rfl (bN rfl rfl (by omega) (by omega)) ?_
            refine aE aA 1 rfl (aD ?_)
            exact⟨t+1,by omega,by omega,cJ ⟨(by first | rfl | exact aV (by omega)),(by first | rfl | exact aV (by omega)),(by first | rfl | exact aV (by omega)),trivial⟩ (congrArg (fun l=>[(E0,AM.buf 4 (List.map stC l))]) ((aSh (p:=p++s2.take t) (x:=x) (y:=s2[t]) (q:=s2.drop (t+1)++q) (by rw[List.drop_eq_getElem_cons (show t<s2.length by omega)]; simp only[List.append_assoc,List.cons_append]) (by(try simp only[List.length_take,List.length_drop,List.length_append]); omega) (by(try simp only[List.length_take,List.length_drop,List.length_append]); omega)).trans (by rw[← List.take_append_getElem (show t<s2.length by omega)]; simp only[List.append_assoc,List.cons_append,List.nil_append])))⟩
      ·
       refine⟨_,rfl,rfl,(ao rfl (aG rfl (bW rfl eP bH rfl (eS (k:=4) (enc:=stC) (z:=p.length+t) (by omega) (atQ (p:=p++s2.take t) (q:=s2.drop t++q) (x:=x) (by simp only[List.append_assoc]) (by(try simp only[List.length_take,List.length_drop,List.length_append]); omega)) rfl) (dZ (k:=4) (enc:=stC) (z:=p.length+t) (by omega) (atQ (p:=p++s2.take t) (q:=s2.drop t++q) (x:=x) (by simp only[List.append_assoc]) (by(try simp only[List.length_take,List.length_drop,List.length_append]); omega)) rfl)) ?_))⟩
       refine aF (aH 9 [] (by kernel_rfl) ⟨?_,trivial⟩)
       ·
        refine⟨_,rfl,rfl,(ao rfl (aG rfl (bW rfl eP bH rfl (eS (k:=4) (enc:=stC) (z:=p.length+t+1) (by omega) (atQ (p:=p++(s2.take t++[x])) (q:=s2.drop (t+1)++q) (x:=s2[t]) (by rw[List.drop_eq_getElem_cons (show t<s2.length by omega)]; simp only[List.append_assoc,List.cons_append,List.nil_append]) (by simp only[List.length_append,List.length_take,List.length_cons,List.length_nil]; omega)) rfl) (dZ (k:=4) (enc:=stC) (z:=p.length+t+1) (by omega) (atQ (p:=p++(s2.take t++[x])) (q:=s2.drop (t+1)++q) (x:=s2[t]) (by rw[List.drop_eq_getElem_cons (show t<s2.length by omega)]; simp only[List.append_assoc,List.cons_append,List.nil_append]) (by simp only[List.length_append,List.length_take,List.length_cons,List.length_nil]; omega)) rfl)) ?_))⟩
        refine aF (aH 14 [] (by kernel_rfl) ⟨?_,trivial⟩)
        ·
         refine⟨_,rfl,rfl,(ao rfl ?_)⟩
         refine aG rfl (cL rfl rfl cH bH (by omega)) ?_
         refine aF (aH 15 [] (by kernel_rfl) ⟨?_,trivial⟩)
         ·
          refine⟨_,rfl,rfl,(ao rfl (aU hf rfl rfl bH rfl rfl (by simp [stC,AV.cells,AV.one,Value.oneCell']) (by simp [stC,AV.cells,AV.leaf,Value.oneCell']) (fD (k:=4) (enc:=stC) (z:=p.length+t) (v:=s2[t]) (by omega) (by simp only[List.length_append,List.length_cons,List.length_set,List.length_take,List.length_drop]; omega) rfl rfl rfl) ?_))⟩
          refine aF (aH 16 [] (by kernel_rfl) ⟨?_,trivial⟩)
          ·
           refine⟨_,rfl,rfl,(ao rfl ?_)⟩
           refine aG rfl (cL rfl rfl cH bH (by omega)) ?_
           refine aF (aH 17 [] (by kernel_rfl) ⟨?_,trivial⟩)
           ·
            refine⟨_,rfl,rfl,(ao rfl (aU hf rfl rfl bH rfl rfl (by simp [stC,AV.cells,AV.one,Value.oneCell']) (by simp [stC,AV.cells,AV.leaf,Value.oneCell']) (fD (k:=4) (enc:=stC) (z:=p.length+t+1) (v:=x) (by omega) (by simp only[List.length_append,List.length_cons,List.length_set,List.length_take,List.length_drop]; omega) rfl rfl rfl) ?_))⟩
            refine aF (dF (by kernel_rfl) ?_)
            refine hK14 _ (aB (aE aA 1 rfl ?_))
            refine aG rfl (bN rfl rfl (by omega) (by omega)) ?_
            refine aE aA 1 rfl (aD ?_)
            exact⟨t+1,by omega,by omega,cJ ⟨(by first | rfl | exact aV (by omega)),(by first | rfl | exact aV (by omega)),(by first | rfl | exact aV (by omega)),trivial⟩ (congrArg (fun l=>[(E0,AM.buf 4 (List.map stC l))]) ((aSh (p:=p++s2.take t) (x:=x) (y:=s2[t]) (q:=s2.drop (t+1)++q) (by rw[List.drop_eq_getElem_cons (show t<s2.length by omega)]; simp only[List.append_assoc,List.cons_append]) (by(try simp only[List.length_take,List.length_drop,List.length_append]); omega) (by(try simp only[List.length_take,List.length_drop,List.length_append]); omega)).trans (by rw[← List.take_append_getElem (show t<s2.length by omega)]; simp only[List.append_assoc,List.cons_append,List.nil_append])))⟩
     ·
      simp only[bs] at hc4
      refine bB (hK10 _ (aI ?_))
      have hti:t=i:=by omega
      subst hti
      have hij:t=j:=by omega
      subst hij
      exact⟨_,_,_,Le.refl _,rfl,rfl,s2.take t++x::s2.drop t,by rw[hx1]; exact put_perm,aMf hc hs2 (by omega) q3 q4,by simp only[List.append_assoc,List.cons_append]⟩
 ·
  simp only[bs] at hc1
  refine aM (hK1 _ (aC (fun K15 hK15=>(aC (fun K16 hK16=>(aB (aE aA 2 rfl ?_)))))))
  refine aG rfl (fB rfl rfl (by omega) (by omega)) ?_
  refine aE aA 1 rfl (aD (hK16 _ (aL rfl (fun hc5=>?_) (fun hc5=>?_))))
  ·
   simp only[bs] at hc5
   obtain ⟨x,hx2⟩:∃ x,s2=[x]:=List.length_eq_one_iff.1 (by omega)
   have hl2:s2.length=1:=by rw[hx2]; rfl
   refine aC (fun K17 hK17=>(aB (aE aA 2 rfl (aD (hK17 _ (aC (fun K18 hK18=>(aB (aE aA 2 rfl (aD (hK18 _ (aC (fun K19 hK19=>(aQ (bR (ι:=Nat×Nat) (fun(⟨i,j⟩:Nat×Nat)=>⟨220,[(0,.own E0 4 0 N),(2,.s (.int .i64 ((p.length+s1.length:Nat):Int))),(4,.fn g []),(14,.s (.int .i64 ((p.length+i:Nat):Int))),(15,.s (.int .i64 ((p.length+j:Nat):Int)))],[(E0,.buf 4 (List.map stC (p++(s1++(s2++q)))))]⟩) (fun(⟨i,j⟩:Nat×Nat)=>i≤j∧j≤s1.length∧(∀ z,s1[i - 1]?=some z→0<i→c z x≤0)∧(∀ z,s1[j]?=some z→c x z≤0)) (fun(⟨i,j⟩:Nat×Nat)=>j - i) (0,s1.length) ?_ ?_ ?_)))))))))))))))
   · exact⟨Nat.zero_le _,Nat.le_refl _,fun _ _ h=>absurd h (by omega),fun z hz=>by rw[List.getElem?_eq_none (Nat.le_refl _)] at hz; cases hz⟩
   · exact cJ ⟨(by first | rfl | exact aV (by omega)),(by first | rfl | exact aV (by omega)),(by first | rfl | exact aV (by omega)),(by first | rfl | exact aV (by omega)),(by first | rfl | exact aV (by omega)),trivial⟩ rfl
   ·
    rintro ⟨i,j⟩ hC
    obtain ⟨q1,q2,q3,q4⟩:=hC
    refine aC (fun K20 hK20=>(aC (fun K21 hK21=>(aB (aE aA 3 rfl (aD (hK21 _ (aL rfl (fun hc6=>?_) (fun hc6=>?_)))))))))
    ·
     simp only[bs] at hc6
     refine aM (hK20 _ (aQ (aC (fun K22 hK22=>(aB ?_)))))
     obtain ⟨h,eh⟩:∃ h,h=(i+j) / 2:=⟨_,rfl⟩
     have hz:=aB3 (a:=((p.length+i:Nat):Int)+((p.length+j:Nat):Int)) (b:=((p.length+h:Nat):Int)) (by omega) (by omega) (by omega)
     refine aE aA 2 rfl ?_
     refine aG rfl (bN rfl rfl (by omega) (by omega)) ?_
     refine aG rfl (qG rfl Tryz.underlying3 Tryz.underlying225 hz.1) (aG rfl (aBv rfl hz.2.1 (by decide)) (aG rfl (qG rfl Tryz.underlying225 Tryz.underlying3 hz.2.2) (aE aA 1 rfl (aD (hK22 _ (aC (fun K23 hK23=>(cM hf bE (by kernel_rfl) rfl ?_))))))))
     have hh2:h<s1.length:=by omega
     refine aT aA 3 rfl ?_
     refine bL [(93,_),(94,_)] rfl rfl ⟨⟨rfl,rfl⟩,⟨rfl,rfl⟩,trivial⟩ rfl (cL rfl rfl cH bH (by omega)) ?_
     refine bL [(95,_)] rfl rfl ⟨⟨rfl,rfl⟩,trivial⟩ rfl (bW rfl eP bH rfl (eS (k:=4) (enc:=stC) (z:=p.length+s1.length) (by omega) (atQ (p:=p++s1) (q:=q) (x:=x) (by rw[hx2]; simp) (by simp)) rfl) (dZ (k:=4) (enc:=stC) (z:=p.length+s1.length) (by omega) (atQ (p:=p++s1) (q:=q) (x:=x) (by rw[hx2]; simp) (by simp)) rfl)) ?_
     refine aT aA 2 rfl ?_
     refine bL [(97,_),(98,_)] rfl rfl ⟨⟨rfl,rfl⟩,⟨rfl,rfl⟩,trivial⟩ rfl (cL rfl rfl cH bH (by omega)) ?_
     refine bL [(99,_)] rfl rfl ⟨⟨rfl,rfl⟩,trivial⟩ rfl (bW rfl eP bH rfl (eS (k:=4) (enc:=stC) (z:=p.length+h) (by omega) (atL hh2) rfl) (dZ (k:=4) (enc:=stC) (z:=p.length+h) (by omega) (atL hh2) rfl)) (aZ [(92,_),(96,_),(100,_)] rfl rfl ⟨⟨rfl,rfl⟩,⟨rfl,rfl⟩,⟨rfl,rfl⟩,trivial⟩ rfl (aK rfl rfl hent rfl (hcmp x s1[h])) (aT aA 2 rfl (cP [0,2,4,14,15,16,103] rfl rfl rfl (hK23 _ (aL rfl (fun hc7=>?_) (fun hc7=>?_))))))
     ·
      simp only[bs] at hc7
      refine aB (aE aA 1 rfl ?_)
      refine aG rfl (bN rfl rfl (by omega) (by omega)) ?_
      refine aE aA 1 rfl ?_
      refine bK ?_
      exact⟨(h+1,j),⟨by omega,by omega,fun z hz _=>by rw[Nat.add_sub_cancel,List.getElem?_eq_getElem hh2] at hz; cases hz; have:=hc.swap x s1[h]; omega,q4⟩,by simp only; omega,cJ ⟨(by first | rfl | exact aV (by omega)),(by first | rfl | exact aV (by omega)),(by first | rfl | exact aV (by omega)),(by first | rfl | exact aV (by omega)),(by first | rfl | exact aV (by omega)),trivial⟩ rfl⟩
     ·
      simp only[bs] at hc7
      refine aB (aE aA 2 rfl ?_)
      refine bK ?_
      exact⟨(i,h),⟨by omega,by omega,q3,fun z hz=>by rw[List.getElem?_eq_getElem hh2] at hz; cases hz; omega⟩,by simp only; omega,cJ ⟨(by first | rfl | exact aV (by omega)),(by first | rfl | exact aV (by omega)),(by first | rfl | exact aV (by omega)),(by first | rfl | exact aV (by omega)),(by first | rfl | exact aV (by omega)),trivial⟩ rfl⟩
    ·
     simp only[bs] at hc6
     refine bB (hK19 _ (aC (fun K24 hK24=>(aC (fun K25 hK25=>(aB (aE aA 2 rfl (aD (hK25 _ (aQ (bR (ι:=Nat) (fun t=>⟨220,[(0,.own E0 4 0 N),(14,.s (.int .i64 ((p.length+i:Nat):Int))),(17,.s (.int .i64 ((p.length+t:Nat):Int)))],[(E0,.buf 4 (List.map stC (p++(s1.take t++(x::(s1.drop t++q))))))]⟩) (fun t=>i≤t∧t≤s1.length) (fun t=>t) s1.length ?_ ?_ ?_)))))))))))
     · exact⟨by omega,Nat.le_refl _⟩
     · exact cJ ⟨(by first | rfl | exact aV (by omega)),(by first | rfl | exact aV (by omega)),(by first | rfl | exact aV (by omega)),trivial⟩ (by rw[hx2,List.take_length,List.drop_length]; rfl)
     ·
      rintro t hC
      obtain ⟨hq,hq2⟩:=hC
      refine aC (fun K26 hK26=>(aC (fun K27 hK27=>(aB (aE aA 3 rfl (aD (hK27 _ (aL rfl (fun hc8=>?_) (fun hc8=>?_)))))))))
      ·
       simp only[bs] at hc8
       refine aM (hK26 _ (aC (fun K28 hK28=>(aQ (dY bE ?_)))))
       have hsp:p++(s1.take t++(x::(s1.drop t++q)))=(p++s1.take (t - 1))++s1[t - 1]::x::(s1.drop t++q):=by
        rw[show s1.take t=s1.take (t - 1)++[s1[t - 1]] from by rw[List.take_append_getElem (show t - 1<s1.length by omega),show t - 1+1=t by omega]]
        simp only[List.append_assoc,List.cons_append,List.nil_append]
       refine cE (listed':=#[true,false,false,false,false,false,false,false,false,false,false,false,false,false,false,false,false,false]) 0 rfl (by kernel_rfl) (by kernel_rfl) (by kernel_rfl) rfl (fun _ _ h=>h) (eO rfl) ?_
       refine cE (listed':=#[true,true,false,false,false,false,false,false,false,false,false,false,false,false,false,false,false,false]) 1 rfl (by kernel_rfl) (by kernel_rfl) (by kernel_rfl) rfl (fun _ _ h=>h) (eO rfl) ?_
       refine cE (listed':=#[true,true,true,false,false,false,false,false,false,false,false,false,false,false,false,false,false,false]) 2 rfl (by kernel_rfl) (by kernel_rfl) (by kernel_rfl) rfl (fun _ _ h=>h) (eO rfl) ?_
       refine cE (listed':=#[true,true,true,true,false,false,false,false,false,false,false,false,false,false,false,false,false,false]) 3 rfl (by kernel_rfl) (by kernel_rfl) (by kernel_rfl) rfl (fun _ _ h=>h) (eO rfl) ?_
       refine cE (listed':=#[true,true,true,true,true,false,false,false,false,false,false,false,false,false,false,false,false,false]) 4 rfl (by kernel_rfl) (by kernel_rfl) (by kernel_rfl) rfl (fun _ _ h=>h) (aSf rfl rfl (by omega) (by omega)) ?_
       refine cE (listed':=#[true,true,true,true,true,true,false,false,false,false,false,false,false,false,false,false,false,false]) 5 rfl (by kernel_rfl) (by kernel_rfl) (by kernel_rfl) rfl (fun _ _ h=>h) (eO rfl) ?_
       refine cE (listed':=#[true,true,true,true,true,true,true,false,false,false,false,false,false,false,false,false,false,false]) 6 rfl (by kernel_rfl) (by kernel_rfl) (by kernel_rfl) rfl (fun _ _ h=>h) (eO rfl) ?_
       refine cE (listed':=#[true,true,true,true,true,true,true,true,false,false,false,false,false,false,false,false,false,false]) 7 rfl (by kernel_rfl) (by kernel_rfl) (by kernel_rfl) rfl (fun _ _ h=>h) (aSf rfl rfl (by omega) (by omega)) ?_
       refine cE (listed':=#[true,true,true,true,true,true,true,true,true,false,false,false,false,false,false,false,false,false]) 8 rfl (by kernel_rfl) (by kernel_rfl) (by kernel_rfl) rfl (fun _ _ h=>h) (nG rfl rfl cH bH (by omega)) ?_
       refine cE (listed':=#[true,true,true,true,true,true,true,true,true,false,true,false,false,false,false,false,false,false]) 10 rfl (by kernel_rfl) (by kernel_rfl) (by kernel_rfl) rfl (fun _ _ h=>h) (eO rfl) ?_
       refine cE (listed':=#[true,true,true,true,true,true,true,true,true,false,true,true,false,false,false,false,false,false]) 11 rfl (by kernel_rfl) (by kernel_rfl) (by kernel_rfl) rfl (fun _ _ h=>h) (eO rfl) ?_
       refine cE (listed':=#[true,true,true,true,true,true,true,true,true,false,true,true,true,false,false,false,false,false]) 12 rfl (by kernel_rfl) (by kernel_rfl) (by kernel_rfl) rfl (fun _ _ h=>h) (nG rfl rfl cH bH (by omega)) ?_
       refine jM (eR [0,14,17,113,114,115,117,121,125] rfl) (aH 9 [13] (by kernel_rfl) ⟨?_,?_,trivial⟩)
       ·
        refine⟨_,rfl,rfl,(ao rfl (aG rfl (bW rfl eP bH rfl (eS (k:=4) (enc:=stC) (z:=p.length+(t - 1)) (by omega) (atQ (p:=p++s1.take (t - 1)) (q:=x::(s1.drop t++q)) (x:=s1[t - 1]) hsp (by(try simp only[List.length_take,List.length_drop,List.length_append]); omega)) rfl) (dZ (k:=4) (enc:=stC) (z:=p.length+(t - 1)) (by omega) (atQ (p:=p++s1.take (t - 1)) (q:=x::(s1.drop t++q)) (x:=s1[t - 1]) hsp (by(try simp only[List.length_take,List.length_drop,List.length_append]); omega)) rfl)) ?_))⟩
        refine aF (aH 13 [] (by kernel_rfl) ⟨?_,trivial⟩)
        ·
         refine⟨_,rfl,rfl,(ao rfl (aG rfl (bW rfl eP bH rfl (eS (k:=4) (enc:=stC) (z:=p.length+t) (by omega) (atQ (p:=p++s1.take t) (q:=s1.drop t++q) (x:=x) (by simp only[List.append_assoc]) (by(try simp only[List.length_take,List.length_drop,List.length_append]); omega)) rfl) (dZ (k:=4) (enc:=stC) (z:=p.length+t) (by omega) (atQ (p:=p++s1.take t) (q:=s1.drop t++q) (x:=x) (by simp only[List.append_assoc]) (by(try simp only[List.length_take,List.length_drop,List.length_append]); omega)) rfl)) ?_))⟩
         refine aF (aH 14 [] (by kernel_rfl) ⟨?_,trivial⟩)
         ·
          refine⟨_,rfl,rfl,(ao rfl ?_)⟩
          refine aG rfl (cL rfl rfl cH bH (by omega)) ?_
          refine aF (aH 15 [] (by kernel_rfl) ⟨?_,trivial⟩)
          ·
           refine⟨_,rfl,rfl,(ao rfl (aU hf rfl rfl bH rfl rfl (by simp [stC,AV.cells,AV.one,Value.oneCell']) (by simp [stC,AV.cells,AV.leaf,Value.oneCell']) (fD (k:=4) (enc:=stC) (z:=p.length+t) (v:=s1[t - 1]) (by omega) (by simp only[List.length_append,List.length_cons,List.length_set,List.length_take,List.length_drop]; omega) rfl rfl rfl) ?_))⟩
           refine aF (aH 16 [] (by kernel_rfl) ⟨?_,trivial⟩)
           ·
            refine⟨_,rfl,rfl,(ao rfl ?_)⟩
            refine aG rfl (cL rfl rfl cH bH (by omega)) ?_
            refine aF (aH 17 [] (by kernel_rfl) ⟨?_,trivial⟩)
            ·
             refine⟨_,rfl,rfl,(ao rfl (aU hf rfl rfl bH rfl rfl (by simp [stC,AV.cells,AV.one,Value.oneCell']) (by simp [stC,AV.cells,AV.leaf,Value.oneCell']) (fD (k:=4) (enc:=stC) (z:=p.length+(t - 1)) (v:=x) (by omega) (by simp only[List.length_append,List.length_cons,List.length_set,List.length_take,List.length_drop]; omega) rfl rfl rfl) ?_))⟩
             refine aF (dF (by kernel_rfl) ?_)
             refine hK28 _ (aB (aE aA 1 rfl ?_))
             refine aG rfl (fB rfl rfl (by omega) (by omega)) ?_
             refine aE aA 1 rfl (aD ?_)
             exact⟨t - 1,⟨by omega,by omega⟩,by omega,cJ ⟨(by first | rfl | exact aV (by omega)),(by first | rfl | exact aV (by omega)),(by first | rfl | exact aV (by omega)),trivial⟩ (congrArg (fun l=>[(E0,AM.buf 4 (List.map stC l))]) ((xJ (p:=p++s1.take (t - 1)) (x:=s1[t - 1]) (y:=x) (q:=s1.drop t++q) hsp (by(try simp only[List.length_take,List.length_drop,List.length_append]); omega) (by(try simp only[List.length_take,List.length_drop,List.length_append]); omega)).trans (by rw[List.drop_eq_getElem_cons (show t - 1<s1.length by omega),show t - 1+1=t by omega]; simp only[List.append_assoc,List.cons_append])))⟩
       ·
        refine⟨_,rfl,rfl,(ao rfl (aG rfl (bW rfl eP bH rfl (eS (k:=4) (enc:=stC) (z:=p.length+t) (by omega) (atQ (p:=p++s1.take t) (q:=s1.drop t++q) (x:=x) (by simp only[List.append_assoc]) (by(try simp only[List.length_take,List.length_drop,List.length_append]); omega)) rfl) (dZ (k:=4) (enc:=stC) (z:=p.length+t) (by omega) (atQ (p:=p++s1.take t) (q:=s1.drop t++q) (x:=x) (by simp only[List.append_assoc]) (by(try simp only[List.length_take,List.length_drop,List.length_append]); omega)) rfl)) ?_))⟩
        refine aF (aH 9 [] (by kernel_rfl) ⟨?_,trivial⟩)
        ·
         refine⟨_,rfl,rfl,(ao rfl (aG rfl (bW rfl eP bH rfl (eS (k:=4) (enc:=stC) (z:=p.length+(t - 1)) (by omega) (atQ (p:=p++s1.take (t - 1)) (q:=x::(s1.drop t++q)) (x:=s1[t - 1]) hsp (by(try simp only[List.length_take,List.length_drop,List.length_append]); omega)) rfl) (dZ (k:=4) (enc:=stC) (z:=p.length+(t - 1)) (by omega) (atQ (p:=p++s1.take (t - 1)) (q:=x::(s1.drop t++q)) (x:=s1[t - 1]) hsp (by(try simp only[List.length_take,List.length_drop,List.length_append]); omega)) rfl)) ?_))⟩
         refine aF (aH 14 [] (by kernel_rfl) ⟨?_,trivial⟩)
         ·
          refine⟨_,rfl,rfl,(ao rfl ?_)⟩
          refine aG rfl (cL rfl rfl cH bH (by omega)) ?_
          refine aF (aH 15 [] (by kernel_rfl) ⟨?_,trivial⟩)
          ·
           refine⟨_,rfl,rfl,(ao rfl (aU hf rfl rfl bH rfl rfl (by simp [stC,AV.cells,AV.one,Value.oneCell']) (by simp [stC,AV.cells,AV.leaf,Value.oneCell']) (fD (k:=4) (enc:=stC) (z:=p.length+t) (v:=s1[t - 1]) (by omega) (by simp only[List.length_append,List.length_cons,List.length_set,List.length_take,List.length_drop]; omega) rfl rfl rfl) ?_))⟩
           refine aF (aH 16 [] (by kernel_rfl) ⟨?_,trivial⟩)
           ·
            refine⟨_,rfl,rfl,(ao rfl ?_)⟩
            refine aG rfl (cL rfl rfl cH bH (by omega)) ?_
            refine aF (aH 17 [] (by kernel_rfl) ⟨?_,trivial⟩)
            ·
             refine⟨_,rfl,rfl,(ao rfl (aU hf rfl rfl bH rfl rfl (by simp [stC,AV.cells,AV.one,Value.oneCell']) (by simp [stC,AV.cells,AV.leaf,Value.oneCell']) (fD (k:=4) (enc:=stC) (z:=p.length+(t - 1)) (v:=x) (by omega) (by simp only[List.length_append,List.length_cons,List.length_set,List.length_take,List.length_drop]; omega) rfl rfl rfl) ?_))⟩
             refine aF (dF (by kernel_rfl) ?_)
             refine hK28 _ (aB (aE aA 1 rfl ?_))
             refine aG rfl (fB rfl rfl (by omega) (by omega)) ?_
             refine aE aA 1 rfl (aD ?_)
             exact⟨t - 1,⟨by omega,by omega⟩,by omega,cJ ⟨(by first | rfl | exact aV (by omega)),(by first | rfl | exact aV (by omega)),(by first | rfl | exact aV (by omega)),trivial⟩ (congrArg (fun l=>[(E0,AM.buf 4 (List.map stC l))]) ((xJ (p:=p++s1.take (t - 1)) (x:=s1[t - 1]) (y:=x) (q:=s1.drop t++q) hsp (by(try simp only[List.length_take,List.length_drop,List.length_append]); omega) (by(try simp only[List.length_take,List.length_drop,List.length_append]); omega)).trans (by rw[List.drop_eq_getElem_cons (show t - 1<s1.length by omega),show t - 1+1=t by omega]; simp only[List.append_assoc,List.cons_append])))⟩
      ·
       simp only[bs] at hc8
       refine bB (hK24 _ (aI ?_))
       have hti:t=i:=by omega
       subst hti
       have hij:t=j:=by omega
       subst hij
       exact⟨_,_,_,Le.refl _,rfl,rfl,s1.take t++x::s1.drop t,by rw[hx2]; exact put_perm.trans (List.perm_append_comm (l₁:=[x])),aMf hc hs1 (by omega) q3 q4,by simp only[List.append_assoc,List.cons_append]⟩
  ·
   simp only[bs] at hc5
   refine aM (hK15 _ (aC (fun K29 hK29=>(aB ?_))))
   obtain ⟨M,eM⟩:∃ M,M=(s1.length+s2.length) / 2:=⟨_,rfl⟩
   have hz:=aB3 (a:=((p.length:Nat):Int)+((p.length+s1.length+s2.length:Nat):Int)) (b:=((p.length+M:Nat):Int)) (by omega) (by omega) (by omega)
   refine aE aA 2 rfl ?_
   refine aG rfl (bN rfl rfl (by omega) (by omega)) ?_
   refine aG rfl (qG rfl Tryz.underlying3 Tryz.underlying225 hz.1) (aG rfl (aBv rfl hz.2.1 (by decide)) (aG rfl (qG rfl Tryz.underlying225 Tryz.underlying3 hz.2.2) (aE aA 1 rfl (aD (hK29 _ (aC (fun K30 hK30=>(aB (aE aA 2 rfl ?_)))))))))
   refine aG rfl (bN rfl rfl (by omega) (by omega)) ?_
   refine aE aA 1 rfl (aD (hK30 _ (aC (fun K31 hK31=>(aB (aE aA 2 rfl (aD (hK31 _ (aK4 (ι:=Nat×Nat) (fun w=>⟨220,[(0,.own E0 4 0 N),(1,.s (.int .i64 (p.length:Nat))),(2,.s (.int .i64 ((p.length+s1.length:Nat):Int))),(3,.s (.int .i64 ((p.length+s1.length+s2.length:Nat):Int))),(4,.fn g []),(18,.s (.int .i64 ((p.length+M:Nat):Int))),(19,.s (.int .i64 ((p.length+M:Nat)+(p.length+s1.length:Nat)))),(20,.s (.int .i64 ((p.length+w.1:Nat):Int))),(21,.s (.int .i64 ((p.length+w.2:Nat):Int)))],[(E0,.buf 4 (List.map stC (p++(s1++(s2++q)))))]⟩) (fun w=>(w.1=0∨M - w.1=s2.length)∧(w.2=s1.length∨w.2=M)∧w.1≤w.2∧w.2≤s1.length∧w.2≤M∧M - w.1≤s2.length) ?_ ?_)))))))))
   ·
    refine aC (fun K33 hK33=>(aB (aE aA 3 rfl (aD (hK33 _ (aL rfl (fun hc9=>?_) (fun hc9=>?_)))))))
    ·
     simp only[bs] at hc9
     refine aC (fun K34 hK34=>(aB (aE aA 2 rfl ?_)))
     refine aG rfl (fB rfl rfl (by omega) (by omega)) ?_
     refine aE aA 1 rfl (aD (hK34 _ (aB (aE aA 2 rfl ?_))))
     refine aD ?_
     exact⟨(M - s2.length,M),⟨.inr (by simp only; omega),.inr rfl,by simp only; omega,by simp only; omega,Nat.le_refl _,by simp only; omega⟩,cJ ⟨(by first | rfl | exact aV (by omega)),(by first | rfl | exact aV (by omega)),(by first | rfl | exact aV (by omega)),(by first | rfl | exact aV (by omega)),(by first | rfl | exact aV (by omega)),(by first | rfl | exact aV (by omega)),(by first | rfl | exact aV (by omega)),(by first | rfl | exact aV (by omega)),(by first | rfl | exact aV (by omega)),trivial⟩ rfl⟩
    ·
     simp only[bs] at hc9
     refine aC (fun K35 hK35=>(aB (aE aA 2 rfl (aD (hK35 _ (aB (aE aA 2 rfl ?_)))))))
     refine aD ?_
     exact⟨(0,s1.length),⟨.inl rfl,.inl rfl,Nat.zero_le _,Nat.le_refl _,by simp only; omega,by simp only; omega⟩,cJ ⟨(by first | rfl | exact aV (by omega)),(by first | rfl | exact aV (by omega)),(by first | rfl | exact aV (by omega)),(by first | rfl | exact aV (by omega)),(by first | rfl | exact aV (by omega)),(by first | rfl | exact aV (by omega)),(by first | rfl | exact aV (by omega)),(by first | rfl | exact aV (by omega)),(by first | rfl | exact aV (by omega)),trivial⟩ rfl⟩
   ·
    intro w hj
    obtain ⟨S0,R0⟩:=w
    obtain ⟨j1,j2,j3,j4,j5,j6⟩:=hj
    simp only at j1 j2 j3 j4 j5 j6
    refine aC (fun K36 hK36=>(aB (aE aA 1 rfl ?_)))
    refine aG rfl (fB rfl rfl (by omega) (by omega)) ?_
    refine aE aA 1 rfl (aD (hK36 _ (aC (fun K37 hK37=>(aQ (bR (ι:=Nat×Nat) (fun(⟨S,R⟩:Nat×Nat)=>⟨220,[(0,.own E0 4 0 N),(1,.s (.int .i64 (p.length:Nat))),(2,.s (.int .i64 ((p.length+s1.length:Nat):Int))),(3,.s (.int .i64 ((p.length+s1.length+s2.length:Nat):Int))),(4,.fn g []),(18,.s (.int .i64 ((p.length+M:Nat):Int))),(19,.s (.int .i64 ((p.length+M:Nat)+(p.length+s1.length:Nat)))),(20,.s (.int .i64 ((p.length+S:Nat):Int))),(21,.s (.int .i64 ((p.length+R:Nat):Int))),(22,.s (.int .i64 ((p.length+M:Nat)+(p.length+s1.length:Nat) - 1)))],[(E0,.buf 4 (List.map stC (p++(s1++(s2++q)))))]⟩) (fun(⟨S,R⟩:Nat×Nat)=>S0≤S∧S≤R∧R≤R0∧(S=S0∨∀ z w,s1[S - 1]?=some z→s2[M - S]?=some w→c z w≤0)∧(R=R0∨∀ z w,s2[M - 1 - R]?=some z→s1[R]?=some w→c z w≤0)) (fun(⟨S,R⟩:Nat×Nat)=>R - S) (S0,R0) ?_ ?_ ?_))))))
    · exact⟨Nat.le_refl _,j3,Nat.le_refl _,.inl rfl,.inl rfl⟩
    · exact cJ ⟨(by first | rfl | exact aV (by omega)),(by first | rfl | exact aV (by omega)),(by first | rfl | exact aV (by omega)),(by first | rfl | exact aV (by omega)),(by first | rfl | exact aV (by omega)),(by first | rfl | exact aV (by omega)),(by first | rfl | exact aV (by omega)),(by first | rfl | exact aV (by omega)),(by first | rfl | exact aV (by omega)),(by first | rfl | exact aV (by omega)),trivial⟩ rfl
    ·
     rintro ⟨S,R⟩ hC
     obtain ⟨q1,q2,q3,q4,q5⟩:=hC
     refine aC (fun K38 hK38=>(aC (fun K39 hK39=>(aB (aE aA 3 rfl (aD (hK39 _ (aL rfl (fun hc10=>?_) (fun hc10=>?_)))))))))
     ·
      simp only[bs] at hc10
      refine aM (hK38 _ (aQ (aC (fun K40 hK40=>(aB ?_)))))
      obtain ⟨h,eh⟩:∃ h,h=(S+R) / 2:=⟨_,rfl⟩
      have hz:=aB3 (a:=((p.length+S:Nat):Int)+((p.length+R:Nat):Int)) (b:=((p.length+h:Nat):Int)) (by omega) (by omega) (by omega)
      refine aE aA 2 rfl ?_
      refine aG rfl (bN rfl rfl (by omega) (by omega)) ?_
      refine aG rfl (qG rfl Tryz.underlying3 Tryz.underlying225 hz.1) (aG rfl (aBv rfl hz.2.1 (by decide)) (aG rfl (qG rfl Tryz.underlying225 Tryz.underlying3 hz.2.2) (aE aA 1 rfl (aD (hK40 _ (aC (fun K41 hK41=>(cM hf bE (by kernel_rfl) rfl ?_))))))))
      have hh1:h<s1.length:=by omega
      have hh2:M - 1 - h<s2.length:=by omega
      refine aT aA 4 rfl ?_
      refine bL [(160,_),(161,_)] rfl rfl ⟨⟨rfl,rfl⟩,⟨rfl,rfl⟩,trivial⟩ rfl (fB rfl rfl (by omega) (by omega)) ?_
      refine bL [(159,_),(162,_)] rfl rfl ⟨⟨rfl,rfl⟩,⟨rfl,rfl⟩,trivial⟩ rfl (cL rfl rfl cH bH (by omega)) ?_
      refine bL [(163,_)] rfl rfl ⟨⟨rfl,rfl⟩,trivial⟩ rfl (bW rfl eP bH rfl (eS (k:=4) (enc:=stC) (z:=p.length+s1.length+(M - 1 - h)) (by omega) (atM hh2) rfl) (dZ (k:=4) (enc:=stC) (z:=p.length+s1.length+(M - 1 - h)) (by omega) (atM hh2) rfl)) (aT aA 2 rfl ?_)
      refine bL [(165,_),(166,_)] rfl rfl ⟨⟨rfl,rfl⟩,⟨rfl,rfl⟩,trivial⟩ rfl (cL rfl rfl cH bH (by omega)) ?_
      refine bL [(167,_)] rfl rfl ⟨⟨rfl,rfl⟩,trivial⟩ rfl (bW rfl eP bH rfl (eS (k:=4) (enc:=stC) (z:=p.length+h) (by omega) (atL hh1) rfl) (dZ (k:=4) (enc:=stC) (z:=p.length+h) (by omega) (atL hh1) rfl)) (aZ [(158,_),(164,_),(168,_)] rfl rfl ⟨⟨rfl,rfl⟩,⟨rfl,rfl⟩,⟨rfl,rfl⟩,trivial⟩ rfl (aK rfl rfl hent rfl (hcmp s2[M - 1 - h] s1[h])) (aT aA 2 rfl (cP [0,1,2,3,4,18,19,20,21,22,23,171] rfl rfl rfl (hK41 _ (aL rfl (fun hc11=>?_) (fun hc11=>?_))))))
      ·
       simp only[bs] at hc11
       refine aB (aE aA 1 rfl ?_)
       refine aG rfl (bN rfl rfl (by omega) (by omega)) ?_
       refine aE aA 1 rfl ?_
       refine bK ?_
       exact⟨(h+1,R),⟨by omega,by omega,q3,.inr (fun z w hz hw=>by rw[Nat.add_sub_cancel,List.getElem?_eq_getElem hh1] at hz; rw[show M - (h+1)=M - 1 - h by omega,List.getElem?_eq_getElem hh2] at hw; cases hz; cases hw; have:=hc.swap s1[h] s2[M - 1 - h]; omega),q5⟩,by simp only; omega,cJ ⟨(by first | rfl | exact aV (by omega)),(by first | rfl | exact aV (by omega)),(by first | rfl | exact aV (by omega)),(by first | rfl | exact aV (by omega)),(by first | rfl | exact aV (by omega)),(by first | rfl | exact aV (by omega)),(by first | rfl | exact aV (by omega)),(by first | rfl | exact aV (by omega)),(by first | rfl | exact aV (by omega)),(by first | rfl | exact aV (by omega)),trivial⟩ rfl⟩
      ·
       simp only[bs] at hc11
       refine aB (aE aA 2 rfl ?_)
       refine bK ?_
       exact⟨(S,h),⟨q1,by omega,by omega,q4,.inr (fun z w hz hw=>by rw[List.getElem?_eq_getElem hh2] at hz; rw[List.getElem?_eq_getElem hh1] at hw; cases hz; cases hw; omega)⟩,by simp only; omega,cJ ⟨(by first | rfl | exact aV (by omega)),(by first | rfl | exact aV (by omega)),(by first | rfl | exact aV (by omega)),(by first | rfl | exact aV (by omega)),(by first | rfl | exact aV (by omega)),(by first | rfl | exact aV (by omega)),(by first | rfl | exact aV (by omega)),(by first | rfl | exact aV (by omega)),(by first | rfl | exact aV (by omega)),(by first | rfl | exact aV (by omega)),trivial⟩ rfl⟩
     ·
      simp only[bs] at hc10
      refine bB (hK37 _ (aC (fun K42 hK42=>(aB ?_))))
      obtain ⟨K,hK⟩:∃ K,K=M - S:=⟨_,rfl⟩
      have hA:∀ (h0:0<S) (h3:K<s2.length),c (s1[S - 1]'(by omega)) s2[K]≤0:=fun h0 h3=>by
       rcases q4 with e | e
       · exfalso; omega
       · exact e _ _ (List.getElem?_eq_getElem (by omega)) (by rw[← hK]; exact List.getElem?_eq_getElem h3)
      have hB:∀ (h0:0<K) (h3:S<s1.length),c (s2[K - 1]'(by omega)) s1[S]≤0:=fun h0 h3=>by
       have hSR:S=R:=by omega
       rw[← hSR] at q5
       rcases q5 with e | e
       · exfalso; omega
       · exact e _ _ (by rw[show M - 1 - S=K - 1 by omega]; exact List.getElem?_eq_getElem (by omega)) (List.getElem?_eq_getElem h3)
      have hsep:=sym_sep hc hs1 hs2 (show S≤s1.length by omega) (show K≤s2.length by omega) hA hB
      refine aE aA 2 rfl ?_
      refine aG rfl (fB rfl rfl (by omega) (by omega)) ?_
      rw[show (((p.length+M:Nat):Int)+((p.length+s1.length:Nat):Int)) - ((p.length+S:Nat):Int)=((p.length+s1.length+K:Nat):Int) from by omega]
      refine aE aA 1 rfl (aD (hK42 _ (aK4 (ι:=Unit) (fun w=>⟨220,[(0,.own E0 4 0 N),(1,.s (.int .i64 (p.length:Nat))),(3,.s (.int .i64 ((p.length+s1.length+s2.length:Nat):Int))),(4,.fn g []),(18,.s (.int .i64 ((p.length+M:Nat):Int))),(20,.s (.int .i64 ((p.length+S:Nat):Int))),(24,.s (.int .i64 ((p.length+s1.length+K:Nat):Int)))],[(E0,.buf 4 (List.map stC (p++((s1.take S++s2.take K)++((s1.drop S++s2.drop K)++q)))))]⟩) (fun w=>True) ?_ ?_)))
      ·
       refine aC (fun K44 hK44=>(aB (aE aA 4 rfl (aW rfl rfl rfl (fun hg12=>?_) (fun hg12=>?_)))))
       ·
        simp only[bs] at hg12
        refine aG rfl (gJ rfl) (aE aA 3 rfl (aD (hK44 _ (aL rfl (fun hc13=>?_) (fun hc13=>?_)))))
        ·
         simp only[bs] at hc13
         refine aB ?_
         rw[aU7 (p:=p) (s1:=s1) (s2:=s2) (q:=q) S K]
         refine aE aA 5 rfl (hZ hf E0 rfl rfl rfl rfl rfl aOe (aP1 g (p++s1.take S) (s1.drop S) (s2.take K) (s2.drop K++q) N _ _ _ (by(try simp only[List.length_take,List.length_drop,List.length_append]); omega) (by(try simp only[List.length_take,List.length_drop,List.length_append]); omega) (by(try simp only[List.length_take,List.length_drop,List.length_append]); omega) (by(try simp only[List.length_take,List.length_drop,List.length_append]); omega) (by(try simp only[List.length_take,List.length_drop,List.length_append]); omega) (by(try simp only[List.length_take,List.length_drop,List.length_append]); omega) hM) ?_)
         rintro r zs rfl
         refine aD ?_
         exact⟨(),trivial,cJ ⟨(by first | rfl | exact aV (by omega)),(by first | rfl | exact aV (by omega)),(by first | rfl | exact aV (by omega)),(by first | rfl | exact aV (by omega)),(by first | rfl | exact aV (by omega)),(by first | rfl | exact aV (by omega)),(by first | rfl | exact aV (by omega)),trivial⟩ (congrArg (fun l=>[(E0,AM.buf 4 (List.map stC l))]) (by simp only[List.append_assoc]))⟩
        ·
         simp only[bs] at hc13
         refine aM ?_
         exact⟨(),trivial,cJ ⟨(by first | rfl | exact aV (by omega)),(by first | rfl | exact aV (by omega)),(by first | rfl | exact aV (by omega)),(by first | rfl | exact aV (by omega)),(by first | rfl | exact aV (by omega)),(by first | rfl | exact aV (by omega)),(by first | rfl | exact aV (by omega)),trivial⟩ (by rw[aLv (p:=p) (s1:=s1) (s2:=s2) (q:=q) (S:=S) (K:=K) (by omega)])⟩
       ·
        simp only[bs] at hg12
        refine aE aA 3 rfl (aD (hK44 _ (bG rfl (aM ?_))))
        exact⟨(),trivial,cJ ⟨(by first | rfl | exact aV (by omega)),(by first | rfl | exact aV (by omega)),(by first | rfl | exact aV (by omega)),(by first | rfl | exact aV (by omega)),(by first | rfl | exact aV (by omega)),(by first | rfl | exact aV (by omega)),(by first | rfl | exact aV (by omega)),trivial⟩ (by rw[aLv (p:=p) (s1:=s1) (s2:=s2) (q:=q) (S:=S) (K:=K) (by omega)])⟩
      ·
       intro w hj
       refine aK4 (ι:=List bS) (fun l=>⟨220,[(0,.own E0 4 0 N),(3,.s (.int .i64 ((p.length+s1.length+s2.length:Nat):Int))),(4,.fn g []),(18,.s (.int .i64 ((p.length+M:Nat):Int))),(24,.s (.int .i64 ((p.length+s1.length+K:Nat):Int)))],[(E0,.buf 4 (List.map stC (p++(l++((s1.drop S++s2.drop K)++q)))))]⟩) (fun l=>l.Perm (s1.take S++s2.take K)∧Srt c l) ?_ ?_
       ·
        refine aC (fun K46 hK46=>(aB (aE aA 4 rfl (aW rfl rfl rfl (fun hg15=>?_) (fun hg15=>?_)))))
        ·
         simp only[bs] at hg15
         refine aG rfl (gJ rfl) (aE aA 3 rfl (aD (hK46 _ (aL rfl (fun hc16=>?_) (fun hc16=>?_)))))
         ·
          simp only[bs] at hc16
          refine aB ?_
          rw[List.append_assoc (s1.take S)]
          refine aE aA 5 rfl (hZ hf E0 rfl rfl rfl rfl rfl sW (ih p (s1.take S) (s2.take K) ((s1.drop S++s2.drop K)++q) N _ _ _ (by(try simp only[List.length_take,List.length_drop,List.length_append]); omega) (by(try simp only[List.length_take,List.length_drop,List.length_append]); omega) rfl (by(try simp only[List.length_take,List.length_drop,List.length_append]); omega) (by(try simp only[List.length_take,List.length_drop,List.length_append]); omega) (by(try simp only[List.length_take,List.length_drop,List.length_append]); omega) (by(try simp only[List.length_take,List.length_drop,List.length_append]); omega) (hs1.take S) (hs2.take K) hM) ?_)
          rintro r zs ⟨lq,hl1,hl2,rfl⟩
          refine aD ?_
          exact⟨lq,⟨hl1,hl2⟩,cJ ⟨(by first | rfl | exact aV (by omega)),(by first | rfl | exact aV (by omega)),(by first | rfl | exact aV (by omega)),(by first | rfl | exact aV (by omega)),(by first | rfl | exact aV (by omega)),trivial⟩ rfl⟩
         ·
          simp only[bs] at hc16
          refine aM ?_
          exact⟨s1.take S++s2.take K,⟨.refl _,aLy hs1 hs2 (by omega)⟩,cJ ⟨(by first | rfl | exact aV (by omega)),(by first | rfl | exact aV (by omega)),(by first | rfl | exact aV (by omega)),(by first | rfl | exact aV (by omega)),(by first | rfl | exact aV (by omega)),trivial⟩ rfl⟩
        ·
         simp only[bs] at hg15
         refine aE aA 3 rfl (aD (hK46 _ (bG rfl (aM ?_))))
         exact⟨s1.take S++s2.take K,⟨.refl _,aLy hs1 hs2 (by omega)⟩,cJ ⟨(by first | rfl | exact aV (by omega)),(by first | rfl | exact aV (by omega)),(by first | rfl | exact aV (by omega)),(by first | rfl | exact aV (by omega)),(by first | rfl | exact aV (by omega)),trivial⟩ rfl⟩
       ·
        intro l hj
        obtain ⟨hl1,hl2⟩:=hj
        have hll:=hl1.length_eq
        rw[List.length_append,List.length_take,List.length_take] at hll
        refine aC (fun K47 hK47=>(aB (aE aA 4 rfl (aW rfl rfl rfl (fun hg18=>?_) (fun hg18=>?_)))))
        ·
         simp only[bs] at hg18
         refine aG rfl (gJ rfl) (aE aA 3 rfl (aD (hK47 _ (aL rfl (fun hc19=>?_) (fun hc19=>?_)))))
         ·
          simp only[bs] at hc19
          refine aB ?_
          rw[show p++(l++((s1.drop S++s2.drop K)++q))=(p++l)++(s1.drop S++(s2.drop K++q)) from by simp only[List.append_assoc]]
          refine aE aA 5 rfl (hZ hf E0 rfl rfl rfl rfl rfl sW (ih (p++l) (s1.drop S) (s2.drop K) q N _ _ _ (by(try simp only[List.length_take,List.length_drop,List.length_append]); omega) (by(try simp only[List.length_take,List.length_drop,List.length_append]); omega) (by(try simp only[List.length_take,List.length_drop,List.length_append]); omega) (by(try simp only[List.length_take,List.length_drop,List.length_append]); omega) (by(try simp only[List.length_take,List.length_drop,List.length_append]); omega) (by(try simp only[List.length_take,List.length_drop,List.length_append]); omega) (by(try simp only[List.length_take,List.length_drop,List.length_append]); omega) (hs1.drop S) (hs2.drop K) hM) ?_)
          rintro r zs ⟨rq,hr1,hr2,rfl⟩
          refine bK ?_
          exact⟨_,_,_,Le.refl _,rfl,rfl,l++rq,wK hl1 hr1,Srt.append hl2 hr2 (aE9 hl1 hr1 hsep),by simp only[List.append_assoc]⟩
         ·
          simp only[bs] at hc19
          refine aM ?_
          exact⟨_,_,_,Le.refl _,rfl,rfl,l++(s1.drop S++s2.drop K),wK hl1 (.refl _),Srt.append hl2 (aIl hs1 hs2 (by omega)) (aE9 hl1 (.refl _) hsep),by simp only[List.append_assoc]⟩
        ·
         simp only[bs] at hg18
         refine aE aA 3 rfl (aD (hK47 _ (bG rfl (aM ?_))))
         exact⟨_,_,_,Le.refl _,rfl,rfl,l++(s1.drop S++s2.drop K),wK hl1 (.refl _),Srt.append hl2 (aIl hs1 hs2 (by omega)) (aE9 hl1 (.refl _) hsep),by simp only[List.append_assoc]⟩
theorem zA {g:Nat} (hent:∀ args w,(callFunc g args).run Tryz.prog w=.ok (.enter g args) w) {c:bS→bS→Int} (hc:Tri c) (hcmp:∀ x y:bS,Den Tryz.prog g [.agg (stC x),.agg (stC y)] (·=.s (.int .i64 (c x y)))):∀ (NN:Nat) (p s1 s2 q:List bS) (N:Nat) (za zm zb:Int),s1.length+s2.length≤NN→N=p.length+s1.length+s2.length+q.length→za=(p.length:Nat)→zm=((p.length+s1.length:Nat):Int)→zb=((p.length+s1.length+s2.length:Nat):Int)→0<s1.length→0<s2.length→Srt c s1→Srt c s2→N<4611686018427387904→DenM Tryz.prog 190 [.own E0 4 0 N,.s (.int .i64 za),.s (.int .i64 zm),.s (.int .i64 zb),.fn g []] 4 (List.map stC (p++(s1++(s2++q)))) (fun r ys=>∃ t:List bS,t.Perm (s1++s2)∧Srt c t∧ys=(List.map stC (p++(t++q))))
 | 0,p,s1,s2,q,N,za,zm,zb,hle,_,_,_,_,h01,_,_,_,_=>by exfalso; omega
 | NN+1,p,s1,s2,q,N,za,zm,zb,hle,hN,hza,hzm,hzb,h01,h02,hs1,hs2,hM=>aE4 hent hc hcmp NN (zA hent hc hcmp NN) p s1 s2 q N za zm zb hle hN hza hzm hzb h01 h02 hs1 hs2 hM
theorem aHm {g:Nat} (hent:∀ args w,(callFunc g args).run Tryz.prog w=.ok (.enter g args) w) {c:bS→bS→Int} (hc:Tri c) (hcmp:∀ x y:bS,Den Tryz.prog g [.agg (stC x),.agg (stC y)] (·=.s (.int .i64 (c x y)))) (s0:List bS) (N:Nat) (hN:N=s0.length) (hM:N<4611686018427387904) :DenM Tryz.prog 180 [.own E0 4 0 N,.s (.int .i64 (N:Nat)),.fn g []] 4 ((List.map stC (s0))) (fun r ys=>∃ t:List bS,t.Perm s0∧Srt c t∧ys=(List.map stC (t))):=by
 refine iL Tryz.func180 rfl (Nat.le_of_ble_eq_true rfl) (fun w0 x0 A hf=>?_)
 refine aC (fun K1 hK1=>(aB (aE aA 1 rfl (aD (hK1 _ (aC (fun K2 hK2=>(aB (aE aA 3 rfl (aD (hK2 _ (aC (fun K3 hK3=>(aQ (bR (ι:=List bS×List bS) (fun(⟨x,y⟩:List bS×List bS)=>⟨63,[(0,.own E0 4 0 N),(1,.s (.int .i64 (N:Nat))),(2,.fn g []),(6,.s (.int .i64 20)),(7,.s (.int .i64 (x.length:Nat))),(8,.s (.int .i64 ((x.length+20:Nat):Int)))],[(E0,.buf 4 (List.map stC (x++y)))]⟩) (fun(⟨x,y⟩:List bS×List bS)=>Fu c 20 x∧(x++y).Perm s0) (fun(⟨x,y⟩:List bS×List bS)=>y.length) ([],s0) ?_ ?_ ?_)))))))))))))))
 · exact⟨.nil,.refl _⟩
 · exact cN rfl
 ·
  rintro ⟨x,y⟩ hC
  obtain ⟨hd,hp⟩:=hC
  have hpl:=hp.length_eq
  rw[List.length_append] at hpl
  refine aC (fun K4 hK4=>(aC (fun K5 hK5=>(aB (aE aA 3 rfl (aD (hK5 _ (aL rfl (fun hc1=>?_) (fun hc1=>?_)))))))))
  ·
   simp only[bs] at hc1
   refine aM (hK4 _ (aQ (aC (fun K6 hK6=>(aB ?_)))))
   have htk:=List.length_take (i:=20) (l:=y)
   have hdk:=List.length_drop (i:=20) (l:=y)
   rw[show x++y=x++(y.take 20++y.drop 20) from by rw[List.take_append_drop]]
   refine aE aA 4 rfl (hZ hf E0 rfl rfl rfl rfl rfl aDc (aE5 hent hc hcmp x (y.take 20) (y.drop 20) N _ _ (by omega) (by omega) (by omega) hM) ?_)
   rintro r zs ⟨t,ht1,ht2,rfl⟩
   have htl:=ht1.length_eq
   refine aD (hK6 _ (aC (fun K7 hK7=>(aB (aE aA 2 rfl (aD (hK7 _ (aB (aE aA 2 rfl ?_)))))))))
   refine aG rfl (bN rfl rfl (by omega) (by omega)) ?_
   refine aE aA 1 rfl ?_
   refine bK ?_
   exact⟨(x++t,y.drop 20),⟨.cons hd ht2 (by have:=ht1.length_eq; rw[List.length_take] at this; omega),(show ((x++t)++y.drop 20).Perm s0 from (by rw[List.append_assoc]; exact(List.Perm.append_left x ((List.Perm.append_right _ ht1).trans (by rw[List.take_append_drop]))).trans hp))⟩,by simp only[List.length_drop]; omega,cJ ⟨(by first | rfl | exact aV (by simp only[List.length_append]; omega)),(by first | rfl | exact aV (by simp only[List.length_append]; omega)),(by first | rfl | exact aV (by simp only[List.length_append]; omega)),(by first | rfl | exact aV (by simp only[List.length_append]; omega)),(by first | rfl | exact aV (by simp only[List.length_append]; omega)),(by first | rfl | exact aV (by simp only[List.length_append]; omega)),trivial⟩ (by rw[List.append_assoc]; rfl)⟩
  ·
   simp only[bs] at hc1
   refine bB (hK3 _ (aC (fun K8 hK8=>(aB ?_))))
   rw[show x++y=x++(y++[]) from by rw[List.append_nil]]
   refine aE aA 4 rfl (hZ hf E0 rfl rfl rfl rfl rfl aDc (aE5 hent hc hcmp x y [] N _ _ (by simp only[List.length_nil]; omega) (by omega) (by omega) hM) ?_)
   rintro r zs ⟨t0,ht01,ht02,rfl⟩
   refine aD (hK8 _ (aQ (bR (ι:=Nat×List bS) (fun(⟨bz,l⟩:Nat×List bS)=>⟨63,[(0,.own E0 4 0 N),(1,.s (.int .i64 (N:Nat))),(2,.fn g []),(6,.s (.int .i64 (bz:Nat)))],[(E0,.buf 4 (List.map stC (l)))]⟩) (fun(⟨bz,l⟩:Nat×List bS)=>0<bz∧bz<9223372036854775808∧Ch c bz l∧l.Perm s0) (fun(⟨bz,l⟩:Nat×List bS)=>N - bz) (20,x++t0) ?_ ?_ ?_)))
   · exact⟨by decide,by decide,hd.ch (.last ht02 (by have:=ht01.length_eq; omega)),(List.Perm.append_left x ht01).trans hp⟩
   · exact cJ ⟨rfl,rfl,rfl,rfl,trivial⟩ (by rw[List.append_nil]; rfl)
   ·
    rintro ⟨bz,l⟩ hC
    obtain ⟨hb0,hb1,hch,hlp⟩:=hC
    have hll:=hlp.length_eq
    refine aC (fun K9 hK9=>(aC (fun K10 hK10=>(aB (aE aA 3 rfl (aD (hK10 _ (aL rfl (fun hc2=>?_) (fun hc2=>?_)))))))))
    ·
     simp only[bs] at hc2
     refine aM (hK9 _ (aQ (aC (fun K11 hK11=>(aB (aE aA 1 rfl (aG rfl (aSn rfl rfl rfl (by omega) (by omega)) (aE aA 2 rfl (aD (hK11 _ (aC (fun K12 hK12=>(aQ (bR (ι:=List bS×List bS) (fun(⟨x,y⟩:List bS×List bS)=>⟨63,[(0,.own E0 4 0 N),(1,.s (.int .i64 (N:Nat))),(2,.fn g []),(6,.s (.int .i64 (bz:Nat))),(7,.s (.int .i64 (x.length:Nat))),(8,.s (.int .i64 ((x.length+2*bz:Nat):Int)))],[(E0,.buf 4 (List.map stC (x++y)))]⟩) (fun(⟨x,y⟩:List bS×List bS)=>Fu c (2*bz) x∧Ch c bz y∧(x++y).Perm s0) (fun(⟨x,y⟩:List bS×List bS)=>y.length) ([],l) ?_ ?_ ?_))))))))))))))
     · exact⟨.nil,hch,hlp⟩
     · exact cJ ⟨rfl,rfl,rfl,rfl,rfl,aV (by simp only[List.length_nil]; omega),trivial⟩ rfl
     ·
      rintro ⟨x,y⟩ hC
      obtain ⟨hd2,hr2,hp2⟩:=hC
      have hpl2:=hp2.length_eq
      rw[List.length_append] at hpl2
      refine aC (fun K13 hK13=>(aC (fun K14 hK14=>(aB (aE aA 3 rfl (aD (hK14 _ (aL rfl (fun hc3=>?_) (fun hc3=>?_)))))))))
      ·
       simp only[bs] at hc3
       refine aM (hK13 _ (aQ (aC (fun K15 hK15=>(aB ?_)))))
       obtain ⟨sa,sb,r3,hy,hsa1,hsa2,hsb1,hsb2,hr3⟩:=hr2.pair hb0 (by omega)
       subst hy
       simp only[List.length_append] at hpl2
       refine aE aA 4 rfl ?_
       refine aG rfl (bN rfl rfl (by omega) (by omega)) ?_
       refine aE aA 2 rfl (hZ hf E0 rfl rfl rfl rfl rfl sW (zA hent hc hcmp (sa.length+sb.length) x sa sb r3 N _ _ _ (Nat.le_refl _) (by omega) (by omega) (by omega) (by omega) (by omega) (by omega) hsa1 hsb1 hM) ?_)
       rintro r zs ⟨tt,htt1,htt2,rfl⟩
       have httl:=htt1.length_eq
       rw[List.length_append] at httl
       refine aD (hK15 _ (aC (fun K16 hK16=>(aB (aE aA 2 rfl (aD (hK16 _ (aB (aE aA 2 rfl (aG rfl (aSn rfl rfl rfl (by omega) (by omega)) ?_))))))))))
       refine aG rfl (bN rfl rfl (by omega) (by omega)) ?_
       refine aE aA 1 rfl ?_
       refine bK ?_
       exact⟨(x++tt,r3),⟨.cons hd2 htt2 (by have:=htt1.length_eq; rw[List.length_append] at this; omega),hr3,(show ((x++tt)++r3).Perm s0 from (by rw[List.append_assoc]; exact(List.Perm.append_left x ((List.Perm.append_right r3 htt1).trans (by rw[List.append_assoc]))).trans hp2))⟩,by simp only[List.length_append]; omega,cJ ⟨(by first | rfl | exact aV (by simp only[List.length_append]; omega)),(by first | rfl | exact aV (by simp only[List.length_append]; omega)),(by first | rfl | exact aV (by simp only[List.length_append]; omega)),(by first | rfl | exact aV (by simp only[List.length_append]; omega)),(by first | rfl | exact aV (by simp only[List.length_append]; omega)),(by first | rfl | exact aV (by simp only[List.length_append]; omega)),trivial⟩ (by rw[List.append_assoc]; rfl)⟩
      ·
       simp only[bs] at hc3
       refine bB (hK12 _ (aC (fun K17 hK17=>(aC (fun K18 hK18=>(aB (aE aA 2 rfl ?_)))))))
       refine aG rfl (bN rfl rfl (by omega) (by omega)) ?_
       refine aE aA 1 rfl (aD (hK18 _ (aC (fun K19 hK19=>(aB (aE aA 3 rfl (aD (hK19 _ (aL rfl (fun hc4=>?_) (fun hc4=>?_))))))))))
       ·
        simp only[bs] at hc4
        refine aB ?_
        obtain ⟨sa,sb,hy,hsa1,hsa2,hsb1,hsb2⟩:=hr2.rest (by omega) (by omega)
        subst hy
        simp only[List.length_append] at hpl2
        rw[show x++(sa++sb)=x++(sa++(sb++[])) from by rw[List.append_nil]]
        refine aE aA 5 rfl (hZ hf E0 rfl rfl rfl rfl rfl sW (zA hent hc hcmp (sa.length+sb.length) x sa sb [] N _ _ _ (Nat.le_refl _) (by simp only[List.length_nil]; omega) (by omega) (by omega) (by omega) (by omega) (by omega) hsa1 hsb1 hM) ?_)
        rintro r zs ⟨tq,htq1,htq2,rfl⟩
        refine aD (hK17 _ (aB (aE aA 1 rfl (aG rfl (aSn rfl rfl rfl (by omega) (by omega)) (aE aA 1 rfl ?_)))))
        refine bK ?_
        exact⟨(2*bz,x++tq),⟨by omega,by omega,hd2.ch (.last htq2 (by have:=htq1.length_eq; rw[List.length_append] at this; omega)),(List.Perm.append_left x htq1).trans hp2⟩,by simp only; omega,cJ ⟨(by first | rfl | exact aV (by omega)),(by first | rfl | exact aV (by omega)),(by first | rfl | exact aV (by omega)),(by first | rfl | exact aV (by omega)),trivial⟩ (by rw[List.append_nil]; rfl)⟩
       ·
        simp only[bs] at hc4
        refine aM (hK17 _ (aB (aE aA 1 rfl (aG rfl (aSn rfl rfl rfl (by omega) (by omega)) (aE aA 1 rfl ?_)))))
        refine bK ?_
        exact⟨(2*bz,x++y),⟨by omega,by omega,hd2.ch (.last (hr2.short (by omega)) (by omega)),hp2⟩,by simp only; omega,cJ ⟨(by first | rfl | exact aV (by omega)),(by first | rfl | exact aV (by omega)),(by first | rfl | exact aV (by omega)),(by first | rfl | exact aV (by omega)),trivial⟩ rfl⟩
    ·
     simp only[bs] at hc2
     refine bB ?_
     exact⟨_,_,_,Le.refl _,rfl,rfl,l,hlp,hch.short (by omega),rfl⟩
theorem aAf {g:Nat} (hent:∀ args w,(callFunc g args).run Tryz.prog w=.ok (.enter g args) w) {c:bS→bS→Int} (hc:Tri c) (hcmp:∀ x y:bS,Den Tryz.prog g [.agg (stC x),.agg (stC y)] (·=.s (.int .i64 (c x y)))) (s0:List bS) (N:Nat) (hN:N=s0.length) (hM:N<4611686018427387904) :DenM Tryz.prog 146 [.own E0 4 0 N,.fn g []] 4 ((List.map stC (s0))) (fun r ys=>∃ t:List bS,t.Perm s0∧Srt c t∧ys=(List.map stC (t))):=by
 refine iL Tryz.func146 rfl (Nat.le_of_ble_eq_true rfl) (fun w0 x0 A hf=>?_)
 refine aB (aE aA 4 rfl (hZ hf E0 rfl rfl rfl rfl rfl aOj (aHm hent hc hcmp s0 N hN hM) ?_))
 rintro r zs ⟨t,ht1,ht2,rfl⟩
 refine bK ?_
 exact⟨_,_,_,Le.refl _,rfl,rfl,t,ht1,ht2,rfl⟩
end Go.Proofs.YtckjaledibkghaaGreat
set_option linter.unusedVariables false
set_option linter.unusedSimpArgs false
namespace Go.Proofs.YtckjaledibkghaaGreat
open Go Go.Abs
end Go.Proofs.YtckjaledibkghaaGreat
set_option linter.unusedVariables false
set_option linter.unusedSimpArgs false
namespace Go.Proofs.YtckjaledibkghaaGreat
open Go Go.Abs
theorem tS (a:Int) :Den Tryz.prog 187 [.s (.int .i64 a)]  (·=.s (.bool false)):=by
 refine aS Tryz.func187 rfl (Nat.le_of_ble_eq_true rfl) (fun w0 A hf=>(aC (fun K1 hK1=>(aB (aE aA 1 rfl (aD (hK1 _ (aC (fun K2 hK2=>(aB (aE aA 4 rfl (aD (hK2 _ (aI ?_))))))))))))))
 refine⟨_,rfl,?_⟩
 refine aP ?_
 simp
theorem lN (a b:Int) :Den Tryz.prog 175 [.s (.int .i64 a),.s (.int .i64 b)]  (·=.s (.int .i64 (nA a b))):=by
 refine aS Tryz.func175 rfl (Nat.le_of_ble_eq_true rfl) (fun w0 A hf=>(aC (fun K1 hK1=>(aB (aE aA 1 rfl (aD (hK1 _ (aC (fun K2 hK2=>(aB (aE aA 1 rfl (aJ hf rfl (aK rfl rfl aDe rfl (tS _)) (aE aA 1 rfl (aD (hK2 _ ?_)))))))))))))))
 refine aC (fun K3 hK3=>(aB (aE aA 1 rfl (aJ hf rfl (aK rfl rfl aDe rfl (tS _)) (aE aA 1 rfl (aD (hK3 _ (aC (fun K4 hK4=>(aC (fun K5 hK5=>(aB (aE aA 1 rfl (aD (hK5 _ ?_)))))))))))))))
 refine bG rfl (aM (hK4 _ (aC (fun K6 hK6=>(aC (fun K7 hK7=>(aB (aE aA 1 rfl (aD (hK7 _ (bG rfl (aM (hK6 _ (aC (fun K8 hK8=>?_)))))))))))))))
 refine aC (fun K9 hK9=>(aB (aE aA 3 rfl (aD (hK9 _ (aL rfl (fun hc3=>?_) (fun hc3=>?_)))))))
 ·
  simp only[bs] at hc3
  refine aC (fun K10 hK10=>(aB (aE aA 1 rfl (aD (hK10 _ (aI ?_))))))
  refine⟨_,rfl,?_⟩
  refine eQ ?_
  unfold nA
  (repeat' split) <;> first | rfl | omega
 ·
  simp only[bs] at hc3
  refine aM (hK8 _ (aC (fun K11 hK11=>(aC (fun K12 hK12=>(aB (aE aA 3 rfl (aD (hK12 _ (aL rfl (fun hc4=>?_) (fun hc4=>?_)))))))))))
  ·
   simp only[bs] at hc4
   refine aC (fun K13 hK13=>(aB (aE aA 1 rfl (aD (hK13 _ (aI ?_))))))
   refine⟨_,rfl,?_⟩
   refine eQ ?_
   unfold nA
   (repeat' split) <;> first | rfl | omega
  ·
   simp only[bs] at hc4
   refine aM (hK11 _ (aC (fun K14 hK14=>(aB (aE aA 1 rfl (aD (hK14 _ (aI ?_))))))))
   refine⟨_,rfl,?_⟩
   refine eQ ?_
   unfold nA
   (repeat' split) <;> first | rfl | omega
theorem tQ (s:Sp) :Den Tryz.prog 123 [.agg (spC s)]  (·=.s (.bool (decide (s.2≤s.1)))):=by
 refine aS Tryz.func123 rfl (Nat.le_of_ble_eq_true rfl) (fun w0 A hf=>(aC (fun K1 hK1=>(aB (aJ hf rfl (cI rfl rfl (lf rfl)) (aE aA 1 rfl (aD (hK1 _ (aC (fun K2 hK2=>(aB (aE aA 6 rfl (aD (hK2 _ (aI ?_)))))))))))))))
 refine⟨_,rfl,?_⟩
 rfl
end Go.Proofs.YtckjaledibkghaaGreat
namespace Go.Proofs.YtckjaledibkghaaGreat
end Go.Proofs.YtckjaledibkghaaGreat
set_option linter.unusedVariables false
set_option linter.unusedSimpArgs false
namespace Go.Proofs.YtckjaledibkghaaGreat
open Go Go.Abs
end Go.Proofs.YtckjaledibkghaaGreat
set_option linter.unusedVariables false
set_option linter.unusedSimpArgs false
namespace Go.Proofs.YtckjaledibkghaaGreat
open Go Go.Abs
theorem vT {g:Nat} {cap:List AV} (hent:∀ args w,(callFunc g args).run Tryz.prog w=.ok (.enter g args) w) (hcl:cleanL (fun _=>false) cap=true) (p:bS→Bool) (l:List bS) (hl:l.length≤9223372036854775807) (hp:∀ x∈l,Den Tryz.prog g (.agg (stC x)::cap) (·=.s (.bool (p x)))) :Den Tryz.prog 125 [.sl 4 (l.map stC),.fn g cap]  (·=.s (.int .i64 (oD p l))):=by
 refine aS Tryz.func125 rfl (Nat.le_of_ble_eq_true rfl) (fun w0 A hf=>(aC (fun K1 hK1=>(aB (aE aA 1 rfl (aD (hK1 _ (aC (fun K2 hK2=>(aC (fun K3 hK3=>(aB (aE aA 3 rfl (aD (hK3 _ (aQ ?_))))))))))))))))
 refine bR (ι:=Nat) (fun k=>⟨19,[(0,.sl 4 (l.map stC)),(1,.fn g cap),(7,.s (.int .i64 ((l.map stC).length:Nat))),(8,.s (.int .i64 (k:Nat)))],[]⟩) (fun k=>k≤l.length∧∀ (j:Nat) (hj:j<l.length),j<k→p l[j]=false) (fun k=>l.length - k) 0 ?_ ?_ ?_
 · exact⟨by omega,by omega⟩
 · exact cN rfl
 ·
  rintro k hC
  obtain ⟨h1,h2⟩:=hC
  refine aC (fun K4 hK4=>(aB (aE aA 1 rfl (aD (hK4 _ (aC (fun K5 hK5=>(aL rfl (fun hc1=>?_) (fun hc1=>?_)))))))))
  ·
   simp only[bs] at hc1
   refine aM (hK5 _ (aC (fun K6 hK6=>(aQ (aC (fun K7 hK7=>(aB (aE aA 2 rfl (aD (hK7 _ (aC (fun K8 hK8=>(aB (aE aA 3 rfl ?_))))))))))))))
   refine aG rfl (aY rfl rfl cH bH (by first | exact ixm (by omega) | assumption | exact⟨by decide,rfl⟩)) ?_
   refine aE aA 1 rfl (aJ hf rfl (aK rfl rfl hent (by rw[iG,hcl]; rfl) (hp _ (List.getElem_mem _))) ?_)
   refine aD (hK8 _ (aL rfl (fun hc2=>?_) (fun hc2=>?_)))
   ·
    refine aC (fun K9 hK9=>(aB (aE aA 2 rfl (aD (hK9 _ (aI ?_))))))
    refine⟨_,rfl,?_⟩
    refine eQ ?_
    rw[kH (by omega) h2 (by assumption)]
   ·
    refine aM (hK6 _ (aB ?_))
    refine aG rfl (bN rfl rfl (by omega) (by omega)) ?_
    refine aE aA 1 rfl (aD ?_)
    exact⟨k+1,⟨by omega,fun j hj hjk=>by
      by_cases e:j=k
      · subst e; simp_all
      · exact h2 j hj (by omega)⟩,by omega,cN rfl⟩
  ·
   simp only[bs] at hc1
   refine bB (hK2 _ (aC (fun K10 hK10=>(aB (aE aA 1 rfl (aD (hK10 _ (aI ?_))))))))
   refine⟨_,rfl,?_⟩
   refine eQ ?_
   rw[oZ (fun j hj=>h2 j hj (by omega))]
theorem aD2 {g:Nat} {cap:List AV} (hent:∀ args w,(callFunc g args).run Tryz.prog w=.ok (.enter g args) w) (hcl:cleanL (fun _=>false) cap=true) (hcv:∀ m,convL m cap=cap) (p:bS→Bool) (l:List bS) (n:Nat) (hn:n=l.length) (hl:l.length≤9223372036854775807) (hp:∀ x∈l,Den Tryz.prog g (.agg (stC x)::cap) (·=.s (.bool (p x)))) :DenM Tryz.prog 137 [.own E0 4 0 n,.fn g cap] 4 ((l.map stC)) (fun r ys=>r=.own E0 4 0 (l.filter fun x=>!p x).length∧ys=((l.filter fun x=>!p x).map stC)):=by
 subst hn
 have hq0:∀ j,((l.take j).filter fun x=>!p x).length≤j:=fun j=>jT _ l j
 have hq1:∀ j,((l.take j).filter fun x=>!p x).length≤l.length:=fun j=>iU _ l j
 refine iL Tryz.func137 rfl (Nat.le_of_ble_eq_true rfl) (fun w0 x0 A hf=>?_)
 refine aC (fun K1 hK1=>(aB (aG rfl (bQ) (aD (hK1 _ (aC (fun K2 hK2=>(aB (aE aA 2 rfl (aJ hf rfl (uL rfl rfl (by show [AV.conv _ _,AV.fn g (convL _ cap)]=_; rw[hcv,bX (g:=E0) rfl (by simp)]) aDo (vT hent hcl p l hl hp) rfl) ?_))))))))))
 refine aE aA 1 rfl (aD (hK2 _ (aC (fun K3 hK3=>(aC (fun K4 hK4=>(aB (aE aA 2 rfl (aD (hK4 _ (aL rfl (fun hc1=>?_) (fun hc1=>?_))))))))))))
 ·
  simp only[bs] at hc1
  refine aC (fun K5 hK5=>(aB (aE aA 2 rfl (aD (hK5 _ (aI ?_))))))
  have hno:oD p l=-1:=by simpa using hc1
  rcases dS p l with ⟨_,hn⟩ | ⟨k,hk,e,_⟩
  · exact⟨_,.own E0 4 0 l.length,(l.map stC),Le.refl _,rfl,rfl,by rw[iF p l hn],by rw[iF p l hn]⟩
  · exfalso; omega
 ·
  simp only[bs] at hc1
  refine aM (hK3 _ (aC (fun K6 hK6=>(aC (fun K7 hK7=>(aB ?_))))))
  rcases dS p l with ⟨e0,_⟩ | ⟨k0,hk0,ek0,hpk0,hbef⟩
  · exact absurd e0 (by simpa using hc1)
  have hst:=oN (fun x=>!p x) l k0 hk0 (fun j hj hjk=>by simp [hbef j hj hjk]) (by simp [hpk0])
  rw[ek0]
  refine aE aA 1 rfl ?_
  refine aG rfl (bN rfl rfl (by omega) (by omega)) ?_
  refine aE aA 1 rfl (aD (hK7 _ (aQ (bR (ι:=Nat) (fun j=>⟨42,[(0,.own E0 4 0 l.length),(1,.fn g cap),(5,.s (.int .i64 (((l.take j).filter fun x=>!p x).length:Nat))),(6,.s (.int .i64 (j:Nat)))],[(E0,.buf 4 ((kI (fun x=>!p x) l j).map stC))]⟩) (fun j=>j≤l.length) (fun j=>l.length - j) (k0+1) ?_ ?_ ?_))))
  · exact hk0
  · rw[hst.1,hst.2]; exact jS ⟨rfl,rfl,rfl,rfl,trivial⟩
  ·
   rintro j hC
   let q:=fun x=>!p x
   have hle:((l.take j).filter q).length≤j:=hq0 j
   have hle2:((l.take j).filter fun x=>!p x).length≤j:=hq0 j
   refine aC (fun K8 hK8=>(aC (fun K9 hK9=>(aB (aE aA 4 rfl (aD (hK9 _ (aL rfl (fun hc2=>?_) (fun hc2=>?_)))))))))
   ·
    simp only[bs] at hc2
    refine aM (hK8 _ (aC (fun K10 hK10=>(aQ (aC (fun K11 hK11=>(aB (aE aA 2 rfl ?_))))))))
    refine aG rfl (cL rfl rfl cH bH (by omega)) ?_
    refine aG rfl (bW rfl eP bH rfl (uO (c:=4) (k:=j) (enc:=stC) (by omega) (by rw[fG]; omega) rfl) (cs':=stC l[j]) (by rw[rM (c:=4) (k:=j) (enc:=stC) (by omega) (by rw[fG]; omega) rfl,tV q l j j (by omega) hle])) ?_
    refine bV hf rfl eU rfl bH rfl rfl rfl rfl (lf rfl) (aD (hK11 _ (aC (fun K12 hK12=>(aB (aE aA 2 rfl (aJ hf rfl (aK rfl rfl hent (by rw[iG,hcl]; rfl) (hp _ (List.getElem_mem _))) ?_)))))))
    refine aE aA 1 rfl (aD (hK12 _ (aL rfl (fun hc3=>?_) (fun hc3=>?_))))
    ·
     simp only[bs] at hc3
     refine aC (fun K13 hK13=>(aB (aE aA 3 rfl ?_)))
     refine aG rfl (cL rfl rfl cH bH (by omega)) ?_
     refine aU hf rfl rfl bH rfl rfl (by simp [stC,AV.cells,AV.one,Value.oneCell',splice]) (by simp [stC,AV.cells,AV.leaf,Value.oneCell',splice]) (iT (c:=4) (k:=((l.take j).filter fun x=>!p x).length) (enc:=stC) (v:=l[j]) (by omega) (by rw[fG]; omega) rfl (Nat.le_refl _)) ?_
     refine aD (hK13 _ (aB ?_))
     rw[mR (fun x=>!p x) l j (by omega) (by simp_all)]
     refine aE aA 1 rfl ?_
     refine aG rfl (bN rfl rfl (by omega) (by omega)) ?_
     rw[pV (fun x=>!p x) l j (by omega) (by simp_all)]
     refine aE aA 1 rfl ?_
     refine bK ?_
     refine hK10 _ (aB (aE aA 1 rfl ?_))
     refine aG rfl (bN rfl rfl (by omega) (by omega)) ?_
     refine aE aA 1 rfl (aD ?_)
     exact⟨j+1,(by omega),by omega,cN rfl⟩
    ·
     simp only[bs] at hc3
     rw[mS (fun x=>!p x) l j (by omega) (by simp_all),pW (fun x=>!p x) l j (by omega) (by simp_all)]
     refine aM (hK10 _ (aB (aE aA 1 rfl ?_)))
     refine aG rfl (bN rfl rfl (by omega) (by omega)) ?_
     refine aE aA 1 rfl (aD ?_)
     exact⟨j+1,(by omega),by omega,cN rfl⟩
   ·
    simp only[bs] at hc2
    refine bB (hK6 _ (aC (fun K14 hK14=>(aB (aE aA 2 rfl ?_)))))
    refine aG rfl (fK rfl cH bH rfl rfl (by omega) (by omega)) ?_
    refine zY hf iV eU (by simp [Value.oneCell']) rfl rfl ?_
    refine aD (hK14 _ (aC (fun K15 hK15=>(aB (aE aA 2 rfl ?_)))))
    refine aG rfl (fK rfl cH bH rfl rfl (by omega) (by omega)) ?_
    refine aE aA 1 rfl (aD (hK15 _ (aI ?_)))
    have hjl:l.length≤j:=by omega
    have he:=rW (fun x=>!p x) l j hjl
    refine⟨_,_,_,Le.refl _,rfl,rfl,?_,?_⟩
    · rw[List.take_of_length_le hjl]; rfl
    · rw[List.take_of_length_le hjl,Nat.zero_add,Int.toNat_natCast,← List.map_take,he]
theorem uH (l:List bS) (hl:l.length*32≤140737488355328) :DenO Tryz.prog 92 [.sl 4 (l.map stC)] 4 (·=(l.map stC)):=by
 refine gO Tryz.func92 rfl (Nat.le_of_ble_eq_true rfl) (fun w0 A hf=>?_)
 refine aC (fun K1 hK1=>(aB (aG rfl (bQ) (aD (hK1 _ (aC (fun K2 hK2=>(aC (fun K3 hK3=>(aB (aE aA 1 rfl ?_)))))))))))
 refine qX rfl rfl rfl cH (fun b hb1=>?_)
 refine aD (hK3 _ (aL rfl (fun hc2=>?_) (fun hc2=>?_)))
 ·
  have hl0:l=[]:=by simpa using hb1 (by assumption)
  refine aC (fun K4 hK4=>(aB (lD hf 4 rfl rfl rfl (aD (hK4 _ (aI ?_))))))
  exact⟨2,[],by decide,rfl,rfl,by rw[hl0]; rfl⟩
 ·
  refine aM (hK2 _ (aC (fun K5 hK5=>(aB (fU hf rfl rfl rfl iV rfl rfl rfl rfl (l2 rfl) ?_)))))
  refine aE aA 1 rfl (cA hf rfl iV rfl rfl rfl (.inl rfl) rfl rfl (by first | rfl | simp [eV,bU]) (by first | (simp only[maxLen,List.length_map,List.length_append,List.length_cons,List.length_nil]; omega) | (simp [maxLen] <;> omega)) (by first | (simp only[List.length_map,List.length_append,List.length_cons,List.length_nil]; omega) | (simp <;> omega)) ?_)
  refine bO (eR [7] rfl) (aE aA 1 rfl (aD (hK5 _ (aI ?_))))
  refine⟨5,(l.map stC),by decide,rfl,?_,rfl⟩
  show some (AV.own 5 4 0 (0+(l.map stC).length))=_
  rw[Nat.zero_add]
theorem aTi (n:Nat) (hn:n*32≤140737488355328) :DenO Tryz.prog 181 [.s (.slice none 0 0),.s (.int .i64 (n:Nat))] 4 (·=[]):=by
 refine gO Tryz.func181 rfl (Nat.le_of_ble_eq_true rfl) (fun w0 A hf=>?_)
 refine aC (fun K1 hK1=>(aB (aG rfl (bQ) (aD (hK1 _ (aC (fun K2 hK2=>(aC (fun K3 hK3=>(aB (aE aA 2 rfl (aD (hK3 _ (aL rfl (fun hc1=>?_) (fun hc1=>?_)))))))))))))))
 ·
  simp only[bs] at hc1
  omega
 ·
  simp only[bs] at hc1
  refine aM (hK2 _ (aC (fun K4 hK4=>(aC (fun K5 hK5=>(aB (aE aA 2 rfl (aG rfl (nM rfl cH) (aE aA 2 rfl ?_)))))))))
  refine aG rfl (fB rfl rfl (by omega) (by omega)) ?_
  refine aG rfl (fB rfl rfl (by omega) (by omega)) ?_
  refine aE aA 1 rfl (aD (hK5 _ (aC (fun K6 hK6=>(aB (aE aA 2 rfl (aD (hK6 _ (aL rfl (fun hc2=>?_) (fun hc2=>?_))))))))))
  ·
   simp only[bs] at hc2
   refine aB (aE aA 2 rfl (aG rfl (nM rfl cH) ?_))
   refine aG rfl (sJ rfl cH bH rfl) ?_
   refine aE aA 1 rfl (xG hf rfl rfl rfl iV Tryz.underlying3 rfl rfl (by omega) (by omega) (by simp only[maxLen]; omega) ?_)
   refine aE aA 2 rfl ?_
   refine aG rfl (fK rfl cH bH rfl rfl (by omega) (by omega)) ?_
   refine aE aA 1 rfl (aD (hK4 _ (aC (fun K7 hK7=>(aB (aE aA 1 rfl ?_))))))
   refine aG rfl (wD rfl) ?_
   refine aD (hK7 _ (aI ?_))
   exact⟨22,[],by decide,rfl,rfl,rfl⟩
  ·
   simp only[bs] at hc2
   refine aM (hK4 _ (aC (fun K8 hK8=>(aB (aE aA 1 rfl ?_)))))
   refine aJs hf 4 rfl rfl rfl rfl ?_
   refine aD (hK8 _ (aI ?_))
   exact⟨4,[],by decide,rfl,rfl,rfl⟩
theorem aCe (rows:List (List bS)) (hl:rows.length≤9223372036854775807) (hb:rows.flatten.length*32≤140737488355328) :DenO Tryz.prog 147 [.sl 1 (rows.map fun r=>[AV.sl 4 (r.map stC)])] 4 (·=(rows.flatten.map stC)):=by
 refine gO Tryz.func147 rfl (Nat.le_of_ble_eq_true rfl) (fun w0 A hf=>?_)
 refine aC (fun K1 hK1=>(aB (aG rfl (bQ) (aD (hK1 _ (aC (fun K2 hK2=>(aB (aE aA 1 rfl (aD (hK2 _ (aC (fun K3 hK3=>(aC (fun K4 hK4=>(aB ?_))))))))))))))))
 refine aE aA 3 rfl (aD (hK4 _ (aQ (bR (ι:=Nat) (fun k=>⟨36,[(0,.sl 1 (rows.map fun r=>[AV.sl 4 (r.map stC)])),(3,.s (.int .i64 ((rows.take k).flatten.length:Nat))),(9,.sl 1 (rows.map fun r=>[AV.sl 4 (r.map stC)])),(10,.s (.int .i64 ((rows.map fun r=>[AV.sl 4 (r.map stC)]).length:Nat))),(11,.s (.int .i64 (k:Nat)))],[]⟩) (fun k=>k≤rows.length) (fun k=>rows.length - k) 0 ?_ ?_ ?_))))
 · exact Nat.zero_le _
 · exact cN rfl
 ·
  rintro k hC
  refine aC (fun K5 hK5=>(aB (aE aA 1 rfl (aD (hK5 _ (aC (fun K6 hK6=>(aL rfl (fun hc1=>?_) (fun hc1=>?_)))))))))
  ·
   simp only[bs] at hc1
   refine aM (hK6 _ (aC (fun K7 hK7=>(aQ (aC (fun K8 hK8=>(aB ?_)))))))
   refine aG rfl (aY rfl rfl aJm sC (by first | exact ixm (by omega) | assumption | exact⟨by decide,rfl⟩)) ?_
   refine aE aA 2 rfl (aD (hK8 _ (aC (fun K9 hK9=>(aB ?_)))))
   have hk:k<rows.length:=by omega
   have e1:=congrArg List.length (iR rows k hk)
   rw[List.length_append] at e1
   have e2:=sN rows (k+1)
   have e3:(rows[k].map stC).length=rows[k].length:=List.length_map _
   refine aE aA 3 rfl ?_
   refine aG rfl (bN rfl rfl (by omega) (by omega)) ?_
   rw[show ((((rows.take k).flatten.length:Nat):Int)+(((rows[k].map stC).length:Nat):Int))=(((rows.take (k+1)).flatten.length:Nat):Int) from by omega]
   refine aE aA 1 rfl (aD (hK9 _ (aC (fun K10 hK10=>(aB (aE aA 2 rfl (aD (hK10 _ (aL rfl (fun hc2=>?_) (fun hc2=>?_))))))))))
   ·
    simp only[bs] at hc2
    omega
   ·
    simp only[bs] at hc2
    refine aM (hK7 _ (aB ?_))
    refine aG rfl (bN rfl rfl (by omega) (by omega)) ?_
    refine aE aA 1 rfl (aD ?_)
    exact⟨k+1,(by omega),by omega,cN rfl⟩
  ·
   simp only[bs] at hc1
   refine bB (hK3 _ (aC (fun K11 hK11=>(aB ?_))))
   rw[List.take_of_length_le (show rows.length≤k by omega)]
   refine aE aA 1 rfl (iO hf rfl rfl rfl rfl rfl aOi rfl (aTi rows.flatten.length (by omega)) ?_)
   rintro _ rfl
   refine aE aA 1 rfl (aD (hK11 _ (aC (fun K12 hK12=>(aC (fun K13 hK13=>(aB (aE aA 3 rfl (aD (hK13 _ (aQ (bR (ι:=Nat) (fun j=>⟨36,[(6,.own 24 4 0 (rows.take j).flatten.length),(25,.sl 1 (rows.map fun r=>[AV.sl 4 (r.map stC)])),(26,.s (.int .i64 ((rows.map fun r=>[AV.sl 4 (r.map stC)]).length:Nat))),(27,.s (.int .i64 (j:Nat)))],[(24,.buf 4 ((rows.take j).flatten.map stC))]⟩) (fun j=>j≤rows.length) (fun j=>rows.length - j) 0 ?_ ?_ ?_))))))))))))
   · exact Nat.zero_le _
   · exact cN rfl
   ·
    rintro j hC
    refine aC (fun K14 hK14=>(aB (aE aA 1 rfl (aD (hK14 _ (aC (fun K15 hK15=>(aL rfl (fun hc3=>?_) (fun hc3=>?_)))))))))
    ·
     simp only[bs] at hc3
     refine aM (hK15 _ (aC (fun K16 hK16=>(aQ (aC (fun K17 hK17=>(aB ?_)))))))
     refine aG rfl (aY rfl rfl aJm sC (by first | exact ixm (by omega) | assumption | exact⟨by decide,rfl⟩)) ?_
     refine aE aA 2 rfl (aD (hK17 _ (aB ?_)))
     have hj:j<rows.length:=by omega
     have e1:=congrArg List.length (iR rows j hj)
     rw[List.length_append] at e1
     have e2:=sN rows (j+1)
     have e3:(rows[j].map stC).length=rows[j].length:=List.length_map _
     refine aE aA 2 rfl (cA hf rfl iV rfl rfl rfl (.inl rfl) (by simp only[List.length_map]) rfl (by first | rfl | simp [eV,bU]) (by first | (simp only[maxLen,List.length_map,List.length_append,List.length_cons,List.length_nil]; omega) | (simp [maxLen] <;> omega)) (by first | (simp only[List.length_map,List.length_append,List.length_cons,List.length_nil]; omega) | (simp <;> omega)) ?_)
     refine bO (eR [25,26,27,33] rfl) ?_
     rw[show (rows.take j).flatten.length+(rows[j].map stC).length=(rows.take (j+1)).flatten.length from by omega,← List.map_append,← iR rows j hj]
     refine aE aA 1 rfl ?_
     refine bK ?_
     refine hK16 _ (aB ?_)
     refine aG rfl (bN rfl rfl (by omega) (by omega)) ?_
     refine aE aA 1 rfl (aD ?_)
     exact⟨j+1,(by omega),by omega,cN rfl⟩
    ·
     simp only[bs] at hc3
     refine bB (hK12 _ (aC (fun K18 hK18=>(aB (aE aA 2 rfl (aD (hK18 _ (aI ?_))))))))
     refine⟨24,(rows.flatten.map stC),by decide,?_,?_,rfl⟩
     · rw[List.take_of_length_le (show rows.length≤j by omega)]; rfl
     · rw[List.take_of_length_le (show rows.length≤j by omega)]
       show some (AV.own 24 4 0 rows.flatten.length)=_
       rw[List.length_map]
theorem aP4 (a b:List bS) (ha:a.length≤9223372036854775807) (hb:b.length≤9223372036854775807) :Den Tryz.prog 141 [.sl 4 (a.map stC),.sl 4 (b.map stC)]  (·=.s (.bool (decide (a=b)))):=by
 refine aS Tryz.func141 rfl (Nat.le_of_ble_eq_true rfl) (fun w0 A hf=>(aC (fun K1 hK1=>(aB (aE aA 1 rfl (aD (hK1 _ (aC (fun K2 hK2=>(aC (fun K3 hK3=>(aB (aE aA 5 rfl (aD (hK3 _ (aL rfl (fun hc1=>?_) (fun hc1=>?_)))))))))))))))))
 ·
  simp only[bs] at hc1
  refine aC (fun K4 hK4=>(aB (aE aA 1 rfl (aD (hK4 _ (aI ?_))))))
  refine⟨_,rfl,?_⟩
  refine aP ?_
  rw[nP (by omega)]
 ·
  simp only[bs] at hc1
  refine aM (hK2 _ (aC (fun K5 hK5=>(aC (fun K6 hK6=>(aB (aE aA 3 rfl (aD (hK6 _ (aQ (bR (ι:=Nat) (fun k=>⟨26,[(0,.sl 4 (a.map stC)),(1,.sl 4 (b.map stC)),(12,.s (.int .i64 ((a.map stC).length:Nat))),(13,.s (.int .i64 (k:Nat)))],[]⟩) (fun k=>k≤a.length∧a.take k=b.take k) (fun k=>a.length - k) 0 ?_ ?_ ?_)))))))))))
  · exact⟨Nat.zero_le _,rfl⟩
  · exact cN rfl
  ·
   rintro k hC
   obtain ⟨h1,h2⟩:=hC
   refine aC (fun K7 hK7=>(aB (aE aA 1 rfl (aD (hK7 _ (aC (fun K8 hK8=>(aL rfl (fun hc2=>?_) (fun hc2=>?_)))))))))
   ·
    simp only[bs] at hc2
    refine aM (hK8 _ (aC (fun K9 hK9=>(aQ (aC (fun K10 hK10=>(aB (aE aA 2 rfl (aD (hK10 _ (aC (fun K11 hK11=>(cM hf bE (by kernel_rfl) rfl (aT aA 2 rfl ?_))))))))))))))
    refine bL [(16,_),(17,_)] rfl rfl ⟨⟨rfl,rfl⟩,⟨rfl,rfl⟩,trivial⟩ rfl (aY rfl rfl cH bH (by first | exact ixm (by omega) | assumption | exact⟨by decide,rfl⟩)) ?_
    refine aT aA 3 rfl ?_
    refine bL [(20,_),(21,_)] rfl rfl ⟨⟨rfl,rfl⟩,⟨rfl,rfl⟩,trivial⟩ rfl (aY rfl rfl cH bH (by first | exact ixm (by omega) | assumption | exact⟨by decide,rfl⟩)) ?_
    refine aT aA 1 rfl (bL [(19,_),(23,_)] rfl rfl ⟨⟨rfl,rfl⟩,⟨rfl,rfl⟩,trivial⟩ rfl (sK rfl rfl aWl rfl) ?_)
    rw[stC_eq]
    refine cP [0,1,12,13,24] rfl rfl rfl (hK11 _ (aL rfl (fun hc3=>?_) (fun hc3=>?_)))
    ·
     simp only[bs] at hc3
     refine aC (fun K12 hK12=>(aB (aE aA 1 rfl (aD (hK12 _ (aI ?_))))))
     refine⟨_,rfl,?_⟩
     refine aP ?_
     rw[lM (by omega) (by omega) (by assumption)]
    ·
     simp only[bs] at hc3
     refine aM (hK9 _ (aB ?_))
     refine aG rfl (bN rfl rfl (by omega) (by omega)) ?_
     refine aE aA 1 rfl (aD ?_)
     exact⟨k+1,⟨by omega,jI (by omega) (by omega) h2 (by assumption)⟩,by omega,cN rfl⟩
   ·
    simp only[bs] at hc2
    refine bB (hK5 _ (aC (fun K13 hK13=>(aB (aE aA 1 rfl (aD (hK13 _ (aI ?_))))))))
    refine⟨_,rfl,?_⟩
    refine aP ?_
    rw[kV (by omega) (by omega) h2]
theorem aVn (a b c d:Int) :Den Tryz.prog 156 [.s (.int .i64 a),.s (.int .i64 b),.s (.int .i64 c),.s (.int .i64 d)]  (·=.agg (stC ((a,b),(c,d)))):=by
 refine aS Tryz.func156 rfl (Nat.le_of_ble_eq_true rfl) (fun w0 A hf=>(aC (fun K1 hK1=>(aB (aX hf rfl rfl rfl eU (aD (hK1 _ (aC (fun K2 hK2=>(aB (aE aA 2 rfl (aG rfl (cB rfl aBc xW (l3 rfl) rfl) (aE aA 2 rfl (aG rfl (cB rfl eU xV (l3 rfl) rfl) (aU hf rfl rfl bH rfl rfl (l1 rfl) (l4 rfl) rfl ?_)))))))))))))))
 refine aD (hK2 _ (aI ?_))
 refine⟨_,rfl,?_⟩
 rfl
theorem aVq (s:bS) :Den Tryz.prog 104 [.agg (stC s)]  (·=.agg (stC s)):=by
 refine aS Tryz.func104 rfl (Nat.le_of_ble_eq_true rfl) (fun w0 A hf=>(aC (fun K1 hK1=>(aB (aJ hf rfl (cI rfl rfl (lf rfl)) (aX hf rfl rfl rfl eU (aD (hK1 _ (aC (fun K2 hK2=>(aB (aE aA 8 rfl (aJ hf rfl (aK rfl rfl aO1 rfl (aVn _ _ _ _)) (aU hf rfl rfl bH rfl rfl (l1 rfl) (l4 rfl) rfl (aD ?_)))))))))))))))
 refine hK2 _ (aI ?_)
 refine⟨_,rfl,?_⟩
 rfl
theorem aVo (s:bS) :Den Tryz.prog 90 [.agg (stC s)]  (·=.agg (stC s)):=by
 refine aS Tryz.func90 rfl (Nat.le_of_ble_eq_true rfl) (fun w0 A hf=>(aC (fun K1 hK1=>(aB (aJ hf rfl (cI rfl rfl (lf rfl)) (aX hf rfl rfl rfl iJ (aD (hK1 _ (aC (fun K2 hK2=>(aB (aE aA 10 rfl (aG rfl (cB rfl iJ rZ (l3 rfl) rfl) (aU hf rfl rfl dV rfl rfl (l1 rfl) (l4 rfl) rfl (aD ?_)))))))))))))))
 refine hK2 _ (aI ?_)
 refine⟨_,rfl,?_⟩
 rfl
theorem aGl (a b:bS) :Den Tryz.prog 124 [.agg (stC a),.agg (stC b)]  (·=.s (.int .i64 (iI a b))):=by
 refine aS Tryz.func124 rfl (Nat.le_of_ble_eq_true rfl) (fun w0 A hf=>(aC (fun K1 hK1=>(aB (aJ hf rfl (cI rfl rfl (lf rfl)) (aJ hf rfl (cI rfl rfl (lf rfl)) (aE aA 1 rfl (aD (hK1 _ (aC (fun K2 hK2=>(cM hf bE (by kernel_rfl) rfl (aT aA 6 rfl (aZ [(7,_),(10,_)] rfl rfl ⟨⟨rfl,rfl⟩,⟨rfl,rfl⟩,trivial⟩ rfl (aK rfl rfl qC rfl (lN _ _)) (aT aA 6 rfl ?_)))))))))))))))
 refine aZ [(14,_),(17,_)] rfl rfl ⟨⟨rfl,rfl⟩,⟨rfl,rfl⟩,trivial⟩ rfl (aK rfl rfl qC rfl (lN _ _)) (aT aA 4 rfl (aZ [(20,_),(22,_)] rfl rfl ⟨⟨rfl,rfl⟩,⟨rfl,rfl⟩,trivial⟩ rfl (aK rfl rfl qC rfl (lN _ _)) (aT aA 4 rfl (aZ [(25,_),(27,_)] rfl rfl ⟨⟨rfl,rfl⟩,⟨rfl,rfl⟩,trivial⟩ rfl (aK rfl rfl qC rfl (lN _ _)) (aZ [(11,_),(18,_),(23,_),(28,_)] rfl rfl ⟨⟨rfl,rfl⟩,⟨rfl,rfl⟩,⟨rfl,rfl⟩,⟨rfl,rfl⟩,trivial⟩ rfl (bD zW rfl rfl rfl rfl (l2 rfl)) (aZ [(29,_)] rfl rfl ⟨⟨rfl,rfl⟩,trivial⟩ rfl (aK rfl rfl wW rfl (Nm.or_den [_,_,_,_] (by simp))) ?_))))))
 refine aT aA 1 rfl (cP [4] rfl rfl rfl (hK2 _ (aI ?_)))
 refine⟨_,rfl,?_⟩
 rfl
theorem aGt (a b:bS) :Den Tryz.prog 149 [.agg (stC a),.agg (stC b)]  (·=.s (.bool (decide (iI a b<0)))):=by
 refine aS Tryz.func149 rfl (Nat.le_of_ble_eq_true rfl) (fun w0 A hf=>(aC (fun K1 hK1=>(aB (aJ hf rfl (cI rfl rfl (lf rfl)) (aJ hf rfl (cI rfl rfl (lf rfl)) (aE aA 1 rfl (aD (hK1 _ (aC (fun K2 hK2=>(aC (fun K3 hK3=>(aB (aE aA 5 rfl (aD ?_))))))))))))))))
 refine hK3 _ (aL rfl (fun hc1=>?_) (fun hc1=>?_))
 ·
  simp only[bs] at hc1
  refine aC (fun K4 hK4=>(aB (aE aA 6 rfl (aD (hK4 _ (aI ?_))))))
  refine⟨_,rfl,?_⟩
  exact aP (ah1 (by assumption))
 ·
  simp only[bs] at hc1
  refine aM (hK2 _ (aC (fun K5 hK5=>(aC (fun K6 hK6=>(aB (aE aA 5 rfl (aD (hK6 _ (aL rfl (fun hc2=>?_) (fun hc2=>?_)))))))))))
  ·
   simp only[bs] at hc2
   refine aC (fun K7 hK7=>(aB (aE aA 6 rfl (aD (hK7 _ (aI ?_))))))
   refine⟨_,rfl,?_⟩
   exact aP (ah2 (by assumption) (by assumption))
  ·
   simp only[bs] at hc2
   refine aM (hK5 _ (aC (fun K8 hK8=>(aC (fun K9 hK9=>(aB (aE aA 5 rfl (aD (hK9 _ (aL rfl (fun hc3=>?_) (fun hc3=>?_)))))))))))
   ·
    simp only[bs] at hc3
    refine aC (fun K10 hK10=>(aB (aE aA 6 rfl (aD (hK10 _ (aI ?_))))))
    refine⟨_,rfl,?_⟩
    exact aP (ah3 (by assumption) (by assumption) (by assumption))
   ·
    simp only[bs] at hc3
    refine aM (hK8 _ (aC (fun K11 hK11=>(aB (aE aA 6 rfl (aD (hK11 _ (aI ?_))))))))
    refine⟨_,rfl,?_⟩
    exact aP (ah4 (by assumption) (by assumption) (by assumption))
theorem aNz (s:bS) (t:Int) :Den Tryz.prog 138 [.agg (stC s),.adr [.s (.int .i64 t)]]  (·=.s (.bool (decide (s.1.2≤t)))):=by
 refine aS Tryz.func138 rfl (Nat.le_of_ble_eq_true rfl) (fun w0 A hf=>(aC (fun K1 hK1=>(aB (aJ hf rfl (cI rfl rfl (lf rfl)) (aE aA 1 rfl (aD (hK1 _ (aC (fun K2 hK2=>(aB (aE aA 6 rfl (aD (hK2 _ (aI ?_)))))))))))))))
 refine⟨_,rfl,?_⟩
 rfl
end Go.Proofs.YtckjaledibkghaaGreat
namespace Go.Abs
open Go
theorem aJz {c:AV} (h:Ty (.int .i64) [c]):∃ n:Int,c=.s (.int .i64 n)∧-9223372036854775808≤n∧n≤9223372036854775807:=by
  simp only[Ty] at h
  obtain ⟨n,hx,hw⟩:=h
  simp only[List.cons.injEq,and_true] at hx
  exact⟨n,hx,wf_i64 hw⟩
theorem aPx {c:AV} (h:Ty .str [c]):∃ s:ByteArray,c=.s (.string s)∧s.size≤140737488351232:=by
  simp only[Ty] at h
  obtain ⟨s,hx,hw⟩:=h
  simp only[List.cons.injEq,and_true] at hx
  exact⟨s,hx,hw⟩
theorem ty_pair {cs:List AV} (h:Ty (.agg [.str,.str]) cs):∃ a b:ByteArray,cs=[.s (.string a),.s (.string b)]∧a.size≤140737488351232∧b.size≤140737488351232:=by
  simp only[Ty,TyL] at h
  obtain ⟨a,b,rfl,⟨n,rfl,hn⟩,a',b',rfl,⟨m,rfl,hm⟩,rfl⟩:=h
  exact⟨n,m,rfl,hn,hm⟩
end Go.Abs
set_option linter.unusedVariables false
set_option linter.unusedSimpArgs false
namespace Go.Abs
theorem aVi (x y:Pr):(x.1.toList == y.1.toList&&(x.2.toList == y.2.toList&&true))=decide (x=y):=by
  rw[Bool.eq_iff_iff]
  simp only[Bool.and_eq_true,beq_iff_eq,toList_inj,and_true,decide_eq_true_eq,Prod.ext_iff]
theorem enC_eq (x y:En):((x.1.1.toList == y.1.1.toList&&(x.1.2.toList == y.1.2.toList&&true))&&((x.2.1 == y.2.1&&(x.2.2 == y.2.2&&true))&&true))=decide (x=y):=by
  rw[Bool.eq_iff_iff]
  simp only[Bool.and_eq_true,beq_iff_eq,toList_inj,and_true,decide_eq_true_eq,Prod.ext_iff]
theorem enC_eqF (x y:En):(x.1.1.toList == y.1.1.toList&&(x.1.2.toList == y.1.2.toList&&(x.2.1 == y.2.1&&(x.2.2 == y.2.2&&true))))=decide (x=y):=by
  rw[Bool.eq_iff_iff]
  simp only[Bool.and_eq_true,beq_iff_eq,toList_inj,and_true,decide_eq_true_eq,Prod.ext_iff,and_assoc]
def RevI (l:List En) (n:Nat) (t:Int) (k:Nat) (out:List En):Prop :=
  k≤l.length∧∃ hn:n<l.length,(k≤n∧out=l.take k)∨(n<k∧out=l.take n++(vC l[n] t++(l.take k).drop (n+1)))
theorem RevI.start {l:List En} {n:Nat} (t:Int) (hn:n<l.length):RevI l n t 0 []:=⟨Nat.zero_le _,hn,.inl ⟨Nat.zero_le _,rfl⟩⟩
theorem RevI.len {l:List En} {n:Nat} {t:Int} {k:Nat} {out:List En} (h:RevI l n t k out):out.length≤k:=by
  obtain ⟨hk,hn,⟨h1,rfl⟩ | ⟨h1,rfl⟩⟩:=h
  · simp; omega
  · simp only[List.length_append,List.length_take,List.length_drop,vC]
    split <;> simp <;> omega
theorem aIi {α:Type} {l:List α} {k:Nat} (h:k<l.length):l.take (k+1)=l.take k++[l[k]]:=(List.take_append_getElem h).symm
theorem RevI.ne {l:List En} {n:Nat} {t:Int} {k:Nat} {out:List En} (h:RevI l n t k out) (hk:k<l.length) (hne:k≠n):RevI l n t (k+1) (out++[l[k]]):=by
  obtain ⟨_,hn,⟨h1,rfl⟩ | ⟨h1,rfl⟩⟩:=h
  · exact⟨hk,hn,.inl ⟨by omega,(aIi hk).symm⟩⟩
  · refine⟨hk,hn,.inr ⟨by omega,?_⟩⟩
    rw[aIi hk,List.drop_append_of_le_length (by simp; omega)]
    simp [List.append_assoc]
theorem RevI.keep {l:List En} {n:Nat} {t:Int} {k:Nat} {out:List En} (h:RevI l n t k out) (hk:k<l.length) (he:k=n) (ht:l[k].2.1<t):RevI l n t (k+1) (out++[(l[k].1,(l[k].2.1,t))]):=by
  subst he
  obtain ⟨_,hn,⟨h1,rfl⟩ | ⟨h1,rfl⟩⟩:=h
  · refine⟨hk,hn,.inr ⟨by omega,?_⟩⟩
    rw[vC,if_neg (by omega),List.drop_eq_nil_of_le (by simp; omega),List.append_nil]
  · omega
theorem RevI.gone {l:List En} {n:Nat} {t:Int} {k:Nat} {out:List En} (h:RevI l n t k out) (hk:k<l.length) (he:k=n) (ht:t≤l[k].2.1):RevI l n t (k+1) out:=by
  subst he
  obtain ⟨_,hn,⟨h1,rfl⟩ | ⟨h1,rfl⟩⟩:=h
  · refine⟨hk,hn,.inr ⟨by omega,?_⟩⟩
    rw[vC,if_pos ht,List.drop_eq_nil_of_le (by simp; omega),List.append_nil,List.append_nil]
  · omega
theorem RevI.fin {l:List En} {p:Pr} {n:Nat} {t:Int} {k:Nat} {out:List En} (h:RevI l n t k out) (hk:l.length≤k) (h1:∀ (j:Nat) (hj:j<l.length),j<n→eX p l[j]=false) (h2:∀ hn:n<l.length,eX p l[n]=true):out=kA l p t:=by
  obtain ⟨_,hn,⟨h3,rfl⟩ | ⟨h3,rfl⟩⟩:=h
  · omega
  · rw[aEh p t l n hn h1 (h2 hn),List.take_of_length_le hk]
theorem rev_set {l:List En} {p:Pr} {t:Int} {k:Nat} (hk:k<l.length) (h1:∀ (j:Nat) (hj:j<l.length),j<k→eX p l[j]=false) (h2:eX p l[k]=true) (ht:l[k].2.1<t):l.set k (l[k].1,(l[k].2.1,t))=kA l p t:=by
  rw[aEh p t l k hk h1 h2,vC,if_neg (by omega),List.set_eq_take_append_cons_drop,if_pos hk]; rfl
theorem rev_del {l:List En} {p:Pr} {t:Int} {k:Nat} {v:En} (hk:k<l.length) (h1:∀ (j:Nat) (hj:j<l.length),j<k→eX p l[j]=false) (h2:eX p l[k]=true) (ht:t≤l[k].2.1):(l.set k v).take k++(l.set k v).drop (k+1)=kA l p t:=by
  rw[aEh p t l k hk h1 h2,vC,if_pos ht,List.take_set_of_le (Nat.le_refl _),List.drop_set_of_lt (by omega)]; rfl
theorem aSp {l:List En} {p:Pr} (h:oD (eX p) l<0):onB l p=false:=by
  rw[onB,← pU]; simp; omega
theorem onB_t {l:List En} {p:Pr} (h:0≤oD (eX p) l):onB l p=true:=by
  rw[onB,← pU]; simp; omega
theorem aQg {l:List En} {p:Pr} {k:Nat} (hk:k<l.length) (h:eX p l[k]=true):onB l p=true:=List.any_eq_true.2 ⟨_,List.getElem_mem hk,h⟩
theorem aeq_pr {x y:Pr}:aeqL [.str,.str] (prC x) (prC y)=some (decide (x=y),[],[]):=by
  rw[← aVi]; rfl
theorem aMr {e:En} (h:e.2.2≤e.2.1∨cT e.1.1=false∨cT e.1.2=false∨(cT e.1.1&&cT e.1.2)=false):okE e=false:=by
  rcases h with h | h | h | h
  · have:decide (e.2.1<e.2.2)=false:=by simp; omega
    rw[okE,this]; rfl
  · rw[okE,h]; simp
  · rw[okE,h]; simp
  · rw[okE,h]; simp
theorem aF7 {e:En} (h:e.2.1<e.2.2) (h1:cT e.1.1=true) (h2:cT e.1.2=true):okE e=true:=by simp [okE,h,h1,h2]
theorem qM {a b:En}:aI3 a b=true↔mL a b<0∧(a.1=b.1→a.2.2≤b.2.1):=by
  simp only[aI3,Bool.and_eq_true,decide_eq_true_eq,Bool.not_eq_true',Bool.and_eq_false_iff,decide_eq_false_iff_not]
  refine and_congr_right fun _=>?_
  by_cases e:a.1=b.1
  · simp only[e,not_true_eq_false,false_or,forall_const]; omega
  · simp [e]
theorem aEj {a b:En} (h:¬ mL a b<0∨(a.1=b.1∧b.2.1<a.2.2)):aI3 a b=false:=by
  rw[Bool.eq_false_iff]; intro h0
  obtain ⟨h1,h2⟩:=qM.1 h0
  rcases h with h | ⟨h,h3⟩
  · omega
  · have:=h2 h; omega
theorem aKh {a b:Pr} (h1:a.1.toList=b.1.toList) (h2:a.2.toList=b.2.toList):a=b:=Prod.ext (toList_inj.1 h1) (toList_inj.1 h2)
theorem zI {a b:Pr} (h:¬ a.1.toList=b.1.toList):a≠b:=fun e=>h (by rw[e])
theorem zH {a b:Pr} (h:¬ a.2.toList=b.2.toList):a≠b:=fun e=>h (by rw[e])
theorem aVx {u:ByteArray} {e:En} (h:e.1.1.toList=u.toList∨e.1.2.toList=u.toList):(!lC u e)=false:=by
  simp only[toList_inj] at h
  rcases h with h | h <;> simp [lC,tM,h]
theorem hasU_f {u:ByteArray} {e:En} (h1:¬ e.1.1.toList=u.toList) (h2:¬ e.1.2.toList=u.toList):(!lC u e)=true:=by
  simp only[toList_inj] at h1 h2
  simp [lC,tM,h1,h2]
end Go.Abs
set_option linter.unusedVariables false
set_option linter.unusedSimpArgs false
namespace Go.Abs
open Go Go.RowKit
variable {P:Program}
theorem eL {f:Nat} {args:List AV} {x y:AV} (h:Den P f args (·=x)) (e:x=y):Den P f args (·=y):=e ▸ h
def RisR (a b:En):Prop:=mL a b<0∧(a.1=b.1→a.2.2≤b.2.1)
theorem RisR.trans {a b c:En} (hb:okE b=true) (h1:RisR a b) (h2:RisR b c):RisR a c:=by
  refine⟨ordE_tri.lt_tr h1.1 h2.1,fun e=>?_⟩
  have hab:tN a.1 b.1≤0:=by
    have:=h1.1; rw[wE] at this; unfold wI at this; split at this <;> simp only[] at*<;> omega
  have hbc:tN b.1 c.1≤0:=by
    have:=h2.1; rw[wE] at this; unfold wI at this; split at this <;> simp only[] at*<;> omega
  have hba:tN b.1 a.1≤0:=by rw[e]; exact hbc
  have h0:tN a.1 b.1=0:=by have:=pairC_tri.swap a.1 b.1; omega
  have e1:=aF1.1 h0
  have g1:=h1.2 e1
  have g2:=h2.2 (e1 ▸ e)
  have g3:b.2.1<b.2.2:=by
    simp only[okE,Bool.and_eq_true,decide_eq_true_eq] at hb; exact hb.1
  omega
theorem rD (l:List En):sG l=true↔(∀ x∈l,okE x=true)∧l.Pairwise RisR:=by
  rw[sG,tI RisR (fun x y=>qM) (fun x y z hy h1 h2=>RisR.trans hy h1 h2)]
  simp
theorem aCg {l:List En} (q:En→Bool) (h:sG l=true):sG (l.filter q)=true:=by
  rw[rD] at *
  exact⟨fun x hx=>h.1 x (List.mem_filter.1 hx).1,h.2.filter q⟩
end Go.Abs
set_option linter.unusedVariables false
set_option linter.unusedSimpArgs false
namespace Go.Abs
abbrev Se:=(Int×ByteArray)×(Int×Int)
def seC (e:Se):List AV:=[.s (.int .i64 e.1.1),.s (.string e.1.2),.s (.int .i64 e.2.1),.s (.int .i64 e.2.2)]
abbrev se0:Se:=((0,⟨#[]⟩),(0,0))
abbrev st0:bS:=((0,0),(0,0))
theorem aVd (x y:Se):(x.1.1 == y.1.1&&(x.1.2.toList == y.1.2.toList&&(x.2.1 == y.2.1&&(x.2.2 == y.2.2&&true))))=decide (x=y):=by
  rw[Bool.eq_iff_iff]
  simp only[Bool.and_eq_true,beq_iff_eq,toList_inj,and_true,decide_eq_true_eq,Prod.ext_iff,and_assoc]
def aB1 {α:Type} (q:α→Bool) (e:α):List α→List α
  | []=>[e]
  | x::l=>if q x=true then e::x::l else x::aB1 q e l
theorem aA0 {α:Type} (q:α→Bool) (e:α):∀ (l:List α) (k:Nat),k≤l.length→(∀ (j:Nat) (hj:j<l.length),j<k→q l[j]=false)→(∀ (h:k<l.length),q l[k]=true)→aB1 q e l=l.take k++e::l.drop k
  | [],k,hk,_,_=>by
                          have:k=0:=by simpa using hk
                          subst this; rfl
  | x::l,0,_,_,h=>by have:=h (by simp); simp only[List.getElem_cons_zero] at this; simp [aB1,this]
  | x::l,k+1,hk,h1,h2=>by
    have hx:=h1 0 (by simp) (by omega)
    simp only[List.getElem_cons_zero] at hx
    rw[aB1,if_neg (by simp [hx]),aA0 q e l k (by simpa using hk) (fun j hj hjk=>by have:=h1 (j+1) (by simpa using hj) (by omega); simpa using this) (fun h=>by have:=h2 (by simpa using h); simpa using this)]
    rfl
theorem aGf {α:Type} (q:α→Bool) (e:α):∀ l:List α,(aB1 q e l).length=l.length+1
  | []=>rfl
  | x::l=>by rw[aB1]; split <;> simp [aGf q e l]
theorem aAz {α:Type} {q:α→Bool} {e x:α}:∀ {l:List α},x∈aB1 q e l↔x=e∨x∈l
  | []=>by simp [aB1]
  | y::l=>by
    rw[aB1]; split
    · simp
    · simp only[List.mem_cons,aAz (l:=l)]
      constructor
      · rintro (h | h | h) <;> simp [h]
      · rintro (h | h | h) <;> simp [h]
def isN (n:Int) (e:Se):Bool:=decide (e.1.1=n)
def aKs (l:List Se) (n:Int):Bool:=l.any (isN n)
def aKv:List Se→Int→Se
  | [],_=>se0
  | e::l,n=>if isN n e=true then e else aKv l n
def fR:List Se→Int→ByteArray→Int
  | [],_,_=>101
  | e::l,n,u=>if isN n e=true then (if e.1.2=u then 0 else 102) else fR l n u
def aNr:List Se→Int→Int→Int→List Se
  | [],_,_,_=>[]
  | e::l,n,st,t=>if isN n e=true then (e.1,(st,t))::l else e::aNr l n st t
def aK1:List Se→Int→List Se
  | [],_=>[]
  | e::l,n=>if isN n e=true then l else e::aK1 l n
def atK (l:List Se) (n:Int):Nat:=l.findIdx (isN n)
theorem mW (n:Int) (u:ByteArray) (st t:Int):∀ (l:List Se) (k:Nat) (hk:k<l.length),(∀ (j:Nat) (hj:j<l.length),j<k→isN n l[j]=false)→isN n l[k]=true →
    atK l n=k∧aKv l n=l[k]∧fR l n u=(if l[k].1.2=u then 0 else 102)∧aNr l n st t=l.set k (l[k].1,(st,t))∧aK1 l n=l.take k++l.drop (k+1)
  | [],k,hk,_,_=>by simp at hk
  | x::l,0,_,_,h=>by
    simp only[List.getElem_cons_zero] at h
    simp [atK,aKv,fR,aNr,aK1,h,List.findIdx_cons]
  | x::l,k+1,hk,h1,h2=>by
    have hx:=h1 0 (by simp) (by omega)
    simp only[List.getElem_cons_zero] at hx
    obtain ⟨e1,e2,e3,e4,e5⟩:=mW n u st t l k (by simpa using hk) (fun j hj hjk=>by have:=h1 (j+1) (by simpa using hj) (by omega); simpa using this) (by simpa using h2)
    have hx':¬ isN n x=true:=by simp [hx]
    refine⟨?_,?_,?_,?_,?_⟩
    · rw[atK] at *; rw[List.findIdx_cons,hx,e1]; rfl
    · rw[aKv,if_neg hx',e2]; rfl
    · rw[fR,if_neg hx',e3]; rfl
    · rw[aNr,if_neg hx',e4]; rfl
    · rw[aK1,if_neg hx',e5]; rfl
theorem aA8 (n:Int) (u:ByteArray):∀ (l:List Se),(∀ (j:Nat) (hj:j<l.length),isN n l[j]=false)→atK l n=l.length∧fR l n u=101∧aKs l n=false
  | [],_=>⟨rfl,rfl,rfl⟩
  | x::l,h=>by
    have hx:=h 0 (by simp)
    simp only[List.getElem_cons_zero] at hx
    obtain ⟨e1,e2,e3⟩:=aA8 n u l (fun j hj=>by have:=h (j+1) (by simpa using hj); simpa using this)
    refine⟨?_,?_,?_⟩
    · rw[atK] at *; rw[List.findIdx_cons,hx,e1]; rfl
    · rw[fR,if_neg (by simp [hx]),e2]
    · rw[aKs] at *; rw[List.any_cons,hx,e3]; rfl
theorem aGk (l:List Se) (n:Int) (u:ByteArray):(fR l n u=101∧aKs l n=false∧atK l n=l.length)∨(aKs l n=true∧fR l n u≠101∧∃ k,∃ hk:k<l.length,isN n l[k]=true∧(∀ (j:Nat) (hj:j<l.length),j<k→isN n l[j]=false)∧atK l n=k∧fR l n u=(if l[k].1.2=u then 0 else 102)):=by
  rcases dS (isN n) l with ⟨_,h⟩ | ⟨k,hk,_,h1,h2⟩
  · obtain ⟨e1,e2,e3⟩:=aA8 n u l (fun j hj=>h _ (List.getElem_mem hj))
    exact .inl ⟨e2,e3,e1⟩
  · obtain ⟨e1,_,e3,_⟩:=mW n u 0 0 l k hk h2 h1
    exact .inr ⟨List.any_eq_true.2 ⟨_,List.getElem_mem hk,h1⟩,by rw[e3]; split <;> decide,k,hk,h1,h2,e1,e3⟩
theorem aA5 {l:List Se} {n:Int} {u:ByteArray} (h:fR l n u=0):∃ k,∃ hk:k<l.length,atK l n=k∧isN n l[k]=true∧l[k].1.2=u∧∀ (j:Nat) (hj:j<l.length),j<k→isN n l[j]=false:=by
  rcases aGk l n u with ⟨e,_⟩ | ⟨_,_,k,hk,h1,h2,h3,h4⟩
  · omega
  · refine⟨k,hk,h3,h1,?_,h2⟩
    rw[h4] at h
    split at h
    · assumption
    · omega
theorem aNo {l:List Se} {n:Int} {u:ByteArray}:fR l n u=101↔aKs l n=false:=by
  rcases aGk l n u with ⟨e,h,_⟩ | ⟨e,h,_⟩
  · simp [e,h]
  · simp [e,h]
def pR (l:List Se) (e:Se):Int:=if aKs l e.1.1=true then 100 else if 16≤l.length then 103 else 0
def jV (n:Int) (x:Se):Bool:=decide (n<x.1.1)
def aD9 (l:List Se) (e:Se):List Se:=aB1 (jV e.1.1) e l
def dK (e:Se) (t:Int):bS:=((e.2.2,t),(e.1.1,e.2.1))
def fP (e:Se):Bool:=cT e.1.2&&(decide (1≤e.1.1)&&decide (e.1.1≤999)&&(decide (1≤e.2.1)&&decide (e.2.1≤4))&&(decide (0≤e.2.2)&&decide (e.2.2≤1099511627775)))
def gS (a b:Se):Bool:=decide (a.1.1<b.1.1)
def gI (l:List Se):Bool:=oC fP gS none l&&decide (l.length≤16)
theorem kO (l:List Se):gI l=true↔((∀ x∈l,fP x=true)∧l.Pairwise fun a b=>a.1.1<b.1.1)∧l.length≤16:=by
  rw[gI,Bool.and_eq_true,decide_eq_true_eq,tI (fun a b:Se=>a.1.1<b.1.1) (fun x y=>by simp [gS]) (fun x y z _ h1 h2=>Int.lt_trans h1 h2)]
  simp
theorem opn_ris {l:List Se} {e:Se} (h:gI l=true) (he:gI [e]=true) (ho:pR l e=0):gI (aD9 l e)=true:=by
  obtain ⟨⟨h1,h2⟩,h3⟩:=(kO l).1 h
  have h4:=((kO [e]).1 he).1.1 e (by simp)
  unfold pR at ho
  split at ho
  · omega
  · rename_i hn
    split at ho
    · omega
    · rename_i h16
      refine(kO _).2 ⟨⟨fun x hx=>?_,?_⟩,by rw[aD9,aGf]; omega⟩
      · rcases aAz.1 hx with rfl | hx
        · exact h4
        · exact h1 x hx
      · have hne:∀ x∈l,x.1.1≠e.1.1:=fun x hx hh=>hn (List.any_eq_true.2 ⟨x,hx,by simp [isN,hh]⟩)
        clear h1 h h3 h16 ho hn
        revert h2 hne
        induction l with
        | nil=>intro _ _; exact List.pairwise_singleton _ _
        | cons x l ih =>
          intro h2 hne
          obtain ⟨q1,q2⟩:=List.pairwise_cons.1 h2
          have hx:=hne x (by simp)
          rw[aD9,aB1]
          split
          · rename_i hq
            simp only[jV,decide_eq_true_eq] at hq
            refine List.pairwise_cons.2 ⟨fun y hy=>?_,h2⟩
            rcases List.mem_cons.1 hy with rfl | hy
            · exact hq
            · have:=q1 y hy; omega
          · rename_i hq
            simp only[jV,decide_eq_true_eq] at hq
            refine List.pairwise_cons.2 ⟨fun y hy=>?_,ih q2 (fun y hy=>hne y (by simp [hy]))⟩
            rcases aAz.1 hy with rfl | hy
            · omega
            · exact q1 y hy
def jK (u:ByteArray) (e:Se):Bool:=decide (e.1.2=u)
def gA (l:List Se) (u:ByteArray) (t:Int):List bS:=l.flatMap fun e=>if jK u e=true∧¬ t≤e.2.2 then [dK e t] else []
def dM (l:List Se) (u:ByteArray) (t:Int):List bS:=aL0 (gA l u t)
def jQ (u:ByteArray) (t:Int) (out:List bS) (e:Se):List bS:=if jK u e=true then fZ out (dK e t) else out
theorem aIk (u:ByteArray) (t:Int):∀ (l:List Se) (out:List bS),Srt iI out→Srt iI (l.foldl (jQ u t) out)∧(l.foldl (jQ u t) out).Perm (out++gA l u t)
  | [],out,h=>⟨h,by simp [gA]⟩
  | e::l,out,h=>by
    rw[List.foldl_cons]
    have hstep:Srt iI (jQ u t out e)∧(jQ u t out e).Perm (out++(if jK u e=true∧¬ t≤e.2.2 then [dK e t] else [])):=by
      unfold jQ
      by_cases hu:jK u e=true
      · rw[if_pos hu]
        by_cases ht:t≤e.2.2
        · rw[fZ,if_pos (show (dK e t).1.2≤(dK e t).1.1 from ht),if_neg (by simp [ht])]
          exact⟨h,by simp⟩
        · rw[fZ,if_neg (show ¬ (dK e t).1.2≤(dK e t).1.1 from ht),if_pos ⟨hu,ht⟩]
          exact⟨mQ h,(gN _ _).trans (List.perm_append_comm (l₁:=[dK e t]))⟩
      · rw[if_neg hu,if_neg (by simp [hu])]
        exact⟨h,by simp⟩
    obtain ⟨h1,h2⟩:=aIk u t l _ hstep.1
    refine⟨h1,h2.trans ((hstep.2.append_right _).trans (List.Perm.of_eq ?_))⟩
    simp [gA,List.append_assoc]
theorem aP0 (l:List Se) (u:ByteArray) (t:Int):l.foldl (jQ u t) []=dM l u t:=by
  obtain ⟨h1,h2⟩:=aIk u t l [] List.Pairwise.nil
  exact aLz (by simpa using h2) h1
theorem aBk (l:List Se) (u:ByteArray) (t:Int):(dM l u t).length≤l.length:=by
  rw[dM,aTe]
  induction l with
  | nil=>simp [gA]
  | cons e l ih =>
    have:(if jK u e=true∧¬ t≤e.2.2 then [dK e t] else []).length≤1:=by split <;> simp
    simp only[gA,List.flatMap_cons,List.length_append,List.length_cons] at *
    omega
end Go.Abs
set_option linter.unusedVariables false
set_option linter.unusedSimpArgs false
namespace Go.Abs
open Go
theorem ty_st {cs:List AV} (h:Ty (.agg [.int .i64,.int .i64,.int .i64,.int .i64]) cs):∃ s:bS,cs=stC s∧True:=by
  simp only[Ty,TyL] at h
  obtain ⟨a,b,rfl,⟨w,rfl,_⟩,a',b',rfl,⟨u,rfl,_⟩,a2,b2,rfl,⟨n,rfl,_⟩,a3,b3,rfl,⟨m,rfl,_⟩,rfl⟩:=h
  exact⟨((w,u),(n,m)),rfl,trivial⟩
theorem ty_sts {c:AV} (h:Ty (.sl 32 (.agg [.int .i64,.int .i64,.int .i64,.int .i64])) [c]):∃ l:List bS,c=.sl 4 (l.map stC)∧l.length*32≤140737488351232:=by
  simp only[Ty] at h
  obtain ⟨xs,hx,_,hl,hxs⟩:=h
  obtain ⟨l,rfl,hr⟩:=uA stC (fun _=>True) (d:=.agg [.int .i64,.int .i64,.int .i64,.int .i64]) (fun cs h=>ty_st h) (xs:=xs) (fun x hx=>by simp only[Ty]; exact hxs x hx)
  simp only[List.cons.injEq,and_true] at hx
  exact⟨l,hx,by simpa using hl⟩
end Go.Abs
set_option linter.unusedVariables false
namespace Go.Abs
open Go
theorem ty_se {cs:List AV} (h:Ty (.agg [.int .i64,.str,.int .i64,.int .i64]) cs):∃ e:Se,cs=seC e∧TS e.1.2:=by
  simp only[Ty,TyL] at h
  obtain ⟨a,b,rfl,⟨n,rfl,_⟩,a',b',rfl,⟨u,rfl,hu⟩,a2,b2,rfl,⟨w,rfl,_⟩,a3,b3,rfl,⟨m,rfl,_⟩,rfl⟩:=h
  exact⟨((n,u),(w,m)),rfl,Nat.le_trans hu (by decide)⟩
theorem ty_ses {c:AV} (h:Ty (.sl 40 (.agg [.int .i64,.str,.int .i64,.int .i64])) [c]):∃ l:List Se,c=.sl 4 (l.map seC)∧l.length*40≤140737488351232∧∀ e∈l,TS e.1.2:=by
  simp only[Ty] at h
  obtain ⟨xs,hx,_,hl,hxs⟩:=h
  obtain ⟨l,rfl,hr⟩:=uA seC (fun e=>TS e.1.2) (d:=.agg [.int .i64,.str,.int .i64,.int .i64]) (fun cs h=>ty_se h) (xs:=xs) (fun x hx=>by simp only[Ty]; exact hxs x hx)
  simp only[List.cons.injEq,and_true] at hx
  exact⟨l,hx,by simpa using hl,hr⟩
theorem er_ne {l:List Se} {k n:Nat} (hk:k<l.length) (h:k≠n):(l.take (k+1)).eraseIdx n=(l.take k).eraseIdx n++[l[k]]:=by
  rw[List.take_succ_eq_append_getElem hk]
  have hl:(l.take k).length=k:=by rw[List.length_take]; omega
  by_cases hn:n<k
  · rw[List.eraseIdx_append_of_lt_length (by omega)]
  · rw[List.eraseIdx_of_length_le (by simp only[List.length_append,List.length_cons,List.length_nil]; omega),List.eraseIdx_of_length_le (by omega)]
theorem er_eq {l:List Se} {k:Nat} (hk:k<l.length):(l.take (k+1)).eraseIdx k=(l.take k).eraseIdx k:=by
  rw[List.take_succ_eq_append_getElem hk]
  have hl:(l.take k).length=k:=by rw[List.length_take]; omega
  rw[List.eraseIdx_append_of_length_le (by omega),hl,Nat.sub_self,List.eraseIdx_of_length_le (show (List.take k l).length≤k by omega)]
  simp
theorem er_end (l:List Se) (n:Nat):l.eraseIdx n=l.take n++l.drop (n+1):=List.eraseIdx_eq_take_drop_succ l n
abbrev mM (l:List Se) (e:Se):List Se:=if pR l e=0 then aD9 l e else []
abbrev mT (l:List Se) (n:Int) (u:ByteArray) (st t:Int):List Se:=if fR l n u=0 then aNr l n st t else []
abbrev mE (l:List Se) (n:Int) (u:ByteArray):List Se:=if fR l n u=0 then aK1 l n else []
abbrev aKu (l:List Se) (n:Int) (u:ByteArray):Se:=if fR l n u=0 then aKv l n else se0
abbrev stR (l:List Se) (n:Int) (u:ByteArray) (t:Int):bS:=if fR l n u=0 then dK (aKv l n) t else st0
theorem aSy (n st t:Int):∀ l:List Se,(aNr l n st t).length=l.length
  | []=>rfl
  | e::l=>by rw[aNr]; split <;> simp [aSy n st t l]
theorem aSx (n:Int):∀ l:List Se,(aK1 l n).length≤l.length
  | []=>Nat.le_refl _
  | e::l=>by
    rw[aK1]; split
    · simp
    · have:=aSx n l; simp only[List.length_cons]; omega
theorem aF6 (l:List Se) (e:Se):(mM l e).length≤l.length+1:=by
  unfold mM; split
  · rw[aD9,aGf]; omega
  · simp
theorem aGn (l:List Se) (n:Int) (u:ByteArray) (st t:Int):(mT l n u st t).length≤l.length:=by
  unfold mT; split
  · rw[aSy]; omega
  · simp
theorem aGm (l:List Se) (n:Int) (u:ByteArray):(mE l n u).length≤l.length:=by
  unfold mE; split
  · exact aSx n l
  · simp
theorem aKt {l:List Se} {n:Int} {u:ByteArray} {k:Nat} (hk:k<l.length) (h1:isN n l[k]=true) (h2:l[k].1.2=u) (h3:∀ (j:Nat) (hj:j<l.length),j<k→isN n l[j]=false):fR l n u=0∧aKv l n=l[k]∧l[k].1=(n,u):=by
  obtain ⟨e1,e2,e3,_⟩:=mW n u 0 0 l k hk h3 h1
  simp only[isN,decide_eq_true_eq] at h1
  exact⟨by rw[e3,if_pos h2],e2,Prod.ext h1 h2⟩
end Go.Abs
set_option linter.unusedVariables false
set_option linter.unusedSimpArgs false
namespace Go.Proofs.YtckjaledibkghaaGreat
open Go Go.Abs
theorem qY {g:Nat} {cap:List AV} (hent:∀ args w,(callFunc g args).run Tryz.prog w=.ok (.enter g args) w) (hcl:cleanL (fun _=>false) cap=true) (p:Se→Bool) (l:List Se) (hl:l.length≤9223372036854775807) (hp:∀ x∈l,Den Tryz.prog g (.agg (seC x)::cap) (·=.s (.bool (p x)))) :Den Tryz.prog 122 [.sl 4 (l.map seC),.fn g cap]  (·=.s (.int .i64 (oD p l))):=by
 refine aS Tryz.func122 rfl (Nat.le_of_ble_eq_true rfl) (fun w0 A hf=>(aC (fun K1 hK1=>(aB (aE aA 1 rfl (aD (hK1 _ (aC (fun K2 hK2=>(aC (fun K3 hK3=>(aB (aE aA 3 rfl (aD (hK3 _ (aQ ?_))))))))))))))))
 refine bR (ι:=Nat) (fun k=>⟨19,[(0,.sl 4 (l.map seC)),(1,.fn g cap),(7,.s (.int .i64 ((l.map seC).length:Nat))),(8,.s (.int .i64 (k:Nat)))],[]⟩) (fun k=>k≤l.length∧∀ (j:Nat) (hj:j<l.length),j<k→p l[j]=false) (fun k=>l.length - k) 0 ?_ ?_ ?_
 · exact⟨by omega,by omega⟩
 · exact cN rfl
 ·
  rintro k hC
  obtain ⟨h1,h2⟩:=hC
  refine aC (fun K4 hK4=>(aB (aE aA 1 rfl (aD (hK4 _ (aC (fun K5 hK5=>(aL rfl (fun hc1=>?_) (fun hc1=>?_)))))))))
  ·
   simp only[bs] at hc1
   refine aM (hK5 _ (aC (fun K6 hK6=>(aQ (aC (fun K7 hK7=>(aB (aE aA 2 rfl (aD (hK7 _ (aC (fun K8 hK8=>(aB (aE aA 3 rfl ?_))))))))))))))
   refine aG rfl (aY rfl rfl eD cY (by first | exact ixm (by omega) | assumption | exact⟨by decide,rfl⟩)) ?_
   refine aE aA 1 rfl (aJ hf rfl (aK rfl rfl hent (by rw[iG,hcl]; rfl) (hp _ (List.getElem_mem _))) ?_)
   refine aD (hK8 _ (aL rfl (fun hc2=>?_) (fun hc2=>?_)))
   ·
    refine aC (fun K9 hK9=>(aB (aE aA 2 rfl (aD (hK9 _ (aI ?_))))))
    refine⟨_,rfl,?_⟩
    refine eQ ?_
    rw[kH (by omega) h2 (by assumption)]
   ·
    refine aM (hK6 _ (aB ?_))
    refine aG rfl (bN rfl rfl (by omega) (by omega)) ?_
    refine aE aA 1 rfl (aD ?_)
    exact⟨k+1,⟨by omega,fun j hj hjk=>by
      by_cases e:j=k
      · subst e; simp_all
      · exact h2 j hj (by omega)⟩,by omega,cN rfl⟩
  ·
   simp only[bs] at hc1
   refine bB (hK2 _ (aC (fun K10 hK10=>(aB (aE aA 1 rfl (aD (hK10 _ (aI ?_))))))))
   refine⟨_,rfl,?_⟩
   refine eQ ?_
   rw[oZ (fun j hj=>h2 j hj (by omega))]
theorem aDu {g:Nat} {cap:List AV} (hent:∀ args w,(callFunc g args).run Tryz.prog w=.ok (.enter g args) w) (hcl:cleanL (fun _=>false) cap=true) (hcv:∀ m,convL m cap=cap) (p:Se→Bool) (l:List Se) (n:Nat) (hn:n=l.length) (hl:l.length≤9223372036854775807) (hp:∀ x∈l,Den Tryz.prog g (.agg (seC x)::cap) (·=.s (.bool (p x)))) :DenM Tryz.prog 152 [.own E0 4 0 n,.fn g cap] 4 ((l.map seC)) (fun r ys=>r=.own E0 4 0 (l.filter fun x=>!p x).length∧ys=((l.filter fun x=>!p x).map seC)):=by
 subst hn
 have hq0:∀ j,((l.take j).filter fun x=>!p x).length≤j:=fun j=>jT _ l j
 have hq1:∀ j,((l.take j).filter fun x=>!p x).length≤l.length:=fun j=>iU _ l j
 refine iL Tryz.func152 rfl (Nat.le_of_ble_eq_true rfl) (fun w0 x0 A hf=>?_)
 refine aC (fun K1 hK1=>(aB (aG rfl (bQ) (aD (hK1 _ (aC (fun K2 hK2=>(aB (aE aA 2 rfl (aJ hf rfl (uL rfl rfl (by show [AV.conv _ _,AV.fn g (convL _ cap)]=_; rw[hcv,bX (g:=E0) rfl (by simp)]) xD (qY hent hcl p l hl hp) rfl) ?_))))))))))
 refine aE aA 1 rfl (aD (hK2 _ (aC (fun K3 hK3=>(aC (fun K4 hK4=>(aB (aE aA 2 rfl (aD (hK4 _ (aL rfl (fun hc1=>?_) (fun hc1=>?_))))))))))))
 ·
  simp only[bs] at hc1
  refine aC (fun K5 hK5=>(aB (aE aA 2 rfl (aD (hK5 _ (aI ?_))))))
  have hno:oD p l=-1:=by simpa using hc1
  rcases dS p l with ⟨_,hn⟩ | ⟨k,hk,e,_⟩
  · exact⟨_,.own E0 4 0 l.length,(l.map seC),Le.refl _,rfl,rfl,by rw[iF p l hn],by rw[iF p l hn]⟩
  · exfalso; omega
 ·
  simp only[bs] at hc1
  refine aM (hK3 _ (aC (fun K6 hK6=>(aC (fun K7 hK7=>(aB ?_))))))
  rcases dS p l with ⟨e0,_⟩ | ⟨k0,hk0,ek0,hpk0,hbef⟩
  · exact absurd e0 (by simpa using hc1)
  have hst:=oN (fun x=>!p x) l k0 hk0 (fun j hj hjk=>by simp [hbef j hj hjk]) (by simp [hpk0])
  rw[ek0]
  refine aE aA 1 rfl ?_
  refine aG rfl (bN rfl rfl (by omega) (by omega)) ?_
  refine aE aA 1 rfl (aD (hK7 _ (aQ (bR (ι:=Nat) (fun j=>⟨42,[(0,.own E0 4 0 l.length),(1,.fn g cap),(5,.s (.int .i64 (((l.take j).filter fun x=>!p x).length:Nat))),(6,.s (.int .i64 (j:Nat)))],[(E0,.buf 4 ((kI (fun x=>!p x) l j).map seC))]⟩) (fun j=>j≤l.length) (fun j=>l.length - j) (k0+1) ?_ ?_ ?_))))
  · exact hk0
  · rw[hst.1,hst.2]; exact jS ⟨rfl,rfl,rfl,rfl,trivial⟩
  ·
   rintro j hC
   let q:=fun x=>!p x
   have hle:((l.take j).filter q).length≤j:=hq0 j
   have hle2:((l.take j).filter fun x=>!p x).length≤j:=hq0 j
   refine aC (fun K8 hK8=>(aC (fun K9 hK9=>(aB (aE aA 4 rfl (aD (hK9 _ (aL rfl (fun hc2=>?_) (fun hc2=>?_)))))))))
   ·
    simp only[bs] at hc2
    refine aM (hK8 _ (aC (fun K10 hK10=>(aQ (aC (fun K11 hK11=>(aB (aE aA 2 rfl ?_))))))))
    refine aG rfl (cL rfl rfl eD cY (by omega)) ?_
    refine aG rfl (bW rfl aU0 cY rfl (uO (c:=4) (k:=j) (enc:=seC) (by omega) (by rw[fG]; omega) rfl) (cs':=seC l[j]) (by rw[rM (c:=4) (k:=j) (enc:=seC) (by omega) (by rw[fG]; omega) rfl,tV q l j j (by omega) hle])) ?_
    refine bV hf rfl nW rfl cY rfl rfl rfl rfl (lf rfl) (aD (hK11 _ (aC (fun K12 hK12=>(aB (aE aA 2 rfl (aJ hf rfl (aK rfl rfl hent (by rw[iG,hcl]; rfl) (hp _ (List.getElem_mem _))) ?_)))))))
    refine aE aA 1 rfl (aD (hK12 _ (aL rfl (fun hc3=>?_) (fun hc3=>?_))))
    ·
     simp only[bs] at hc3
     refine aC (fun K13 hK13=>(aB (aE aA 3 rfl ?_)))
     refine aG rfl (cL rfl rfl eD cY (by omega)) ?_
     refine aU hf rfl rfl cY rfl rfl (by simp [seC,AV.cells,AV.one,Value.oneCell',splice]) (by simp [seC,AV.cells,AV.leaf,Value.oneCell',splice]) (iT (c:=4) (k:=((l.take j).filter fun x=>!p x).length) (enc:=seC) (v:=l[j]) (by omega) (by rw[fG]; omega) rfl (Nat.le_refl _)) ?_
     refine aD (hK13 _ (aB ?_))
     rw[mR (fun x=>!p x) l j (by omega) (by simp_all)]
     refine aE aA 1 rfl ?_
     refine aG rfl (bN rfl rfl (by omega) (by omega)) ?_
     rw[pV (fun x=>!p x) l j (by omega) (by simp_all)]
     refine aE aA 1 rfl ?_
     refine bK ?_
     refine hK10 _ (aB (aE aA 1 rfl ?_))
     refine aG rfl (bN rfl rfl (by omega) (by omega)) ?_
     refine aE aA 1 rfl (aD ?_)
     exact⟨j+1,(by omega),by omega,cN rfl⟩
    ·
     simp only[bs] at hc3
     rw[mS (fun x=>!p x) l j (by omega) (by simp_all),pW (fun x=>!p x) l j (by omega) (by simp_all)]
     refine aM (hK10 _ (aB (aE aA 1 rfl ?_)))
     refine aG rfl (bN rfl rfl (by omega) (by omega)) ?_
     refine aE aA 1 rfl (aD ?_)
     exact⟨j+1,(by omega),by omega,cN rfl⟩
   ·
    simp only[bs] at hc2
    refine bB (hK6 _ (aC (fun K14 hK14=>(aB (aE aA 2 rfl ?_)))))
    refine aG rfl (fK rfl eD cY rfl rfl (by omega) (by omega)) ?_
    refine zY hf kY nW (by simp [Value.oneCell']) rfl rfl ?_
    refine aD (hK14 _ (aC (fun K15 hK15=>(aB (aE aA 2 rfl ?_)))))
    refine aG rfl (fK rfl eD cY rfl rfl (by omega) (by omega)) ?_
    refine aE aA 1 rfl (aD (hK15 _ (aI ?_)))
    have hjl:l.length≤j:=by omega
    have he:=rW (fun x=>!p x) l j hjl
    refine⟨_,_,_,Le.refl _,rfl,rfl,?_,?_⟩
    · rw[List.take_of_length_le hjl]; rfl
    · rw[List.take_of_length_le hjl,Nat.zero_add,Int.toNat_natCast,← List.map_take,he]
theorem jG (l:List Se) (hl:l.length*40≤140737488355328) :DenO Tryz.prog 113 [.sl 4 (l.map seC)] 4 (·=(l.map seC)):=by
 refine gO Tryz.func113 rfl (Nat.le_of_ble_eq_true rfl) (fun w0 A hf=>?_)
 refine aC (fun K1 hK1=>(aB (aG rfl (bQ) (aD (hK1 _ (aC (fun K2 hK2=>(aC (fun K3 hK3=>(aB (aE aA 1 rfl ?_)))))))))))
 refine qX rfl rfl rfl eD (fun b hb1=>?_)
 refine aD (hK3 _ (aL rfl (fun hc2=>?_) (fun hc2=>?_)))
 ·
  have hl0:l=[]:=by simpa using hb1 (by assumption)
  refine aC (fun K4 hK4=>(aB (lD hf 4 rfl rfl rfl (aD (hK4 _ (aI ?_))))))
  exact⟨2,[],by decide,rfl,rfl,by rw[hl0]; rfl⟩
 ·
  refine aM (hK2 _ (aC (fun K5 hK5=>(aB (fU hf rfl rfl rfl kY rfl rfl rfl rfl (l2 rfl) ?_)))))
  refine aE aA 1 rfl (cA hf rfl kY rfl rfl rfl (.inl rfl) rfl rfl (by first | rfl | simp [eV,bU]) (by first | (simp only[maxLen,List.length_map,List.length_append,List.length_cons,List.length_nil]; omega) | (simp [maxLen] <;> omega)) (by first | (simp only[List.length_map,List.length_append,List.length_cons,List.length_nil]; omega) | (simp <;> omega)) ?_)
  refine bO (eR [7] rfl) (aE aA 1 rfl (aD (hK5 _ (aI ?_))))
  refine⟨5,(l.map seC),by decide,rfl,?_,rfl⟩
  show some (AV.own 5 4 0 (0+(l.map seC).length))=_
  rw[Nat.zero_add]
theorem aS3 (n:Nat) (hn:n*40≤140737488355328) :DenO Tryz.prog 178 [.s (.slice none 0 0),.s (.int .i64 (n:Nat))] 4 (·=[]):=by
 refine gO Tryz.func178 rfl (Nat.le_of_ble_eq_true rfl) (fun w0 A hf=>?_)
 refine aC (fun K1 hK1=>(aB (aG rfl (bQ) (aD (hK1 _ (aC (fun K2 hK2=>(aC (fun K3 hK3=>(aB (aE aA 2 rfl (aD (hK3 _ (aL rfl (fun hc1=>?_) (fun hc1=>?_)))))))))))))))
 ·
  simp only[bs] at hc1
  omega
 ·
  simp only[bs] at hc1
  refine aM (hK2 _ (aC (fun K4 hK4=>(aC (fun K5 hK5=>(aB (aE aA 2 rfl (aG rfl (nM rfl eD) (aE aA 2 rfl ?_)))))))))
  refine aG rfl (fB rfl rfl (by omega) (by omega)) ?_
  refine aG rfl (fB rfl rfl (by omega) (by omega)) ?_
  refine aE aA 1 rfl (aD (hK5 _ (aC (fun K6 hK6=>(aB (aE aA 2 rfl (aD (hK6 _ (aL rfl (fun hc2=>?_) (fun hc2=>?_))))))))))
  ·
   simp only[bs] at hc2
   refine aB (aE aA 2 rfl (aG rfl (nM rfl eD) ?_))
   refine aG rfl (sJ rfl eD cY rfl) ?_
   refine aE aA 1 rfl (xG hf rfl rfl rfl kY Tryz.underlying3 rfl rfl (by omega) (by omega) (by simp only[maxLen]; omega) ?_)
   refine aE aA 2 rfl ?_
   refine aG rfl (fK rfl eD cY rfl rfl (by omega) (by omega)) ?_
   refine aE aA 1 rfl (aD (hK4 _ (aC (fun K7 hK7=>(aB (aE aA 1 rfl ?_))))))
   refine aG rfl (wD rfl) ?_
   refine aD (hK7 _ (aI ?_))
   exact⟨22,[],by decide,rfl,rfl,rfl⟩
  ·
   simp only[bs] at hc2
   refine aM (hK4 _ (aC (fun K8 hK8=>(aB (aE aA 1 rfl ?_)))))
   refine aJs hf 4 rfl rfl rfl rfl ?_
   refine aD (hK8 _ (aI ?_))
   exact⟨4,[],by decide,rfl,rfl,rfl⟩
theorem vJ (rows:List (List Se)) (hl:rows.length≤9223372036854775807) (hb:rows.flatten.length*40≤140737488355328) :DenO Tryz.prog 134 [.sl 1 (rows.map fun r=>[AV.sl 4 (r.map seC)])] 4 (·=(rows.flatten.map seC)):=by
 refine gO Tryz.func134 rfl (Nat.le_of_ble_eq_true rfl) (fun w0 A hf=>?_)
 refine aC (fun K1 hK1=>(aB (aG rfl (bQ) (aD (hK1 _ (aC (fun K2 hK2=>(aB (aE aA 1 rfl (aD (hK2 _ (aC (fun K3 hK3=>(aC (fun K4 hK4=>(aB ?_))))))))))))))))
 refine aE aA 3 rfl (aD (hK4 _ (aQ (bR (ι:=Nat) (fun k=>⟨36,[(0,.sl 1 (rows.map fun r=>[AV.sl 4 (r.map seC)])),(3,.s (.int .i64 ((rows.take k).flatten.length:Nat))),(9,.sl 1 (rows.map fun r=>[AV.sl 4 (r.map seC)])),(10,.s (.int .i64 ((rows.map fun r=>[AV.sl 4 (r.map seC)]).length:Nat))),(11,.s (.int .i64 (k:Nat)))],[]⟩) (fun k=>k≤rows.length) (fun k=>rows.length - k) 0 ?_ ?_ ?_))))
 · exact Nat.zero_le _
 · exact cN rfl
 ·
  rintro k hC
  refine aC (fun K5 hK5=>(aB (aE aA 1 rfl (aD (hK5 _ (aC (fun K6 hK6=>(aL rfl (fun hc1=>?_) (fun hc1=>?_)))))))))
  ·
   simp only[bs] at hc1
   refine aM (hK6 _ (aC (fun K7 hK7=>(aQ (aC (fun K8 hK8=>(aB ?_)))))))
   refine aG rfl (aY rfl rfl aJo jZ (by first | exact ixm (by omega) | assumption | exact⟨by decide,rfl⟩)) ?_
   refine aE aA 2 rfl (aD (hK8 _ (aC (fun K9 hK9=>(aB ?_)))))
   have hk:k<rows.length:=by omega
   have e1:=congrArg List.length (iR rows k hk)
   rw[List.length_append] at e1
   have e2:=sN rows (k+1)
   have e3:(rows[k].map seC).length=rows[k].length:=List.length_map _
   refine aE aA 3 rfl ?_
   refine aG rfl (bN rfl rfl (by omega) (by omega)) ?_
   rw[show ((((rows.take k).flatten.length:Nat):Int)+(((rows[k].map seC).length:Nat):Int))=(((rows.take (k+1)).flatten.length:Nat):Int) from by omega]
   refine aE aA 1 rfl (aD (hK9 _ (aC (fun K10 hK10=>(aB (aE aA 2 rfl (aD (hK10 _ (aL rfl (fun hc2=>?_) (fun hc2=>?_))))))))))
   ·
    simp only[bs] at hc2
    omega
   ·
    simp only[bs] at hc2
    refine aM (hK7 _ (aB ?_))
    refine aG rfl (bN rfl rfl (by omega) (by omega)) ?_
    refine aE aA 1 rfl (aD ?_)
    exact⟨k+1,(by omega),by omega,cN rfl⟩
  ·
   simp only[bs] at hc1
   refine bB (hK3 _ (aC (fun K11 hK11=>(aB ?_))))
   rw[List.take_of_length_le (show rows.length≤k by omega)]
   refine aE aA 1 rfl (iO hf rfl rfl rfl rfl rfl aOl rfl (aS3 rows.flatten.length (by omega)) ?_)
   rintro _ rfl
   refine aE aA 1 rfl (aD (hK11 _ (aC (fun K12 hK12=>(aC (fun K13 hK13=>(aB (aE aA 3 rfl (aD (hK13 _ (aQ (bR (ι:=Nat) (fun j=>⟨36,[(6,.own 24 4 0 (rows.take j).flatten.length),(25,.sl 1 (rows.map fun r=>[AV.sl 4 (r.map seC)])),(26,.s (.int .i64 ((rows.map fun r=>[AV.sl 4 (r.map seC)]).length:Nat))),(27,.s (.int .i64 (j:Nat)))],[(24,.buf 4 ((rows.take j).flatten.map seC))]⟩) (fun j=>j≤rows.length) (fun j=>rows.length - j) 0 ?_ ?_ ?_))))))))))))
   · exact Nat.zero_le _
   · exact cN rfl
   ·
    rintro j hC
    refine aC (fun K14 hK14=>(aB (aE aA 1 rfl (aD (hK14 _ (aC (fun K15 hK15=>(aL rfl (fun hc3=>?_) (fun hc3=>?_)))))))))
    ·
     simp only[bs] at hc3
     refine aM (hK15 _ (aC (fun K16 hK16=>(aQ (aC (fun K17 hK17=>(aB ?_)))))))
     refine aG rfl (aY rfl rfl aJo jZ (by first | exact ixm (by omega) | assumption | exact⟨by decide,rfl⟩)) ?_
     refine aE aA 2 rfl (aD (hK17 _ (aB ?_)))
     have hj:j<rows.length:=by omega
     have e1:=congrArg List.length (iR rows j hj)
     rw[List.length_append] at e1
     have e2:=sN rows (j+1)
     have e3:(rows[j].map seC).length=rows[j].length:=List.length_map _
     refine aE aA 2 rfl (cA hf rfl kY rfl rfl rfl (.inl rfl) (by simp only[List.length_map]) rfl (by first | rfl | simp [eV,bU]) (by first | (simp only[maxLen,List.length_map,List.length_append,List.length_cons,List.length_nil]; omega) | (simp [maxLen] <;> omega)) (by first | (simp only[List.length_map,List.length_append,List.length_cons,List.length_nil]; omega) | (simp <;> omega)) ?_)
     refine bO (eR [25,26,27,33] rfl) ?_
     rw[show (rows.take j).flatten.length+(rows[j].map seC).length=(rows.take (j+1)).flatten.length from by omega,← List.map_append,← iR rows j hj]
     refine aE aA 1 rfl ?_
     refine bK ?_
     refine hK16 _ (aB ?_)
     refine aG rfl (bN rfl rfl (by omega) (by omega)) ?_
     refine aE aA 1 rfl (aD ?_)
     exact⟨j+1,(by omega),by omega,cN rfl⟩
    ·
     simp only[bs] at hc3
     refine bB (hK12 _ (aC (fun K18 hK18=>(aB (aE aA 2 rfl (aD (hK18 _ (aI ?_))))))))
     refine⟨24,(rows.flatten.map seC),by decide,?_,?_,rfl⟩
     · rw[List.take_of_length_le (show rows.length≤j by omega)]; rfl
     · rw[List.take_of_length_le (show rows.length≤j by omega)]
       show some (AV.own 24 4 0 rows.flatten.length)=_
       rw[List.length_map]
theorem aPv (a b:List Se) (ha:a.length≤9223372036854775807) (hb:b.length≤9223372036854775807) :Den Tryz.prog 142 [.sl 4 (a.map seC),.sl 4 (b.map seC)]  (·=.s (.bool (decide (a=b)))):=by
 refine aS Tryz.func142 rfl (Nat.le_of_ble_eq_true rfl) (fun w0 A hf=>(aC (fun K1 hK1=>(aB (aE aA 1 rfl (aD (hK1 _ (aC (fun K2 hK2=>(aC (fun K3 hK3=>(aB (aE aA 5 rfl (aD (hK3 _ (aL rfl (fun hc1=>?_) (fun hc1=>?_)))))))))))))))))
 ·
  simp only[bs] at hc1
  refine aC (fun K4 hK4=>(aB (aE aA 1 rfl (aD (hK4 _ (aI ?_))))))
  refine⟨_,rfl,?_⟩
  refine aP ?_
  rw[nP (by omega)]
 ·
  simp only[bs] at hc1
  refine aM (hK2 _ (aC (fun K5 hK5=>(aC (fun K6 hK6=>(aB (aE aA 3 rfl (aD (hK6 _ (aQ (bR (ι:=Nat) (fun k=>⟨26,[(0,.sl 4 (a.map seC)),(1,.sl 4 (b.map seC)),(12,.s (.int .i64 ((a.map seC).length:Nat))),(13,.s (.int .i64 (k:Nat)))],[]⟩) (fun k=>k≤a.length∧a.take k=b.take k) (fun k=>a.length - k) 0 ?_ ?_ ?_)))))))))))
  · exact⟨Nat.zero_le _,rfl⟩
  · exact cN rfl
  ·
   rintro k hC
   obtain ⟨h1,h2⟩:=hC
   refine aC (fun K7 hK7=>(aB (aE aA 1 rfl (aD (hK7 _ (aC (fun K8 hK8=>(aL rfl (fun hc2=>?_) (fun hc2=>?_)))))))))
   ·
    simp only[bs] at hc2
    refine aM (hK8 _ (aC (fun K9 hK9=>(aQ (aC (fun K10 hK10=>(aB (aE aA 2 rfl (aD (hK10 _ (aC (fun K11 hK11=>(cM hf bE (by kernel_rfl) rfl (aT aA 2 rfl ?_))))))))))))))
    refine bL [(16,_),(17,_)] rfl rfl ⟨⟨rfl,rfl⟩,⟨rfl,rfl⟩,trivial⟩ rfl (aY rfl rfl eD cY (by first | exact ixm (by omega) | assumption | exact⟨by decide,rfl⟩)) ?_
    refine aT aA 3 rfl ?_
    refine bL [(20,_),(21,_)] rfl rfl ⟨⟨rfl,rfl⟩,⟨rfl,rfl⟩,trivial⟩ rfl (aY rfl rfl eD cY (by first | exact ixm (by omega) | assumption | exact⟨by decide,rfl⟩)) ?_
    refine aT aA 1 rfl (bL [(19,_),(23,_)] rfl rfl ⟨⟨rfl,rfl⟩,⟨rfl,rfl⟩,trivial⟩ rfl (sK rfl rfl aUx rfl) ?_)
    rw[aVd]
    refine cP [0,1,12,13,24] rfl rfl rfl (hK11 _ (aL rfl (fun hc3=>?_) (fun hc3=>?_)))
    ·
     simp only[bs] at hc3
     refine aC (fun K12 hK12=>(aB (aE aA 1 rfl (aD (hK12 _ (aI ?_))))))
     refine⟨_,rfl,?_⟩
     refine aP ?_
     rw[lM (by omega) (by omega) (by assumption)]
    ·
     simp only[bs] at hc3
     refine aM (hK9 _ (aB ?_))
     refine aG rfl (bN rfl rfl (by omega) (by omega)) ?_
     refine aE aA 1 rfl (aD ?_)
     exact⟨k+1,⟨by omega,jI (by omega) (by omega) h2 (by assumption)⟩,by omega,cN rfl⟩
   ·
    simp only[bs] at hc2
    refine bB (hK5 _ (aC (fun K13 hK13=>(aB (aE aA 1 rfl (aD (hK13 _ (aI ?_))))))))
    refine⟨_,rfl,?_⟩
    refine aP ?_
    rw[kV (by omega) (by omega) h2]
theorem yU (e:Se) (t:Int) :Den Tryz.prog 135 [.agg (seC e),.s (.int .i64 t)]  (·=.agg (stC (dK e t))):=by
 refine aS Tryz.func135 rfl (Nat.le_of_ble_eq_true rfl) (fun w0 A hf=>(aC (fun K1 hK1=>(aB (aJ hf rfl (cI rfl rfl (lf rfl)) (aX hf rfl rfl rfl eU (aD (hK1 _ (aC (fun K2 hK2=>(aB (aE aA 3 rfl (aG rfl (cB rfl aBc xW (l3 rfl) rfl) (aE aA 4 rfl (aG rfl (cB rfl eU xV (l3 rfl) rfl) ?_)))))))))))))))
 refine aU hf rfl rfl bH rfl rfl (l1 rfl) (l4 rfl) rfl (aD (hK2 _ (aI ?_)))
 refine⟨_,rfl,?_⟩
 rfl
theorem tA (e:Se) (t:Int) :Den Tryz.prog 148 [.agg (seC e),.s (.int .i64 t)]  (·=.agg (stC (dK e t))):=by
 refine aS Tryz.func148 rfl (Nat.le_of_ble_eq_true rfl) (fun w0 A hf=>(aC (fun K1 hK1=>(aB (aJ hf rfl (cI rfl rfl (lf rfl)) (aX hf rfl rfl rfl iJ (aD (hK1 _ (aC (fun K2 hK2=>(aB (aE aA 7 rfl (aG rfl (cB rfl iJ rZ (l3 rfl) rfl) (aU hf rfl rfl dV rfl rfl (l1 rfl) (l4 rfl) rfl (aD ?_)))))))))))))))
 refine hK2 _ (aI ?_)
 refine⟨_,rfl,?_⟩
 rfl
theorem aTt (x e:Se) :Den Tryz.prog 160 [.agg (seC x),.adr (seC e)]  (·=.s (.bool (jV e.1.1 x))):=by
 refine aS Tryz.func160 rfl (Nat.le_of_ble_eq_true rfl) (fun w0 A hf=>(aC (fun K1 hK1=>(aB (aJ hf rfl (cI rfl rfl (lf rfl)) (aE aA 1 rfl (aD (hK1 _ (aC (fun K2 hK2=>(aB (aE aA 6 rfl (aD (hK2 _ (aI ?_)))))))))))))))
 refine⟨_,rfl,?_⟩
 rfl
theorem aDv (e:Se) (u:ByteArray) :Den Tryz.prog 153 [.agg (seC e),.adr [.s (.string u)]]  (·=.s (.bool (jK u e))):=by
 refine aS Tryz.func153 rfl (Nat.le_of_ble_eq_true rfl) (fun w0 A hf=>(aC (fun K1 hK1=>(aB (aJ hf rfl (cI rfl rfl (lf rfl)) (aE aA 1 rfl (aD (hK1 _ (aC (fun K2 hK2=>(aB (aE aA 5 rfl (aD (hK2 _ (aI ?_)))))))))))))))
 refine⟨_,rfl,?_⟩
 refine aP ?_
 unfold jK
 rw[Bool.eq_iff_iff]
 simp_all[toList_inj]
theorem yR (n a b:Int) :Den Tryz.prog 126 [.s (.int .i64 n),.s (.int .i64 a),.s (.int .i64 b)]  (·=.s (.bool (decide (a≤n)&&decide (n≤b)))):=by
 refine aS Tryz.func126 rfl (Nat.le_of_ble_eq_true rfl) (fun w0 A hf=>(aC (fun K1 hK1=>(aB (aE aA 1 rfl (aD (hK1 _ (aC (fun K2 hK2=>(aB (aE aA 4 rfl (aW rfl rfl rfl (fun hg1=>?_) (fun hg1=>?_)))))))))))))
 ·
  simp only[bs] at hg1
  refine aG rfl (gJ rfl) (aE aA 4 rfl (aD (hK2 _ (aI ?_))))
  refine⟨_,rfl,?_⟩
  refine aP ?_
  rw[Bool.eq_iff_iff]
  simp only[Bool.and_eq_true,decide_eq_true_eq,true_iff,Bool.false_eq_true,false_iff]
  omega
 ·
  simp only[bs] at hg1
  refine aE aA 4 rfl (aD (hK2 _ (aI ?_)))
  refine⟨_,rfl,?_⟩
  refine aP ?_
  rw[Bool.eq_iff_iff]
  simp only[Bool.and_eq_true,decide_eq_true_eq,true_iff,Bool.false_eq_true,false_iff]
  omega
theorem aGr (l:List Se) (n:Int) (u:ByteArray) (hl:l.length≤9223372036854775807) :Den Tryz.prog 133 [.sl 4 (l.map seC),.s (.int .i64 n),.s (.string u)]  (·=.tup [.s (.int .i64 (atK l n:Nat)),.s (.int .i64 (fR l n u))]):=by
 refine aS Tryz.func133 rfl (Nat.le_of_ble_eq_true rfl) (fun w0 A hf=>(aC (fun K1 hK1=>(aB (aE aA 2 rfl (aD (hK1 _ (aV5 (aC (fun K2 hK2=>(aV7 (hK2 _ (aC (fun K3 hK3=>(aC (fun K4 hK4=>(aB ?_)))))))))))))))))
 refine aE aA 3 rfl (aD (hK4 _ (aQ (bR (ι:=Nat) (fun k=>⟨32,[(0,.sl 4 (l.map seC)),(1,.s (.int .i64 n)),(2,.s (.string u)),(10,.sl 4 (l.map seC)),(11,.s (.int .i64 ((l.map seC).length:Nat))),(12,.s (.int .i64 (k:Nat)))],[]⟩) (fun k=>k≤l.length∧∀ (j:Nat) (hj:j<l.length),j<k→isN n l[j]=false) (fun k=>l.length - k) 0 ?_ ?_ ?_))))
 · exact⟨Nat.zero_le _,by omega⟩
 · exact cN rfl
 ·
  rintro k hC
  obtain ⟨h1,h2⟩:=hC
  refine aC (fun K5 hK5=>(aB (aE aA 1 rfl (aD (hK5 _ (aC (fun K6 hK6=>(aL rfl (fun hc1=>?_) (fun hc1=>?_)))))))))
  ·
   simp only[bs] at hc1
   refine aM (hK6 _ (aC (fun K7 hK7=>(aQ (aC (fun K8 hK8=>(aB (aE aA 1 rfl ?_))))))))
   refine aG rfl (aY rfl rfl eD cY (by first | exact ixm (by omega) | assumption | exact⟨by decide,rfl⟩)) ?_
   refine aE aA 1 rfl (aX hf rfl rfl rfl nW (aE aA 1 rfl (aU hf rfl rfl cY rfl rfl (l1 rfl) (l4 rfl) rfl (bO (mB (nee 9) (sl':=[(0,_),(1,_),(2,_),(8,_),(9,_),(10,_),(11,_),(12,_)]) (m':=[]) ⟨⟨_,rfl,rfl⟩,⟨_,rfl,rfl⟩,⟨_,rfl,rfl⟩,⟨_,rfl,rfl⟩,⟨_,rfl,rfl⟩,⟨_,rfl,rfl⟩,⟨_,rfl,rfl⟩,⟨_,rfl,rfl⟩,trivial⟩ rfl) (aD (hK8 _ (aC (fun K9 hK9=>(aQ (aC (fun K10 hK10=>(aB (aE aA 5 rfl (aD ?_))))))))))))))
   refine hK10 _ (aL rfl (fun hc2=>?_) (fun hc2=>?_))
   ·
    simp only[bs] at hc2
    refine bB (hK7 _ (aB ?_))
    refine aG rfl (bN rfl rfl (by omega) (by omega)) ?_
    refine aE aA 1 rfl (aD ?_)
    exact⟨k+1,⟨by omega,fun j hj hjk=>by
     by_cases e:j=k
     · subst e; simp_all[isN]
     · exact h2 j hj (by omega)⟩,by omega,cN rfl⟩
   ·
    simp only[bs] at hc2
    obtain ⟨e1,_,e3,_⟩:=mW n u 0 0 l k (by omega) h2 (by simp_all[isN])
    refine aC (fun K11 hK11=>(aB (aE aA 5 rfl (aD (hK11 _ (aL rfl (fun hc3=>?_) (fun hc3=>?_)))))))
    ·
     simp only[bs] at hc3
     refine aC (fun K12 hK12=>(aB (aE aA 3 rfl (aD (hK12 _ (aI ?_))))))
     refine⟨_,rfl,?_⟩
     rw[e1,e3,if_neg (by simp_all[toList_inj])]; rfl
    ·
     simp only[bs] at hc3
     refine aM (hK9 _ (aC (fun K13 hK13=>(aB (aE aA 3 rfl (aD (hK13 _ (aI ?_))))))))
     refine⟨_,rfl,?_⟩
     rw[e1,e3,if_pos (by simp_all[toList_inj])]; rfl
  ·
   simp only[bs] at hc1
   refine bB (hK3 _ (aC (fun K14 hK14=>(aB (aE aA 4 rfl (aD (hK14 _ (aI ?_))))))))
   refine⟨_,rfl,?_⟩
   obtain ⟨e1,e2,_⟩:=aA8 n u l (fun j hj=>h2 j hj (by omega))
   rw[e1,e2,List.length_map]; rfl
theorem sI (l:List Se) (n:Int) (hl:l.length≤9223372036854775807) :Den Tryz.prog 171 [.sl 4 (l.map seC),.s (.int .i64 n)]  (·=.s (.int .i64 (oD (isN n) l))):=by
 refine aS Tryz.func171 rfl (Nat.le_of_ble_eq_true rfl) (fun w0 A hf=>(aC (fun K1 hK1=>(aB (aE aA 1 rfl (aD (hK1 _ (aC (fun K2 hK2=>(aC (fun K3 hK3=>(aB (aE aA 1 rfl (aD (hK3 _ (aQ ?_))))))))))))))))
 refine bR (ι:=Nat) (fun k=>⟨20,[(0,.sl 4 (l.map seC)),(1,.s (.int .i64 n)),(5,.s (.int .i64 (k:Nat)))],[]⟩) (fun k=>k≤l.length∧∀ (j:Nat) (hj:j<l.length),j<k→isN n l[j]=false) (fun k=>l.length - k) 0 ?_ ?_ ?_
 · exact⟨Nat.zero_le _,by omega⟩
 · exact cN rfl
 ·
  rintro k hC
  obtain ⟨h1,h2⟩:=hC
  refine aC (fun K4 hK4=>(aC (fun K5 hK5=>(aB (aE aA 4 rfl (aD (hK5 _ (aL rfl (fun hc1=>?_) (fun hc1=>?_)))))))))
  ·
   simp only[bs] at hc1
   refine aM (hK4 _ (aC (fun K6 hK6=>(aQ (aC (fun K7 hK7=>(aB (aE aA 2 rfl ?_))))))))
   refine aG rfl (aY rfl rfl eJ dH (by first | exact ixm (by omega) | assumption | exact⟨by decide,rfl⟩)) ?_
   refine aE aA 4 rfl (aD (hK7 _ (aL rfl (fun hc2=>?_) (fun hc2=>?_))))
   ·
    simp only[bs] at hc2
    refine aC (fun K8 hK8=>(aB (aE aA 2 rfl (aD (hK8 _ (aI ?_))))))
    refine⟨_,rfl,?_⟩
    refine eQ ?_
    rw[kH (by omega) h2 (by simp_all[isN])]
   ·
    simp only[bs] at hc2
    refine aM (hK6 _ (aB (aE aA 1 rfl ?_)))
    refine aG rfl (bN rfl rfl (by omega) (by omega)) ?_
    refine aE aA 1 rfl (aD ?_)
    exact⟨k+1,⟨by omega,fun j hj hjk=>by
     by_cases e:j=k
     · subst e; simp_all[isN]
     · exact h2 j hj (by omega)⟩,by omega,cN rfl⟩
  ·
   simp only[bs] at hc1
   refine bB (hK2 _ (aC (fun K9 hK9=>(aB (aE aA 1 rfl (aD (hK9 _ (aI ?_))))))))
   refine⟨_,rfl,?_⟩
   refine eQ ?_
   rw[oZ (fun j hj=>h2 j hj (by omega))]
end Go.Proofs.YtckjaledibkghaaGreat
set_option linter.unusedVariables false
set_option linter.unusedSimpArgs false
namespace Go.Proofs.YtckjaledibkghaaGreat
open Go Go.Abs
end Go.Proofs.YtckjaledibkghaaGreat
set_option linter.unusedVariables false
set_option linter.unusedSimpArgs false
namespace Go.Proofs.YtckjaledibkghaaGreat
open Go Go.Abs
end Go.Proofs.YtckjaledibkghaaGreat
set_option linter.unusedVariables false
set_option linter.unusedSimpArgs false
namespace Go.Proofs.YtckjaledibkghaaGreat
open Go Go.Abs
end Go.Proofs.YtckjaledibkghaaGreat
set_option linter.unusedVariables false
set_option linter.unusedSimpArgs false
namespace Go.Proofs.YtckjaledibkghaaGreat.Nm
open Go Go.Abs
theorem pairRight_den (a b:ByteArray) (h1:TS a) (h2:TS b) :Den Tryz.prog 129 [.agg [.s (.string a),.s (.string b)]]  (·=.s (.bool (cT a&&cT b))):=by
 refine aS Tryz.func129 rfl (Nat.le_of_ble_eq_true rfl) (fun w0 A hf=>(aC (fun K1 hK1=>(aB (aJ hf rfl (cI rfl rfl (lf rfl)) (aE aA 1 rfl (aD (hK1 _ (aC (fun K2 hK2=>(aB (aE aA 4 rfl (aJ hf rfl (bD kM rfl rfl rfl rfl (l2 rfl)) (aJ hf rfl (aK rfl rfl jD rfl (all_den [a,b] ⟨by simp,by simp [h1,h2]⟩)) ?_))))))))))))))
 refine aE aA 1 rfl (aD (hK2 _ (aI ?_)))
 refine⟨_,rfl,?_⟩
 refine aP ?_
 simp
theorem pairCmp_den (a b c d:ByteArray) :Den Tryz.prog 177 [.agg [.s (.string a),.s (.string b)],.agg [.s (.string c),.s (.string d)]]  (·=.s (.int .i64 (xQ a b c d))):=by
 refine aS Tryz.func177 rfl (Nat.le_of_ble_eq_true rfl) (fun w0 A hf=>(aC (fun K1 hK1=>(aB (aJ hf rfl (cI rfl rfl (lf rfl)) (aJ hf rfl (cI rfl rfl (lf rfl)) (aE aA 1 rfl (aD (hK1 _ (aC (fun K2 hK2=>(cM hf bE (by kernel_rfl) rfl (aT aA 4 rfl (aZ [(6,_),(8,_)] rfl rfl ⟨⟨rfl,rfl⟩,⟨rfl,rfl⟩,trivial⟩ rfl (aK rfl rfl nY rfl (cmp_den _ _)) (aT aA 4 rfl ?_)))))))))))))))
 refine aZ [(11,_),(13,_)] rfl rfl ⟨⟨rfl,rfl⟩,⟨rfl,rfl⟩,trivial⟩ rfl (aK rfl rfl nY rfl (cmp_den _ _)) (aZ [(9,_),(14,_)] rfl rfl ⟨⟨rfl,rfl⟩,⟨rfl,rfl⟩,trivial⟩ rfl (bD zW rfl rfl rfl rfl (l2 rfl)) (aZ [(15,_)] rfl rfl ⟨⟨rfl,rfl⟩,trivial⟩ rfl (aK rfl rfl wW rfl (or_den [_,_] (by simp))) ?_))
 refine aT aA 1 rfl (cP [4] rfl rfl rfl (hK2 _ (aI ?_)))
 refine⟨_,rfl,?_⟩
 rfl
theorem pairHas_den (a b s:ByteArray) :Den Tryz.prog 155 [.agg [.s (.string a),.s (.string b)],.s (.string s)]  (·=.s (.bool (tM a b s))):=by
 refine aS Tryz.func155 rfl (Nat.le_of_ble_eq_true rfl) (fun w0 A hf=>(aC (fun K1 hK1=>(aB (aJ hf rfl (cI rfl rfl (lf rfl)) (aE aA 1 rfl (aD (hK1 _ (aC (fun K2 hK2=>(aB (aE aA 5 rfl (aW rfl rfl rfl (fun hg1=>?_) (fun hg1=>?_))))))))))))))
 ·
  simp only[bs,jP,kQ,List.length_cons,List.length_nil] at hg1
  refine aG rfl (bF rfl aLd cR rfl) ?_
  refine aE aA 5 rfl (aD (hK2 _ (aI ?_)))
  refine⟨_,rfl,?_⟩
  refine aP ?_
  unfold tM
  rw[Bool.eq_iff_iff]
  simp only[Bool.or_eq_true,decide_eq_true_eq,← toList_inj,beq_iff_eq,true_iff]
  simp_all
 ·
  simp only[bs,jP,kQ,List.length_cons,List.length_nil] at hg1
  refine aE aA 5 rfl (aD (hK2 _ (aI ?_)))
  refine⟨_,rfl,?_⟩
  refine aP ?_
  unfold tM
  rw[Bool.eq_iff_iff]
  simp only[Bool.or_eq_true,decide_eq_true_eq,← toList_inj,beq_iff_eq,true_iff]
  simp_all
end Go.Proofs.YtckjaledibkghaaGreat.Nm
set_option linter.unusedVariables false
set_option linter.unusedSimpArgs false
namespace Go.Proofs.YtckjaledibkghaaGreat
open Go Go.Abs
theorem oM {g:Nat} {cap:List AV} (hent:∀ args w,(callFunc g args).run Tryz.prog w=.ok (.enter g args) w) (hcl:cleanL (fun _=>false) cap=true) (p:En→Bool) (l:List En) (hl:l.length≤9223372036854775807) (hp:∀ x∈l,Den Tryz.prog g (.agg (enC x)::cap) (·=.s (.bool (p x)))) :Den Tryz.prog 131 [.sl 4 (l.map enC),.fn g cap]  (·=.s (.int .i64 (oD p l))):=by
 refine aS Tryz.func131 rfl (Nat.le_of_ble_eq_true rfl) (fun w0 A hf=>(aC (fun K1 hK1=>(aB (aE aA 1 rfl (aD (hK1 _ (aC (fun K2 hK2=>(aC (fun K3 hK3=>(aB (aE aA 3 rfl (aD (hK3 _ (aQ ?_))))))))))))))))
 refine bR (ι:=Nat) (fun k=>⟨19,[(0,.sl 4 (l.map enC)),(1,.fn g cap),(7,.s (.int .i64 ((l.map enC).length:Nat))),(8,.s (.int .i64 (k:Nat)))],[]⟩) (fun k=>k≤l.length∧∀ (j:Nat) (hj:j<l.length),j<k→p l[j]=false) (fun k=>l.length - k) 0 ?_ ?_ ?_
 · exact⟨by omega,by omega⟩
 · exact cN rfl
 ·
  rintro k hC
  obtain ⟨h1,h2⟩:=hC
  refine aC (fun K4 hK4=>(aB (aE aA 1 rfl (aD (hK4 _ (aC (fun K5 hK5=>(aL rfl (fun hc1=>?_) (fun hc1=>?_)))))))))
  ·
   simp only[bs] at hc1
   refine aM (hK5 _ (aC (fun K6 hK6=>(aQ (aC (fun K7 hK7=>(aB (aE aA 2 rfl (aD (hK7 _ (aC (fun K8 hK8=>(aB (aE aA 3 rfl ?_))))))))))))))
   refine aG rfl (aY rfl rfl eY dL (by first | exact ixm (by omega) | assumption | exact⟨by decide,rfl⟩)) ?_
   refine aE aA 1 rfl (aJ hf rfl (aK rfl rfl hent (by rw[iG,hcl]; rfl) (hp _ (List.getElem_mem _))) ?_)
   refine aD (hK8 _ (aL rfl (fun hc2=>?_) (fun hc2=>?_)))
   ·
    refine aC (fun K9 hK9=>(aB (aE aA 2 rfl (aD (hK9 _ (aI ?_))))))
    refine⟨_,rfl,?_⟩
    refine eQ ?_
    rw[kH (by omega) h2 (by assumption)]
   ·
    refine aM (hK6 _ (aB ?_))
    refine aG rfl (bN rfl rfl (by omega) (by omega)) ?_
    refine aE aA 1 rfl (aD ?_)
    exact⟨k+1,⟨by omega,fun j hj hjk=>by
      by_cases e:j=k
      · subst e; simp_all
      · exact h2 j hj (by omega)⟩,by omega,cN rfl⟩
  ·
   simp only[bs] at hc1
   refine bB (hK2 _ (aC (fun K10 hK10=>(aB (aE aA 1 rfl (aD (hK10 _ (aI ?_))))))))
   refine⟨_,rfl,?_⟩
   refine eQ ?_
   rw[oZ (fun j hj=>h2 j hj (by omega))]
theorem vF {g:Nat} {cap:List AV} (hent:∀ args w,(callFunc g args).run Tryz.prog w=.ok (.enter g args) w) (hcl:cleanL (fun _=>false) cap=true) (hcv:∀ m,convL m cap=cap) (p:En→Bool) (l:List En) (n:Nat) (hn:n=l.length) (hl:l.length≤9223372036854775807) (hp:∀ x∈l,Den Tryz.prog g (.agg (enC x)::cap) (·=.s (.bool (p x)))) :DenM Tryz.prog 139 [.own E0 4 0 n,.fn g cap] 4 ((l.map enC)) (fun r ys=>r=.own E0 4 0 (l.filter fun x=>!p x).length∧ys=((l.filter fun x=>!p x).map enC)):=by
 subst hn
 have hq0:∀ j,((l.take j).filter fun x=>!p x).length≤j:=fun j=>jT _ l j
 have hq1:∀ j,((l.take j).filter fun x=>!p x).length≤l.length:=fun j=>iU _ l j
 refine iL Tryz.func139 rfl (Nat.le_of_ble_eq_true rfl) (fun w0 x0 A hf=>?_)
 refine aC (fun K1 hK1=>(aB (aG rfl (bQ) (aD (hK1 _ (aC (fun K2 hK2=>(aB (aE aA 2 rfl (aJ hf rfl (uL rfl rfl (by show [AV.conv _ _,AV.fn g (convL _ cap)]=_; rw[hcv,bX (g:=E0) rfl (by simp)]) sY (oM hent hcl p l hl hp) rfl) ?_))))))))))
 refine aE aA 1 rfl (aD (hK2 _ (aC (fun K3 hK3=>(aC (fun K4 hK4=>(aB (aE aA 2 rfl (aD (hK4 _ (aL rfl (fun hc1=>?_) (fun hc1=>?_))))))))))))
 ·
  simp only[bs] at hc1
  refine aC (fun K5 hK5=>(aB (aE aA 2 rfl (aD (hK5 _ (aI ?_))))))
  have hno:oD p l=-1:=by simpa using hc1
  rcases dS p l with ⟨_,hn⟩ | ⟨k,hk,e,_⟩
  · exact⟨_,.own E0 4 0 l.length,(l.map enC),Le.refl _,rfl,rfl,by rw[iF p l hn],by rw[iF p l hn]⟩
  · exfalso; omega
 ·
  simp only[bs] at hc1
  refine aM (hK3 _ (aC (fun K6 hK6=>(aC (fun K7 hK7=>(aB ?_))))))
  rcases dS p l with ⟨e0,_⟩ | ⟨k0,hk0,ek0,hpk0,hbef⟩
  · exact absurd e0 (by simpa using hc1)
  have hst:=oN (fun x=>!p x) l k0 hk0 (fun j hj hjk=>by simp [hbef j hj hjk]) (by simp [hpk0])
  rw[ek0]
  refine aE aA 1 rfl ?_
  refine aG rfl (bN rfl rfl (by omega) (by omega)) ?_
  refine aE aA 1 rfl (aD (hK7 _ (aQ (bR (ι:=Nat) (fun j=>⟨42,[(0,.own E0 4 0 l.length),(1,.fn g cap),(5,.s (.int .i64 (((l.take j).filter fun x=>!p x).length:Nat))),(6,.s (.int .i64 (j:Nat)))],[(E0,.buf 4 ((kI (fun x=>!p x) l j).map enC))]⟩) (fun j=>j≤l.length) (fun j=>l.length - j) (k0+1) ?_ ?_ ?_))))
  · exact hk0
  · rw[hst.1,hst.2]; exact jS ⟨rfl,rfl,rfl,rfl,trivial⟩
  ·
   rintro j hC
   let q:=fun x=>!p x
   have hle:((l.take j).filter q).length≤j:=hq0 j
   have hle2:((l.take j).filter fun x=>!p x).length≤j:=hq0 j
   refine aC (fun K8 hK8=>(aC (fun K9 hK9=>(aB (aE aA 4 rfl (aD (hK9 _ (aL rfl (fun hc2=>?_) (fun hc2=>?_)))))))))
   ·
    simp only[bs] at hc2
    refine aM (hK8 _ (aC (fun K10 hK10=>(aQ (aC (fun K11 hK11=>(aB (aE aA 2 rfl ?_))))))))
    refine aG rfl (cL rfl rfl eY dL (by omega)) ?_
    refine aG rfl (bW rfl aUz dL rfl (uO (c:=4) (k:=j) (enc:=enC) (by omega) (by rw[fG]; omega) rfl) (cs':=enC l[j]) (by rw[rM (c:=4) (k:=j) (enc:=enC) (by omega) (by rw[fG]; omega) rfl,tV q l j j (by omega) hle])) ?_
    refine bV hf rfl mG rfl dL rfl rfl rfl rfl (lf rfl) (aD (hK11 _ (aC (fun K12 hK12=>(aB (aE aA 2 rfl (aJ hf rfl (aK rfl rfl hent (by rw[iG,hcl]; rfl) (hp _ (List.getElem_mem _))) ?_)))))))
    refine aE aA 1 rfl (aD (hK12 _ (aL rfl (fun hc3=>?_) (fun hc3=>?_))))
    ·
     simp only[bs] at hc3
     refine aC (fun K13 hK13=>(aB (aE aA 3 rfl ?_)))
     refine aG rfl (cL rfl rfl eY dL (by omega)) ?_
     refine aU hf rfl rfl dL rfl rfl (by simp [enC,AV.cells,AV.one,Value.oneCell',splice]) (by simp [enC,AV.cells,AV.leaf,Value.oneCell',splice]) (iT (c:=4) (k:=((l.take j).filter fun x=>!p x).length) (enc:=enC) (v:=l[j]) (by omega) (by rw[fG]; omega) rfl (Nat.le_refl _)) ?_
     refine aD (hK13 _ (aB ?_))
     rw[mR (fun x=>!p x) l j (by omega) (by simp_all)]
     refine aE aA 1 rfl ?_
     refine aG rfl (bN rfl rfl (by omega) (by omega)) ?_
     rw[pV (fun x=>!p x) l j (by omega) (by simp_all)]
     refine aE aA 1 rfl ?_
     refine bK ?_
     refine hK10 _ (aB (aE aA 1 rfl ?_))
     refine aG rfl (bN rfl rfl (by omega) (by omega)) ?_
     refine aE aA 1 rfl (aD ?_)
     exact⟨j+1,(by omega),by omega,cN rfl⟩
    ·
     simp only[bs] at hc3
     rw[mS (fun x=>!p x) l j (by omega) (by simp_all),pW (fun x=>!p x) l j (by omega) (by simp_all)]
     refine aM (hK10 _ (aB (aE aA 1 rfl ?_)))
     refine aG rfl (bN rfl rfl (by omega) (by omega)) ?_
     refine aE aA 1 rfl (aD ?_)
     exact⟨j+1,(by omega),by omega,cN rfl⟩
   ·
    simp only[bs] at hc2
    refine bB (hK6 _ (aC (fun K14 hK14=>(aB (aE aA 2 rfl ?_)))))
    refine aG rfl (fK rfl eY dL rfl rfl (by omega) (by omega)) ?_
    refine zY hf kW mG (by simp [Value.oneCell']) rfl rfl ?_
    refine aD (hK14 _ (aC (fun K15 hK15=>(aB (aE aA 2 rfl ?_)))))
    refine aG rfl (fK rfl eY dL rfl rfl (by omega) (by omega)) ?_
    refine aE aA 1 rfl (aD (hK15 _ (aI ?_)))
    have hjl:l.length≤j:=by omega
    have he:=rW (fun x=>!p x) l j hjl
    refine⟨_,_,_,Le.refl _,rfl,rfl,?_,?_⟩
    · rw[List.take_of_length_le hjl]; rfl
    · rw[List.take_of_length_le hjl,Nat.zero_add,Int.toNat_natCast,← List.map_take,he]
theorem pB (l:List En) (hl:l.length*48≤140737488355328) :DenO Tryz.prog 115 [.sl 4 (l.map enC)] 4 (·=(l.map enC)):=by
 refine gO Tryz.func115 rfl (Nat.le_of_ble_eq_true rfl) (fun w0 A hf=>?_)
 refine aC (fun K1 hK1=>(aB (aG rfl (bQ) (aD (hK1 _ (aC (fun K2 hK2=>(aC (fun K3 hK3=>(aB (aE aA 1 rfl ?_)))))))))))
 refine qX rfl rfl rfl eY (fun b hb1=>?_)
 refine aD (hK3 _ (aL rfl (fun hc2=>?_) (fun hc2=>?_)))
 ·
  have hl0:l=[]:=by simpa using hb1 (by assumption)
  refine aC (fun K4 hK4=>(aB (lD hf 4 rfl rfl rfl (aD (hK4 _ (aI ?_))))))
  exact⟨2,[],by decide,rfl,rfl,by rw[hl0]; rfl⟩
 ·
  refine aM (hK2 _ (aC (fun K5 hK5=>(aB (fU hf rfl rfl rfl kW rfl rfl rfl rfl (l2 rfl) ?_)))))
  refine aE aA 1 rfl (cA hf rfl kW rfl rfl rfl (.inl rfl) rfl rfl (by first | rfl | simp [eV,bU]) (by first | (simp only[maxLen,List.length_map,List.length_append,List.length_cons,List.length_nil]; omega) | (simp [maxLen] <;> omega)) (by first | (simp only[List.length_map,List.length_append,List.length_cons,List.length_nil]; omega) | (simp <;> omega)) ?_)
  refine bO (eR [7] rfl) (aE aA 1 rfl (aD (hK5 _ (aI ?_))))
  refine⟨5,(l.map enC),by decide,rfl,?_,rfl⟩
  show some (AV.own 5 4 0 (0+(l.map enC).length))=_
  rw[Nat.zero_add]
theorem aT8 (n:Nat) (hn:n*48≤140737488355328) :DenO Tryz.prog 183 [.s (.slice none 0 0),.s (.int .i64 (n:Nat))] 4 (·=[]):=by
 refine gO Tryz.func183 rfl (Nat.le_of_ble_eq_true rfl) (fun w0 A hf=>?_)
 refine aC (fun K1 hK1=>(aB (aG rfl (bQ) (aD (hK1 _ (aC (fun K2 hK2=>(aC (fun K3 hK3=>(aB (aE aA 2 rfl (aD (hK3 _ (aL rfl (fun hc1=>?_) (fun hc1=>?_)))))))))))))))
 ·
  simp only[bs] at hc1
  omega
 ·
  simp only[bs] at hc1
  refine aM (hK2 _ (aC (fun K4 hK4=>(aC (fun K5 hK5=>(aB (aE aA 2 rfl (aG rfl (nM rfl eY) (aE aA 2 rfl ?_)))))))))
  refine aG rfl (fB rfl rfl (by omega) (by omega)) ?_
  refine aG rfl (fB rfl rfl (by omega) (by omega)) ?_
  refine aE aA 1 rfl (aD (hK5 _ (aC (fun K6 hK6=>(aB (aE aA 2 rfl (aD (hK6 _ (aL rfl (fun hc2=>?_) (fun hc2=>?_))))))))))
  ·
   simp only[bs] at hc2
   refine aB (aE aA 2 rfl (aG rfl (nM rfl eY) ?_))
   refine aG rfl (sJ rfl eY dL rfl) ?_
   refine aE aA 1 rfl (xG hf rfl rfl rfl kW Tryz.underlying3 rfl rfl (by omega) (by omega) (by simp only[maxLen]; omega) ?_)
   refine aE aA 2 rfl ?_
   refine aG rfl (fK rfl eY dL rfl rfl (by omega) (by omega)) ?_
   refine aE aA 1 rfl (aD (hK4 _ (aC (fun K7 hK7=>(aB (aE aA 1 rfl ?_))))))
   refine aG rfl (wD rfl) ?_
   refine aD (hK7 _ (aI ?_))
   exact⟨22,[],by decide,rfl,rfl,rfl⟩
  ·
   simp only[bs] at hc2
   refine aM (hK4 _ (aC (fun K8 hK8=>(aB (aE aA 1 rfl ?_)))))
   refine aJs hf 4 rfl rfl rfl rfl ?_
   refine aD (hK8 _ (aI ?_))
   exact⟨4,[],by decide,rfl,rfl,rfl⟩
theorem aCu (rows:List (List En)) (hl:rows.length≤9223372036854775807) (hb:rows.flatten.length*48≤140737488355328) :DenO Tryz.prog 163 [.sl 1 (rows.map fun r=>[AV.sl 4 (r.map enC)])] 4 (·=(rows.flatten.map enC)):=by
 refine gO Tryz.func163 rfl (Nat.le_of_ble_eq_true rfl) (fun w0 A hf=>?_)
 refine aC (fun K1 hK1=>(aB (aG rfl (bQ) (aD (hK1 _ (aC (fun K2 hK2=>(aB (aE aA 1 rfl (aD (hK2 _ (aC (fun K3 hK3=>(aC (fun K4 hK4=>(aB ?_))))))))))))))))
 refine aE aA 3 rfl (aD (hK4 _ (aQ (bR (ι:=Nat) (fun k=>⟨36,[(0,.sl 1 (rows.map fun r=>[AV.sl 4 (r.map enC)])),(3,.s (.int .i64 ((rows.take k).flatten.length:Nat))),(9,.sl 1 (rows.map fun r=>[AV.sl 4 (r.map enC)])),(10,.s (.int .i64 ((rows.map fun r=>[AV.sl 4 (r.map enC)]).length:Nat))),(11,.s (.int .i64 (k:Nat)))],[]⟩) (fun k=>k≤rows.length) (fun k=>rows.length - k) 0 ?_ ?_ ?_))))
 · exact Nat.zero_le _
 · exact cN rfl
 ·
  rintro k hC
  refine aC (fun K5 hK5=>(aB (aE aA 1 rfl (aD (hK5 _ (aC (fun K6 hK6=>(aL rfl (fun hc1=>?_) (fun hc1=>?_)))))))))
  ·
   simp only[bs] at hc1
   refine aM (hK6 _ (aC (fun K7 hK7=>(aQ (aC (fun K8 hK8=>(aB ?_)))))))
   refine aG rfl (aY rfl rfl aJl kS (by first | exact ixm (by omega) | assumption | exact⟨by decide,rfl⟩)) ?_
   refine aE aA 2 rfl (aD (hK8 _ (aC (fun K9 hK9=>(aB ?_)))))
   have hk:k<rows.length:=by omega
   have e1:=congrArg List.length (iR rows k hk)
   rw[List.length_append] at e1
   have e2:=sN rows (k+1)
   have e3:(rows[k].map enC).length=rows[k].length:=List.length_map _
   refine aE aA 3 rfl ?_
   refine aG rfl (bN rfl rfl (by omega) (by omega)) ?_
   rw[show ((((rows.take k).flatten.length:Nat):Int)+(((rows[k].map enC).length:Nat):Int))=(((rows.take (k+1)).flatten.length:Nat):Int) from by omega]
   refine aE aA 1 rfl (aD (hK9 _ (aC (fun K10 hK10=>(aB (aE aA 2 rfl (aD (hK10 _ (aL rfl (fun hc2=>?_) (fun hc2=>?_))))))))))
   ·
    simp only[bs] at hc2
    omega
   ·
    simp only[bs] at hc2
    refine aM (hK7 _ (aB ?_))
    refine aG rfl (bN rfl rfl (by omega) (by omega)) ?_
    refine aE aA 1 rfl (aD ?_)
    exact⟨k+1,(by omega),by omega,cN rfl⟩
  ·
   simp only[bs] at hc1
   refine bB (hK3 _ (aC (fun K11 hK11=>(aB ?_))))
   rw[List.take_of_length_le (show rows.length≤k by omega)]
   refine aE aA 1 rfl (iO hf rfl rfl rfl rfl rfl aOg rfl (aT8 rows.flatten.length (by omega)) ?_)
   rintro _ rfl
   refine aE aA 1 rfl (aD (hK11 _ (aC (fun K12 hK12=>(aC (fun K13 hK13=>(aB (aE aA 3 rfl (aD (hK13 _ (aQ (bR (ι:=Nat) (fun j=>⟨36,[(6,.own 24 4 0 (rows.take j).flatten.length),(25,.sl 1 (rows.map fun r=>[AV.sl 4 (r.map enC)])),(26,.s (.int .i64 ((rows.map fun r=>[AV.sl 4 (r.map enC)]).length:Nat))),(27,.s (.int .i64 (j:Nat)))],[(24,.buf 4 ((rows.take j).flatten.map enC))]⟩) (fun j=>j≤rows.length) (fun j=>rows.length - j) 0 ?_ ?_ ?_))))))))))))
   · exact Nat.zero_le _
   · exact cN rfl
   ·
    rintro j hC
    refine aC (fun K14 hK14=>(aB (aE aA 1 rfl (aD (hK14 _ (aC (fun K15 hK15=>(aL rfl (fun hc3=>?_) (fun hc3=>?_)))))))))
    ·
     simp only[bs] at hc3
     refine aM (hK15 _ (aC (fun K16 hK16=>(aQ (aC (fun K17 hK17=>(aB ?_)))))))
     refine aG rfl (aY rfl rfl aJl kS (by first | exact ixm (by omega) | assumption | exact⟨by decide,rfl⟩)) ?_
     refine aE aA 2 rfl (aD (hK17 _ (aB ?_)))
     have hj:j<rows.length:=by omega
     have e1:=congrArg List.length (iR rows j hj)
     rw[List.length_append] at e1
     have e2:=sN rows (j+1)
     have e3:(rows[j].map enC).length=rows[j].length:=List.length_map _
     refine aE aA 2 rfl (cA hf rfl kW rfl rfl rfl (.inl rfl) (by simp only[List.length_map]) rfl (by first | rfl | simp [eV,bU]) (by first | (simp only[maxLen,List.length_map,List.length_append,List.length_cons,List.length_nil]; omega) | (simp [maxLen] <;> omega)) (by first | (simp only[List.length_map,List.length_append,List.length_cons,List.length_nil]; omega) | (simp <;> omega)) ?_)
     refine bO (eR [25,26,27,33] rfl) ?_
     rw[show (rows.take j).flatten.length+(rows[j].map enC).length=(rows.take (j+1)).flatten.length from by omega,← List.map_append,← iR rows j hj]
     refine aE aA 1 rfl ?_
     refine bK ?_
     refine hK16 _ (aB ?_)
     refine aG rfl (bN rfl rfl (by omega) (by omega)) ?_
     refine aE aA 1 rfl (aD ?_)
     exact⟨j+1,(by omega),by omega,cN rfl⟩
    ·
     simp only[bs] at hc3
     refine bB (hK12 _ (aC (fun K18 hK18=>(aB (aE aA 2 rfl (aD (hK18 _ (aI ?_))))))))
     refine⟨24,(rows.flatten.map enC),by decide,?_,?_,rfl⟩
     · rw[List.take_of_length_le (show rows.length≤j by omega)]; rfl
     · rw[List.take_of_length_le (show rows.length≤j by omega)]
       show some (AV.own 24 4 0 rows.flatten.length)=_
       rw[List.length_map]
theorem aQx (a b:List En) (ha:a.length≤9223372036854775807) (hb:b.length≤9223372036854775807) :Den Tryz.prog 143 [.sl 4 (a.map enC),.sl 4 (b.map enC)]  (·=.s (.bool (decide (a=b)))):=by
 refine aS Tryz.func143 rfl (Nat.le_of_ble_eq_true rfl) (fun w0 A hf=>(aC (fun K1 hK1=>(aB (aE aA 1 rfl (aD (hK1 _ (aC (fun K2 hK2=>(aC (fun K3 hK3=>(aB (aE aA 5 rfl (aD (hK3 _ (aL rfl (fun hc1=>?_) (fun hc1=>?_)))))))))))))))))
 ·
  simp only[bs] at hc1
  refine aC (fun K4 hK4=>(aB (aE aA 1 rfl (aD (hK4 _ (aI ?_))))))
  refine⟨_,rfl,?_⟩
  refine aP ?_
  rw[nP (by omega)]
 ·
  simp only[bs] at hc1
  refine aM (hK2 _ (aC (fun K5 hK5=>(aC (fun K6 hK6=>(aB (aE aA 3 rfl (aD (hK6 _ (aQ (bR (ι:=Nat) (fun k=>⟨26,[(0,.sl 4 (a.map enC)),(1,.sl 4 (b.map enC)),(12,.s (.int .i64 ((a.map enC).length:Nat))),(13,.s (.int .i64 (k:Nat)))],[]⟩) (fun k=>k≤a.length∧a.take k=b.take k) (fun k=>a.length - k) 0 ?_ ?_ ?_)))))))))))
  · exact⟨Nat.zero_le _,rfl⟩
  · exact cN rfl
  ·
   rintro k hC
   obtain ⟨h1,h2⟩:=hC
   refine aC (fun K7 hK7=>(aB (aE aA 1 rfl (aD (hK7 _ (aC (fun K8 hK8=>(aL rfl (fun hc2=>?_) (fun hc2=>?_)))))))))
   ·
    simp only[bs] at hc2
    refine aM (hK8 _ (aC (fun K9 hK9=>(aQ (aC (fun K10 hK10=>(aB (aE aA 2 rfl (aD (hK10 _ (aC (fun K11 hK11=>(cM hf bE (by kernel_rfl) rfl (aT aA 2 rfl ?_))))))))))))))
    refine bL [(16,_),(17,_)] rfl rfl ⟨⟨rfl,rfl⟩,⟨rfl,rfl⟩,trivial⟩ rfl (aY rfl rfl eY dL (by first | exact ixm (by omega) | assumption | exact⟨by decide,rfl⟩)) ?_
    refine aT aA 3 rfl ?_
    refine bL [(20,_),(21,_)] rfl rfl ⟨⟨rfl,rfl⟩,⟨rfl,rfl⟩,trivial⟩ rfl (aY rfl rfl eY dL (by first | exact ixm (by omega) | assumption | exact⟨by decide,rfl⟩)) ?_
    refine aT aA 1 rfl (bL [(19,_),(23,_)] rfl rfl ⟨⟨rfl,rfl⟩,⟨rfl,rfl⟩,trivial⟩ rfl (sK rfl rfl aUw rfl) ?_)
    rw[enC_eq]
    refine cP [0,1,12,13,24] rfl rfl rfl (hK11 _ (aL rfl (fun hc3=>?_) (fun hc3=>?_)))
    ·
     simp only[bs] at hc3
     refine aC (fun K12 hK12=>(aB (aE aA 1 rfl (aD (hK12 _ (aI ?_))))))
     refine⟨_,rfl,?_⟩
     refine aP ?_
     rw[lM (by omega) (by omega) (by assumption)]
    ·
     simp only[bs] at hc3
     refine aM (hK9 _ (aB ?_))
     refine aG rfl (bN rfl rfl (by omega) (by omega)) ?_
     refine aE aA 1 rfl (aD ?_)
     exact⟨k+1,⟨by omega,jI (by omega) (by omega) h2 (by assumption)⟩,by omega,cN rfl⟩
   ·
    simp only[bs] at hc2
    refine bB (hK5 _ (aC (fun K13 hK13=>(aB (aE aA 1 rfl (aD (hK13 _ (aI ?_))))))))
    refine⟨_,rfl,?_⟩
    refine aP ?_
    rw[kV (by omega) (by omega) h2]
theorem one_den (w u:ByteArray) (f t:Int) :Den Tryz.prog 103 [.s (.string w),.s (.string u),.s (.int .i64 f),.s (.int .i64 t)]  (·=.agg (enC ((w,u),(f,t)))):=by
 refine aS Tryz.func103 rfl (Nat.le_of_ble_eq_true rfl) (fun w0 A hf=>(aC (fun K1 hK1=>(aB (aX hf rfl rfl rfl mG (aD (hK1 _ (aC (fun K2 hK2=>(aB (aE aA 2 rfl (aG rfl (cB rfl gP lP (l3 rfl) rfl) (aE aA 2 rfl (aG rfl (cB rfl aBc xW (l3 rfl) rfl) (aG rfl (cB rfl mG aGy (l3 rfl) rfl) ?_)))))))))))))))
 refine aU hf rfl rfl dL rfl rfl (l1 rfl) (l4 rfl) rfl (aD (hK2 _ (aI ?_)))
 refine⟨_,rfl,?_⟩
 rfl
theorem aQt (e:En) (p:Pr) :Den Tryz.prog 184 [.agg (enC e),.adr (prC p)]  (·=.s (.bool (eX p e))):=by
 refine aS Tryz.func184 rfl (Nat.le_of_ble_eq_true rfl) (fun w0 A hf=>(aC (fun K1 hK1=>(aB (aJ hf rfl (cI rfl rfl (lf rfl)) (aE aA 1 rfl (aD (hK1 _ (aC (fun K2 hK2=>(aB (aE aA 3 rfl (aG rfl (jL rfl rfl aJi rfl) ?_)))))))))))))
 rw[aVi]
 refine aE aA 1 rfl (aW rfl rfl rfl (fun hg1=>?_) (fun hg1=>?_))
 ·
  simp only[bs] at hg1
  refine aG rfl (bF rfl uW qE rfl) ?_
  refine aE aA 5 rfl (aD (hK2 _ (aI ?_)))
  refine⟨_,rfl,?_⟩
  refine aP ?_
  (simp_all[eX]; rfl)
 ·
  simp only[bs] at hg1
  refine aE aA 5 rfl (aD (hK2 _ (aI ?_)))
  refine⟨_,rfl,?_⟩
  refine aP ?_
  (simp_all[eX]; done)
theorem aJd (l:List En) (p:Pr) (hl:l.length≤9223372036854775807) :Den Tryz.prog 164 [.sl 4 (l.map enC),.agg (prC p)]  (·=.s (.int .i64 (oD (eX p) l))):=by
 refine aS Tryz.func164 rfl (Nat.le_of_ble_eq_true rfl) (fun w0 A hf=>(aC (fun K1 hK1=>(aB (aJ hf rfl (cI rfl rfl (lf rfl)) (aE aA 1 rfl (aD (hK1 _ (aC (fun K2 hK2=>(aB (aE aA 1 rfl (aG rfl (eW rfl) (aJ hf rfl (aK rfl rfl sY rfl (oM aOf rfl (eX p) l hl (fun x _=>aQt x p))) (aE aA 1 rfl ?_)))))))))))))))
 refine aD (hK2 _ (aI ?_))
 refine⟨_,rfl,?_⟩
 rfl
theorem aM7 (l:List En) (p:Pr) (hl:l.length≤9223372036854775807) :Den Tryz.prog 161 [.sl 4 (l.map enC),.agg (prC p)]  (·=.s (.bool (onB l p))):=by
 refine aS Tryz.func161 rfl (Nat.le_of_ble_eq_true rfl) (fun w0 A hf=>(aC (fun K1 hK1=>(aB (aJ hf rfl (cI rfl rfl (lf rfl)) (aE aA 1 rfl (aD (hK1 _ (aC (fun K2 hK2=>(aB (aE aA 2 rfl (aJ hf rfl (aK rfl rfl aDg rfl (aJd _ _ (by omega))) (aE aA 2 rfl (aD ?_)))))))))))))))
 refine hK2 _ (aI ?_)
 refine⟨_,rfl,?_⟩
 refine aP ?_
 exact pU _ _
theorem aIy (a b:En) :Den Tryz.prog 130 [.agg (enC a),.agg (enC b)]  (·=.s (.int .i64 (mL a b))):=by
 refine aS Tryz.func130 rfl (Nat.le_of_ble_eq_true rfl) (fun w0 A hf=>(aC (fun K1 hK1=>(aB (aJ hf rfl (cI rfl rfl (lf rfl)) (aJ hf rfl (cI rfl rfl (lf rfl)) (aE aA 1 rfl (aD (hK1 _ (aC (fun K2 hK2=>(cM hf bE (by kernel_rfl) rfl (aT aA 4 rfl (aZ [(6,_),(8,_)] rfl rfl ⟨⟨rfl,rfl⟩,⟨rfl,rfl⟩,trivial⟩ rfl (aK rfl rfl aOm rfl (Nm.pairCmp_den _ _ _ _)) (aT aA 6 rfl ?_)))))))))))))))
 refine aZ [(12,_),(15,_)] rfl rfl ⟨⟨rfl,rfl⟩,⟨rfl,rfl⟩,trivial⟩ rfl (aK rfl rfl qC rfl (lN _ _)) (aZ [(9,_),(16,_)] rfl rfl ⟨⟨rfl,rfl⟩,⟨rfl,rfl⟩,trivial⟩ rfl (bD zW rfl rfl rfl rfl (l2 rfl)) (aZ [(17,_)] rfl rfl ⟨⟨rfl,rfl⟩,trivial⟩ rfl (aK rfl rfl wW rfl (Nm.or_den [_,_] (by simp))) ?_))
 refine aT aA 1 rfl (cP [4] rfl rfl rfl (hK2 _ (aI ?_)))
 refine⟨_,rfl,?_⟩
 rfl
theorem aQr (x e:En) :Den Tryz.prog 162 [.agg (enC x),.adr (enC e)]  (·=.s (.bool (decide (0<mL x e)))):=by
 refine aS Tryz.func162 rfl (Nat.le_of_ble_eq_true rfl) (fun w0 A hf=>(aC (fun K1 hK1=>(aB (aJ hf rfl (cI rfl rfl (lf rfl)) (aE aA 1 rfl (aD (hK1 _ (aC (fun K2 hK2=>(aB (aE aA 2 rfl (aJ hf rfl (aK rfl rfl aDm rfl (aIy _ _)) (aE aA 2 rfl (aD ?_)))))))))))))))
 refine hK2 _ (aI ?_)
 refine⟨_,rfl,?_⟩
 rfl
theorem aJw (e:En) (u:ByteArray) :Den Tryz.prog 154 [.agg (enC e),.adr [.s (.string u)]]  (·=.s (.bool (lC u e))):=by
 refine aS Tryz.func154 rfl (Nat.le_of_ble_eq_true rfl) (fun w0 A hf=>(aC (fun K1 hK1=>(aB (aJ hf rfl (cI rfl rfl (lf rfl)) (aE aA 1 rfl (aD (hK1 _ (aC (fun K2 hK2=>(aB (aE aA 3 rfl (aJ hf rfl (aK rfl rfl aO2 rfl (Nm.pairHas_den _ _ _)) (aE aA 1 rfl (aD ?_)))))))))))))))
 refine hK2 _ (aI ?_)
 refine⟨_,rfl,?_⟩
 rfl
theorem aQ5 (e:En) (t:Int) :Den Tryz.prog 140 [.agg (enC e),.adr [.s (.int .i64 t)]]  (·=.s (.bool (decide (e.2.2≤t)))):=by
 refine aS Tryz.func140 rfl (Nat.le_of_ble_eq_true rfl) (fun w0 A hf=>(aC (fun K1 hK1=>(aB (aJ hf rfl (cI rfl rfl (lf rfl)) (aE aA 1 rfl (aD (hK1 _ (aC (fun K2 hK2=>(aB (aE aA 6 rfl (aD (hK2 _ (aI ?_)))))))))))))))
 refine⟨_,rfl,?_⟩
 rfl
end Go.Proofs.YtckjaledibkghaaGreat
set_option linter.unusedVariables false
set_option linter.unusedSimpArgs false
namespace Go.Abs
theorem aT2 {l:List En} {p:Pr} {t:Int}:(iC l p t).length=l.length+1:=aM5 _ _
theorem aL8 (p:Pr) (t:Int):∀ l:List En,(kA l p t).length≤l.length
  | []=>Nat.le_refl _
  | e::l=>by
    rw[kA]; split
    · have:(vC e t).length≤1:=by unfold vC; split <;> simp
      simp only[List.length_append,List.length_cons]; omega
    · have:=aL8 p t l
      simp only[List.length_cons]; omega
theorem aMx (l:List En) (p:Pr) (t:Int):(if onB l p=true then [] else iC l p t).length≤l.length+1:=by
  split
  · simp
  · rw[aT2]; omega
theorem aMw (l:List En) (p:Pr) (t:Int):(if onB l p=true then kA l p t else []).length≤l.length:=by
  split
  · exact aL8 p t l
  · simp
end Go.Abs
set_option linter.unusedVariables false
set_option linter.unusedSimpArgs false
namespace Go.Abs
abbrev Us:=ByteArray×List bS
abbrev Tm:=ByteArray×Int
def usC (x:Us):List AV:=[.s (.string x.1),.sl 4 (x.2.map stC)]
def tmC (x:Tm):List AV:=[.s (.string x.1),.s (.int .i64 x.2)]
theorem tmC_eq (x y:Tm):(x.1.toList == y.1.toList&&(x.2 == y.2&&true))=decide (x=y):=by
  rw[Bool.eq_iff_iff]
  simp only[Bool.and_eq_true,beq_iff_eq,toList_inj,and_true,decide_eq_true_eq,Prod.ext_iff,and_assoc]
structure Sta where
  now:Int
  hor:Int
  opn:List Se
  usr:List Us
  sub:List En
  tmb:List Tm
  deriving DecidableEq
def mY:Sta:=⟨0,0,[],[],[],[]⟩
def aO (s:Sta):List AV:=[.s (.int .i64 s.now),.s (.int .i64 s.hor),.sl 4 (s.opn.map seC),.sl 2 (s.usr.map usC),.sl 4 (s.sub.map enC),.sl 2 (s.tmb.map tmC)]
def eI (s:Sta) (a b:Nat):List AV:=[.s (.int .i64 s.now),.s (.int .i64 s.hor),.sl 4 (s.opn.map seC),.own a 2 0 (s.usr.map usC).length,.sl 4 (s.sub.map enC),.own b 2 0 (s.tmb.map tmC).length]
structure SzS (n:Nat) (s:Sta):Prop where
  o:s.opn.length*40≤n
  u:s.usr.length*40≤n
  b:s.sub.length*48≤n
  t:s.tmb.length*24≤n
  y:∀ x∈s.usr,x.2.length*32≤n
theorem SzS.mono {n m:Nat} {s:Sta} (h:SzS n s) (hm:n≤m):SzS m s:=⟨Nat.le_trans h.o hm,Nat.le_trans h.u hm,Nat.le_trans h.b hm,Nat.le_trans h.t hm,fun x hx=>Nat.le_trans (h.y x hx) hm⟩
section
variable {α:Type} (key:α→ByteArray)
def isK (u:ByteArray) (x:α):Bool:=decide (key x=u)
def loK (u:ByteArray) (x:α):Bool:=decide (dN (key x) u<0)
def hiK (u:ByteArray) (x:α):Bool:=decide (0<dN (key x) u)
def cQ (l:List α):Prop:=l.Pairwise fun a b=>dN (key a) (key b)<0
def aAh (l:List α) (u:ByteArray) (ys:List α):List α:=l.filter (loK key u)++(ys++l.filter (hiK key u))
def dQ (l:List α) (u:ByteArray):Nat:=(l.filter (loK key u)).length
def hP (l:List α) (u:ByteArray):Bool:=l.any (isK key u)
end
section
variable {α:Type} {key:α→ByteArray}
theorem oO (u:ByteArray):dN u u=0:=(mD u u).2 rfl
theorem aJe (x u:ByteArray):(dN x u<0∧x≠u)∨x=u∨(0<dN x u∧x≠u):=by
  by_cases h:x=u
  · exact .inr (.inl h)
  · have h0:dN x u≠0:=fun e=>h ((mD x u).1 e)
    by_cases h1:dN x u<0
    · exact .inl ⟨h1,h⟩
    · exact .inr (.inr ⟨by omega,h⟩)
theorem tH {u:ByteArray}:∀ {l:List α},cQ key l→l=l.filter (loK key u)++(l.filter (isK key u)++l.filter (hiK key u))∧(l.filter (isK key u)).length≤1
  | [],_=>⟨rfl,by simp⟩
  | x::l,h=>by
    obtain ⟨h1,h2⟩:=List.pairwise_cons.1 h
    obtain ⟨e1,e2⟩:=tH (u:=u) h2
    rcases aJe (key x) u with ⟨a,b⟩ | a | ⟨a,b⟩
    · have c1:loK key u x=true:=by simp [loK,a]
      have c2:isK key u x=false:=by simp [isK,b]
      have c3:hiK key u x=false:=by simp only[hiK,decide_eq_false_iff_not]; omega
      simp only[List.filter_cons,c1,c2,c3,if_true,Bool.false_eq_true,if_false,List.cons_append]
      exact⟨by rw[← e1],e2⟩
    · have hlo:l.filter (loK key u)=[]:=List.filter_eq_nil_iff.2 fun y hy=>by
        have:=h1 y hy
        have:=pC (key x) (key y)
        rw[a] at *
        simp only[loK,decide_eq_true_eq]; omega
      have hm:l.filter (isK key u)=[]:=List.filter_eq_nil_iff.2 fun y hy=>by
        have:=h1 y hy
        rw[a] at this
        simp only[isK,decide_eq_true_eq]
        intro e
        rw[e,oO] at this
        omega
      have c1:loK key u x=false:=by simp [loK,a,oO]
      have c2:isK key u x=true:=by simp [isK,a]
      have c3:hiK key u x=false:=by simp [hiK,a,oO]
      simp only[List.filter_cons,c1,c2,c3,if_true,Bool.false_eq_true,if_false,hlo,hm] at e1 ⊢
      exact⟨by simpa using e1,by simp⟩
    · have hlo:l.filter (loK key u)=[]:=List.filter_eq_nil_iff.2 fun y hy=>by
        have:=h1 y hy
        have h3:=pC u (key x)
        have h4:=pC u (key y)
        have:=gT (a:=u) (b:=key x) (c:=key y) (by omega) this
        simp only[loK,decide_eq_true_eq]; omega
      have hm:l.filter (isK key u)=[]:=List.filter_eq_nil_iff.2 fun y hy=>by
        have:=h1 y hy
        have h3:=pC u (key x)
        have h5:=gT (a:=u) (b:=key x) (c:=key y) (by omega) this
        simp only[isK,decide_eq_true_eq]
        intro e
        rw[e,oO] at h5
        omega
      have c1:loK key u x=false:=by simp only[loK,decide_eq_false_iff_not]; omega
      have c2:isK key u x=false:=by simp [isK,b]
      have c3:hiK key u x=true:=by simp [hiK,a]
      simp only[List.filter_cons,c1,c2,c3,if_true,Bool.false_eq_true,if_false,hlo,hm] at e1 ⊢
      exact⟨by simp only[List.nil_append] at e1 ⊢; rw[← e1],by simp⟩
theorem mZ {l:List α} (h:cQ key l) (q:α→Bool):cQ key (l.filter q):=h.filter q
theorem xL {l:List α} {u:ByteArray} {ys:List α} (h:cQ key l) (hy:∀ y∈ys,key y=u) (h1:ys.length≤1):cQ key (aAh key l u ys):=by
  have hb:∀ x∈l.filter (loK key u),dN (key x) u<0:=fun x hx=>by have:=(List.mem_filter.1 hx).2; simpa [loK] using this
  have ha:∀ x∈l.filter (hiK key u),dN u (key x)<0:=fun x hx=>by
    have:=(List.mem_filter.1 hx).2
    have h2:=pC u (key x)
    simp only[hiK,decide_eq_true_eq] at this; omega
  refine List.pairwise_append.2 ⟨mZ h _,List.pairwise_append.2 ⟨?_,mZ h _,fun y hm z hz=>by rw[hy y hm]; exact ha z hz⟩,fun x hx z hz=>?_⟩
  · match ys,h1 with
    | [],_=>exact List.Pairwise.nil
    | [y],_=>exact List.pairwise_singleton _ _
  · rcases List.mem_append.1 hz with hz | hz
    · rw[hy z hz]; exact hb x hx
    · exact gT (hb x hx) (ha z hz)
theorem lB {l:List α} {u:ByteArray} {ys:List α} {x:α}:x∈aAh key l u ys↔(x∈l∧key x≠u)∨x∈ys:=by
  simp only[aAh,List.mem_append,List.mem_filter,loK,hiK,decide_eq_true_eq]
  constructor
  · rintro (⟨h,h1⟩ | h | ⟨h,h1⟩)
    · exact .inl ⟨h,fun e=>by rw[e,oO] at h1; omega⟩
    · exact .inr h
    · exact .inl ⟨h,fun e=>by rw[e,oO] at h1; omega⟩
  · rintro (⟨h,h1⟩ | h)
    · rcases aJe (key x) u with ⟨a,_⟩ | a | ⟨a,_⟩
      · exact .inl ⟨h,a⟩
      · exact absurd a h1
      · exact .inr (.inr ⟨h,a⟩)
    · exact .inr (.inl h)
theorem rB:∀ {a b:List α},cQ key a→cQ key b→(∀ x,x∈a↔x∈b)→a=b
  | [],[],_,_,_=>rfl
  | [],y::b,_,_,h=>absurd ((h y).2 (by simp)) (by simp)
  | x::a,[],_,_,h=>absurd ((h x).1 (by simp)) (by simp)
  | x::a,y::b,ha,hb,h=>by
    obtain ⟨a1,a2⟩:=List.pairwise_cons.1 ha
    obtain ⟨b1,b2⟩:=List.pairwise_cons.1 hb
    have irr:∀ z:α,¬ dN (key z) (key z)<0:=fun z=>by rw[oO]; omega
    have hxy:x=y:=by
      rcases List.mem_cons.1 ((h x).1 (by simp)) with e | e
      · exact e
      · rcases List.mem_cons.1 ((h y).2 (by simp)) with e' | e'
        · exact e'.symm
        · exact absurd (gT (b1 x e) (a1 y e')) (irr y)
    subst hxy
    rw[rB a2 b2 fun z=>?_]
    have:=h z
    simp only[List.mem_cons] at this
    constructor
    · intro hz
      rcases this.1 (.inr hz) with e | e
      · subst e; exact absurd (a1 z hz) (irr z)
      · exact e
    · intro hz
      rcases this.2 (.inr hz) with e | e
      · subst e; exact absurd (b1 z hz) (irr z)
      · exact e
theorem aAu (l:List α) (u:ByteArray):dQ key l u≤l.length:=List.length_filter_le _ _
theorem rK {l:List α} (h:cQ key l) (u:ByteArray):l.take (dQ key l u)=l.filter (loK key u)∧l.drop (dQ key l u)=l.filter (isK key u)++l.filter (hiK key u):=by
  have e:=(tH (u:=u) h).1
  constructor
  · have:l.take (dQ key l u)=(l.filter (loK key u)++(l.filter (isK key u)++l.filter (hiK key u))).take (l.filter (loK key u)).length:=by rw[← e]; rfl
    rw[this,List.take_left]
  · have:l.drop (dQ key l u)=(l.filter (loK key u)++(l.filter (isK key u)++l.filter (hiK key u))).drop (l.filter (loK key u)).length:=by rw[← e]; rfl
    rw[this,List.drop_left]
theorem aQq {l:List α} {u:ByteArray} (h:hP key l u=false):l.filter (isK key u)=[]:=by
  rw[hP,List.any_eq_false] at h
  exact List.filter_eq_nil_iff.2 h
theorem aKr {l:List α} (h:cQ key l) {u:ByteArray} (hh:hP key l u=true):∃ hk:dQ key l u<l.length,key (l[dQ key l u])=u∧l.filter (isK key u)=[l[dQ key l u]]:=by
  obtain ⟨x,hx,hxu⟩:=List.any_eq_true.1 hh
  have h1:x∈l.filter (isK key u):=List.mem_filter.2 ⟨hx,hxu⟩
  obtain ⟨e1,e2⟩:=tH (u:=u) h
  have e3:l.filter (isK key u)=[x]:=by
    match hl:l.filter (isK key u),h1,e2 with
    | [],h1,_=>cases h1
    | [y],h1,_=>rw[List.mem_singleton.1 h1]
    | y::z::r,_,e2=>simp at e2
  have hd:=(rK h u).2
  rw[e3] at hd
  have hlt:dQ key l u<l.length:=by
    have:=congrArg List.length hd
    simp only[List.length_drop,List.length_append,List.length_cons,List.length_nil] at this
    omega
  have hg:l[dQ key l u]=x:=by
    have:=congrArg (fun r=>r[0]?) hd
    simp only[List.getElem?_drop,Nat.add_zero,List.cons_append,List.getElem?_cons_zero] at this
    rw[List.getElem?_eq_getElem hlt] at this
    exact Option.some.inj this
  refine⟨hlt,?_,?_⟩
  · rw[hg]; simpa [isK] using hxu
  · rw[e3,hg]
theorem aMl {l:List α} (h:cQ key l) {u:ByteArray} (hh:hP key l u=true):l.drop (dQ key l u+1)=l.filter (hiK key u):=by
  obtain ⟨hk,_,e⟩:=aKr h hh
  have hd:=(rK h u).2
  rw[e] at hd
  rw[← List.drop_drop,hd]; rfl
theorem aJ2 {l:List α} (h:cQ key l) {u:ByteArray} (hh:hP key l u=true) (y:α):l.set (dQ key l u) y=aAh key l u [y]:=by
  obtain ⟨hk,_,_⟩:=aKr h hh
  rw[List.set_eq_take_append_cons_drop,if_pos hk,(rK h u).1,aMl h hh]; rfl
theorem aSj {l:List α} (h:cQ key l) {u:ByteArray} (hh:hP key l u=false) (y:α):l.take (dQ key l u)++y::l.drop (dQ key l u)=aAh key l u [y]:=by
  rw[(rK h u).1,(rK h u).2,aQq hh]; rfl
theorem aE8 {l:List α} (h:cQ key l) (u:ByteArray):l.filter (fun x=>!isK key u x)=aAh key l u []:=by
  refine rB (key:=key) (mZ h _) (xL h (by simp) (by simp)) fun x=>?_
  rw[lB,List.mem_filter]
  simp [isK]
theorem aKq {l:List α} {u v:ByteArray} {ys:List α} (hy:∀ y∈ys,key y=u):hP key (aAh key l u ys) v=if v=u then !ys.isEmpty else hP key l v:=by
  rw[Bool.eq_iff_iff]
  simp only[hP,List.any_eq_true,lB,isK,decide_eq_true_eq]
  by_cases hv:v=u
  · subst hv
    rw[if_pos rfl]
    constructor
    · rintro ⟨x,⟨_,h⟩ | h,e⟩
      · exact absurd e h
      · cases ys with
        | nil=>cases h
        | cons y r=>rfl
    · intro h
      cases ys with
      | nil=>cases h
      | cons y r=>exact⟨y,.inr (by simp),hy y (by simp)⟩
  · rw[if_neg hv,List.any_eq_true]
    constructor
    · rintro ⟨x,⟨h,_⟩ | h,e⟩
      · exact⟨x,h,by simp [isK,e]⟩
      · exact absurd ((hy x h).symm.trans e).symm hv
    · rintro ⟨x,h,e⟩
      have e':key x=v:=by simpa [isK] using e
      exact⟨x,.inl ⟨h,by rw[e']; exact hv⟩,e'⟩
end
abbrev cK:Us→ByteArray:=Prod.fst
abbrev cW:Tm→ByteArray:=Prod.fst
def ofU (l:List Us) (u:ByteArray):List bS:=((l.find? (isK cK u)).map Prod.snd).getD []
def lY (u:ByteArray) (ys:List bS):List Us:=if ys=[] then [] else [(u,ys)]
def oF (l:List Us) (u:ByteArray) (ys:List bS):List Us:=aAh cK l u (lY u ys)
theorem aAi {u:ByteArray} {ys:List bS}:∀ y∈lY u ys,cK y=u:=by
  intro y hy; unfold lY at hy; split at hy
  · cases hy
  · rw[List.mem_singleton.1 hy]
theorem aFe {u:ByteArray} {ys:List bS}:(lY u ys).length≤1:=by unfold lY; split <;> simp
theorem tF {l:List Us} {u:ByteArray} {ys:List bS} (h:cQ cK l):cQ cK (oF l u ys):=xL h aAi aFe
theorem pS {l:List Us} {u:ByteArray} (h:hP cK l u=false):ofU l u=[]:=by
  rw[hP,List.any_eq_false] at h
  rw[ofU,List.find?_eq_none.2 h]; rfl
theorem xR {l:List Us} (h:cQ cK l) {x:Us} (hx:x∈l):ofU l x.1=x.2:=by
  have:l.find? (isK cK x.1)=some x:=by
    have hs:(l.find? (isK cK x.1)).isSome=true:=List.find?_isSome.2 ⟨x,hx,by simp [isK]⟩
    obtain ⟨y,hy⟩:=Option.isSome_iff_exists.1 hs
    have h1:=List.mem_of_find?_eq_some hy
    have h2:=List.find?_some hy
    simp only[isK,decide_eq_true_eq] at h2
    rw[hy]
    have e:=(tH (u:=x.1) h).2
    have m1:x∈l.filter (isK cK x.1):=List.mem_filter.2 ⟨hx,by simp [isK]⟩
    have m2:y∈l.filter (isK cK x.1):=List.mem_filter.2 ⟨h1,by simp [isK,h2]⟩
    match hl:l.filter (isK cK x.1),m1,m2,e with
    | [z],m1,m2,_=>rw[List.mem_singleton.1 m1,List.mem_singleton.1 m2]
    | z::z'::r,_,_,e=>simp at e
  rw[ofU,this]; rfl
theorem aBx {l:List Us} (h:cQ cK l) {u:ByteArray} (hh:hP cK l u=true):∃ hk:dQ cK l u<l.length,l[dQ cK l u]=(u,ofU l u):=by
  obtain ⟨hk,e,_⟩:=aKr h hh
  have:=xR h (List.getElem_mem hk)
  have e':l[dQ cK l u].1=u:=e
  rw[e'] at this
  exact⟨hk,Prod.ext e' this.symm⟩
theorem aAg {l:List Us} (h:cQ cK l) {u v:ByteArray} {ys:List bS}:ofU (oF l u ys) v=if v=u then ys else ofU l v:=by
  by_cases hh:hP cK (oF l u ys) v=true
  · obtain ⟨hk,e⟩:=aBx (tF h) hh
    have hm:=List.getElem_mem hk
    rw[e,oF,lB] at hm
    by_cases hv:v=u
    · subst hv
      rw[if_pos rfl]
      rcases hm with ⟨_,h2⟩ | hm
      · exact absurd rfl h2
      · unfold lY at hm
        split at hm
        · cases hm
        · have:=(Prod.ext_iff.1 (List.mem_singleton.1 hm)).2
          simpa [oF,lY, *] using this
    · rw[if_neg hv]
      rcases hm with ⟨h1,_⟩ | hm
      · exact(xR h h1).symm
      · exact absurd (aAi _ hm) hv
  · have hf:=Bool.eq_false_iff.2 hh
    rw[pS hf]
    rw[oF,aKq aAi] at hf
    by_cases hv:v=u
    · rw[if_pos hv] at hf ⊢
      unfold lY at hf
      split at hf
      · rename_i e; exact e.symm
      · simp at hf
    · rw[if_neg hv] at hf ⊢
      exact(pS hf).symm
def kR (l:List Us) (u:ByteArray) (x:bS):List Us:=if x.1.2≤x.1.1 then l else oF l u (fZ (ofU l u) x)
def nH (l:List Tm) (u:ByteArray) (t:Int):List Tm:=aAh cW l u [(u,t)]
def eK (s:Sta) (x:bS):Bool:=!(s.opn.any fun e=>decide (e.1.1=x.2.1)&&decide (e.2.2<x.1.2))&&(decide (0≤x.1.1)&&(decide (x.1.2≤s.now)&&(decide (1≤x.2.1)&&(decide (x.2.1≤999)&&(decide (1≤x.2.2)&&decide (x.2.2≤4))))))
def mN (s:Sta) (x:Us):Bool:=!x.2.isEmpty&&(vH x.2&&x.2.all (eK s))
def kP (s:Sta) (e:En):Bool:=decide (0≤e.2.1)&&(decide (e.2.1≤s.now)&&(decide (e.2.2≤s.now)||decide (e.2.2=1099511627776)))
def rO (s:Sta) (x:Tm):Bool:=decide (0≤x.2)&&decide (x.2≤s.now)
def nxK {α:Type} (key:α→ByteArray) (a b:α):Bool:=decide (dN (key a) (key b)<0)
def oU {α:Type} (key:α→ByteArray) (l:List α):Bool:=oC (fun x=>cT (key x)) (nxK key) none l
def gC (s:Sta):Bool:=decide (0≤s.now)&&(decide (s.now<1099511627776)&&(decide (0≤s.hor)&&(decide (s.hor<1099511627776)&&(gI s.opn&&(s.opn.all (fun e=>decide (e.2.2≤s.now))&&(oU cK s.usr&&(s.usr.all (mN s)&&(sG s.sub&&(s.sub.all (kP s)&&(oU cW s.tmb&&s.tmb.all (rO s)))))))))))
theorem aVe {α:Type} {key:α→ByteArray} (l:List α):oU key l=true↔(∀ x∈l,cT (key x)=true)∧cQ key l:=by
  rw[oU,tI (fun a b=>dN (key a) (key b)<0) (fun x y=>by simp [nxK]) (fun x y z _ h1 h2=>gT h1 h2)]
  simp [cQ]
structure RightP (s:Sta):Prop where
  n0:0≤s.now
  n1:s.now<1099511627776
  h0:0≤s.hor
  h1:s.hor<1099511627776
  opn:gI s.opn=true
  late:∀ e∈s.opn,e.2.2≤s.now
  unm:∀ x∈s.usr,cT x.1=true
  usr:cQ cK s.usr
  uok:∀ x∈s.usr,mN s x=true
  sub:sG s.sub=true
  sok:∀ e∈s.sub,kP s e=true
  tnm:∀ x∈s.tmb,cT x.1=true
  tmb:cQ cW s.tmb
  tok:∀ x∈s.tmb,rO s x=true
theorem gZ {s:Sta}:gC s=true↔RightP s:=by
  simp only[gC,Bool.and_eq_true,decide_eq_true_eq,List.all_eq_true,aVe]
  constructor
  · rintro ⟨a,b,c,d,e,f,⟨g,g'⟩,h,i,j,⟨k,k'⟩,l⟩
    exact⟨a,b,c,d,e,f,g,g',h,i,j,k,k',l⟩
  · rintro ⟨a,b,c,d,e,f,g,g',h,i,j,k,k',l⟩
    exact⟨a,b,c,d,e,f,⟨g,g'⟩,h,i,j,⟨k,k'⟩,l⟩
structure Ev where
  kind:Int
  at':Int
  user:ByteArray
  other:ByteArray
  n:Int
  st:Int
  deriving DecidableEq
def evC (e:Ev):List AV:=[.s (.int .i64 e.kind),.s (.int .i64 e.at'),.s (.string e.user),.s (.string e.other),.s (.int .i64 e.n),.s (.int .i64 e.st)]
abbrev bs0:ByteArray:=⟨#[]⟩
def eC (e:Ev):Bool:=decide (1≤e.n)&&(decide (e.n≤999)&&(cT e.user&&decide (e.other=bs0)))
def bT (e:Ev):Bool:=decide (0≤e.at')&&(decide (e.at'<1099511627776)&&(
  if e.kind=1∨e.kind=2 then eC e&&(decide (1≤e.st)&&decide (e.st≤4))
  else if e.kind=3 then eC e&&decide (e.st=0)
  else if e.kind=4∨e.kind=5 then cT e.user&&(cT e.other&&(decide (e.n=0)&&decide (e.st=0)))
  else if e.kind=6 then decide (e.user=bs0)&&(decide (e.other=bs0)&&(decide (e.st=0)&&(decide (0≤e.n)&&decide (e.n<1099511627776))))
  else if e.kind=7 then cT e.user&&(decide (e.other=bs0)&&(decide (e.n=0)&&decide (e.st=0)))
  else false))
def fQ (s:Sta) (u:ByteArray) (t:Int):Sta:=⟨s.now,s.hor,s.opn.filter (fun e=>!jK u e),oF s.usr u [],s.sub.filter (fun e=>!lC u e),nH s.tmb u t⟩
def bP (s:Sta) (e:Ev):Sta×Int :=
  if e.kind=1 then ({ s with opn:=mM s.opn ((e.n,e.user),(e.st,e.at')) },pR s.opn ((e.n,e.user),(e.st,e.at')))
  else if e.kind=2 then ({ s with opn:=mT s.opn e.n e.user e.st e.at',usr:=kR s.usr e.user (stR s.opn e.n e.user e.at') },fR s.opn e.n e.user)
  else if e.kind=3 then ({ s with opn:=mE s.opn e.n e.user,usr:=kR s.usr e.user (stR s.opn e.n e.user e.at') },fR s.opn e.n e.user)
  else if e.kind=4 then ({ s with sub:=if onB s.sub (e.user,e.other)=true then [] else iC s.sub (e.user,e.other) e.at' },if onB s.sub (e.user,e.other)=true then 90 else 0)
  else if e.kind=5 then ({ s with sub:=if onB s.sub (e.user,e.other)=true then kA s.sub (e.user,e.other) e.at' else [] },if onB s.sub (e.user,e.other)=true then 0 else 91)
  else if e.kind=6 then ({ s with hor:=max s.hor e.n },0)
  else (fQ s e.user e.at',0)
def aR (s:Sta) (e:Ev):Sta×Int :=
  if bT e=true then (if e.at'<s.now then (mY,111) else (if (bP s e).2=0 then ({ (bP s e).1 with now:=e.at' },0) else (mY,(bP s e).2))) else (mY,110)
def oX (s:Sta) (l:List Se) (us:List Us):List Us:=l.foldl (fun us e=>kR us e.1.2 (dK e s.now)) us
def dI (s:Sta):Sta:={ s with opn:=[],usr:=oX s s.opn s.usr }
def fS (h:Int) (l:List bS):List bS:=l.filter fun x=>!decide (x.1.2≤h)
def eH (h:Int) (l:List Us):List Us:=l.flatMap fun x=>lY x.1 (fS h x.2)
def cF (s:Sta):Sta:={ s with usr:=eH s.hor s.usr,sub:=s.sub.filter fun e=>!decide (e.2.2≤s.hor) }
def fN (s:Sta) (u:ByteArray) (t:Int):List bS:=(dM s.opn u t).foldl fZ (ofU s.usr u)
def mO (s:Sta) (u:ByteArray):Bool:=hP cW s.tmb u||(hP cK s.usr u||(s.opn.any (jK u)||s.sub.any (lC u)))
def uS (l:List Us):Nat:=(l.map fun x=>x.2.length).sum
def tW (s:Sta):Nat:=s.opn.length+s.sub.length+s.tmb.length+uS s.usr
section
variable {α:Type} {key:α→ByteArray}
def BsI (l:List α) (key:α→ByteArray) (u:ByteArray) (i j:Nat):Prop:=i≤j∧j≤l.length∧(∀ (q:Nat) (hq:q<l.length),q<i→dN (key l[q]) u<0)∧(∀ (q:Nat) (hq:q<l.length),j≤q→¬ dN (key l[q]) u<0)
theorem BsI.start (l:List α) (u:ByteArray):BsI l key u 0 l.length:=⟨Nat.zero_le _,Nat.le_refl _,fun _ _ h=>absurd h (Nat.not_lt_zero _),fun q hq h=>absurd hq (by omega)⟩
theorem BsI.lo {l:List α} {u:ByteArray} {i j m:Nat} (h:BsI l key u i j) (hr:cQ key l) (h1:i≤m) (h2:m<j) (hm:m<l.length) (hc:dN (key l[m]) u<0):BsI l key u (m+1) j:=by
  refine⟨h2,h.2.1,fun q hq hqm=>?_,h.2.2.2⟩
  by_cases e:q=m
  · subst e; exact hc
  · exact gT (List.pairwise_iff_getElem.1 hr q m hq hm (by omega)) hc
theorem BsI.hi {l:List α} {u:ByteArray} {i j m:Nat} (h:BsI l key u i j) (hr:cQ key l) (h1:i≤m) (h2:m<j) (hm:m<l.length) (hc:¬ dN (key l[m]) u<0):BsI l key u i m:=by
  refine⟨h1,by have:=h.2.1; omega,h.2.2.1,fun q hq hqm=>?_⟩
  by_cases e:q=m
  · subst e; exact hc
  · have h3:=List.pairwise_iff_getElem.1 hr m q hm hq (by omega)
    intro h4
    exact hc (gT h3 h4)
theorem BsI.fin {l:List α} {u:ByteArray} {i j:Nat} (h:BsI l key u i j) (hr:cQ key l) (hij:j≤i):dQ key l u=i∧hP key l u=(decide (i<l.length)&&decide (∃ hi:i<l.length,dN (key l[i]) u=0)):=by
  have e:i=j:=by have:=h.1; omega
  subst e
  obtain ⟨_,h1,h2,h3⟩:=h
  have hp:l.filter (loK key u)=l.take i:=by
    conv=>lhs; rw[← List.take_append_drop i l]
    rw[List.filter_append]
    have a:(l.take i).filter (loK key u)=l.take i:=List.filter_eq_self.2 fun x hx=>by
      obtain ⟨q,hq,rfl⟩:=List.getElem_of_mem hx
      rw[List.length_take] at hq
      rw[List.getElem_take]
      simp only[loK,decide_eq_true_eq]
      exact h2 q (by omega) (by omega)
    have b:(l.drop i).filter (loK key u)=[]:=List.filter_eq_nil_iff.2 fun x hx=>by
      obtain ⟨q,hq,rfl⟩:=List.getElem_of_mem hx
      rw[List.length_drop] at hq
      rw[List.getElem_drop]
      simp only[loK,decide_eq_true_eq]
      exact h3 (i+q) (by omega) (by omega)
    rw[a,b,List.append_nil]
  refine⟨by rw[dQ,hp,List.length_take]; omega,?_⟩
  rw[Bool.eq_iff_iff]
  simp only[hP,List.any_eq_true,isK,decide_eq_true_eq,Bool.and_eq_true]
  constructor
  · rintro ⟨x,hx,e⟩
    obtain ⟨q,hq,rfl⟩:=List.getElem_of_mem hx
    have hc:dN (key l[q]) u=0:=(mD _ _).2 e
    have hqi:i≤q:=by
      rcases Nat.lt_or_ge q i with h | h
      · have:=h2 q hq h; omega
      · exact h
    have hil:i<l.length:=by omega
    refine⟨hil,hil,?_⟩
    by_cases e2:q=i
    · subst e2; exact hc
    · exfalso
      have h4:=List.pairwise_iff_getElem.1 hr i q hil hq (by omega)
      have h5:=h3 i hil (Nat.le_refl _)
      have h6:=yE h4 (show dN (key l[q]) u≤0 by omega)
      exact h5 h6
  · rintro ⟨_,hi,e⟩
    exact⟨l[i],List.getElem_mem _,(mD _ _).1 e⟩
theorem BsI.fin_t {l:List α} {u:ByteArray} {i j:Nat} (h:BsI l key u i j) (hr:cQ key l) (hij:j≤i) (hi:i<l.length):hP key l u=(dN (key l[i]) u == 0):=by
  rw[(h.fin hr hij).2,Bool.eq_iff_iff]
  simp only[Bool.and_eq_true,decide_eq_true_eq,beq_iff_eq]
  exact⟨fun⟨_,_,e⟩=>e,fun e=>⟨hi,hi,e⟩⟩
theorem BsI.fin_f {l:List α} {u:ByteArray} {i j:Nat} (h:BsI l key u i j) (hr:cQ key l) (hij:j≤i) (hi:¬ i<l.length):hP key l u=false:=by
  rw[(h.fin hr hij).2]
  simp [hi]
end
theorem mU {l:List Se} {t:Int}:(l.any fun e=>decide (t<e.2.2))=!(l.all fun e=>decide (e.2.2≤t)):=by
  rw[List.not_all_eq_any_not]
  congr 1
  funext e
  rw[Bool.eq_iff_iff]
  simp only[decide_eq_true_eq,Bool.not_eq_true',decide_eq_false_iff_not,Int.not_le]
theorem pN {α:Type} {l:List α} {p:α→Bool}:(l.any fun x=>!p x)=!l.all p:=List.not_all_eq_any_not.symm
def dU (s:Sta) (u:ByteArray) (x:bS):Sta:={ s with usr:=kR s.usr u x }
theorem jA {s:Sta} {u:ByteArray} {x:bS} (h:x.1.2≤x.1.1):dU s u x=s:=by rw[dU,kR,if_pos h]
theorem aS2 {l:List bS} {x:bS} (h:¬ x.1.2≤x.1.1):fZ l x≠[]:=fun e=>by
  have h1:=aGd l x
  rw[fZ,if_neg h] at e
  rw[e] at h1; simp at h1
theorem aS1 {l:List Us} {u:ByteArray} {x:bS} (hr:cQ cK l) (hh:hP cK l u=true) (h:¬ x.1.2≤x.1.1) (hk:dQ cK l u<l.length):l.set (dQ cK l u) (l[dQ cK l u].1,fZ l[dQ cK l u].2 x)=kR l u x:=by
  obtain ⟨_,e⟩:=aBx hr hh
  rw[e,kR,if_neg h,oF,lY,if_neg (aS2 h),aJ2 hr hh]
theorem aWh {x:bS} (h:¬ x.1.2≤x.1.1):fZ [] x=[x]:=by
  rw[fZ,if_neg h]
  have h1:=gN x []
  exact List.perm_singleton.1 h1
theorem aWd {l:List Us} {u:ByteArray} {x:bS} (hr:cQ cK l) (hh:hP cK l u=false) (h:¬ x.1.2≤x.1.1):List.flatten [l.take (dQ cK l u),[(u,[x])],l.drop (dQ cK l u)]=kR l u x:=by
  rw[kR,if_neg h,oF,lY,if_neg (aS2 h),pS hh,aWh h,← aSj hr hh]
  simp
end Go.Abs
set_option linter.unusedVariables false
set_option linter.unusedSimpArgs false
namespace Go.Proofs.YtckjaledibkghaaGreat
open Go Go.Abs
theorem vM {g:Nat} {cap:List AV} (hent:∀ args w,(callFunc g args).run Tryz.prog w=.ok (.enter g args) w) (hcl:cleanL (fun _=>false) cap=true) (p:Tm→Bool) (l:List Tm) (hl:l.length≤9223372036854775807) (hp:∀ x∈l,Den Tryz.prog g (.agg (tmC x)::cap) (·=.s (.bool (p x)))) :Den Tryz.prog 132 [.sl 2 (l.map tmC),.fn g cap]  (·=.s (.int .i64 (oD p l))):=by
 refine aS Tryz.func132 rfl (Nat.le_of_ble_eq_true rfl) (fun w0 A hf=>(aC (fun K1 hK1=>(aB (aE aA 1 rfl (aD (hK1 _ (aC (fun K2 hK2=>(aC (fun K3 hK3=>(aB (aE aA 3 rfl (aD (hK3 _ (aQ ?_))))))))))))))))
 refine bR (ι:=Nat) (fun k=>⟨19,[(0,.sl 2 (l.map tmC)),(1,.fn g cap),(7,.s (.int .i64 ((l.map tmC).length:Nat))),(8,.s (.int .i64 (k:Nat)))],[]⟩) (fun k=>k≤l.length∧∀ (j:Nat) (hj:j<l.length),j<k→p l[j]=false) (fun k=>l.length - k) 0 ?_ ?_ ?_
 · exact⟨by omega,by omega⟩
 · exact cN rfl
 ·
  rintro k hC
  obtain ⟨h1,h2⟩:=hC
  refine aC (fun K4 hK4=>(aB (aE aA 1 rfl (aD (hK4 _ (aC (fun K5 hK5=>(aL rfl (fun hc1=>?_) (fun hc1=>?_)))))))))
  ·
   simp only[bs] at hc1
   refine aM (hK5 _ (aC (fun K6 hK6=>(aQ (aC (fun K7 hK7=>(aB (aE aA 2 rfl (aD (hK7 _ (aC (fun K8 hK8=>(aB (aE aA 3 rfl ?_))))))))))))))
   refine aG rfl (aY rfl rfl gW fT (by first | exact ixm (by omega) | assumption | exact⟨by decide,rfl⟩)) ?_
   refine aE aA 1 rfl (aJ hf rfl (aK rfl rfl hent (by rw[iG,hcl]; rfl) (hp _ (List.getElem_mem _))) ?_)
   refine aD (hK8 _ (aL rfl (fun hc2=>?_) (fun hc2=>?_)))
   ·
    refine aC (fun K9 hK9=>(aB (aE aA 2 rfl (aD (hK9 _ (aI ?_))))))
    refine⟨_,rfl,?_⟩
    refine eQ ?_
    rw[kH (by omega) h2 (by assumption)]
   ·
    refine aM (hK6 _ (aB ?_))
    refine aG rfl (bN rfl rfl (by omega) (by omega)) ?_
    refine aE aA 1 rfl (aD ?_)
    exact⟨k+1,⟨by omega,fun j hj hjk=>by
      by_cases e:j=k
      · subst e; simp_all
      · exact h2 j hj (by omega)⟩,by omega,cN rfl⟩
  ·
   simp only[bs] at hc1
   refine bB (hK2 _ (aC (fun K10 hK10=>(aB (aE aA 1 rfl (aD (hK10 _ (aI ?_))))))))
   refine⟨_,rfl,?_⟩
   refine eQ ?_
   rw[oZ (fun j hj=>h2 j hj (by omega))]
theorem aHk {g:Nat} {cap:List AV} (hent:∀ args w,(callFunc g args).run Tryz.prog w=.ok (.enter g args) w) (hcl:cleanL (fun _=>false) cap=true) (p:Tm→Bool) (l:List Tm) (hl:l.length≤9223372036854775807) (hp:∀ x∈l,Den Tryz.prog g (.agg (tmC x)::cap) (·=.s (.bool (p x)))) :Den Tryz.prog 76 [.sl 2 (l.map tmC),.fn g cap]  (·=.s (.bool (l.any p))):=by
 refine aS Tryz.func76 rfl (Nat.le_of_ble_eq_true rfl) (fun w0 A hf=>(aC (fun K1 hK1=>(aB (aE aA 1 rfl (aD (hK1 _ (aC (fun K2 hK2=>(aB (aE aA 2 rfl (aJ hf rfl (aK rfl rfl aDl (by show (true&&(cleanL (fun _=>false) cap&&true))=true; rw[hcl]; rfl) (vM hent hcl p l hl hp)) ?_))))))))))))
 refine aE aA 2 rfl (aD (hK2 _ (aI ?_)))
 refine⟨_,rfl,?_⟩
 refine aP ?_
 rw[← pU]
theorem aDx {g:Nat} {cap:List AV} (hent:∀ args w,(callFunc g args).run Tryz.prog w=.ok (.enter g args) w) (hcl:cleanL (fun _=>false) cap=true) (hcv:∀ m,convL m cap=cap) (p:Tm→Bool) (l:List Tm) (n:Nat) (hn:n=l.length) (hl:l.length≤9223372036854775807) (hp:∀ x∈l,Den Tryz.prog g (.agg (tmC x)::cap) (·=.s (.bool (p x)))) :DenM Tryz.prog 168 [.own E0 2 0 n,.fn g cap] 2 ((l.map tmC)) (fun r ys=>r=.own E0 2 0 (l.filter fun x=>!p x).length∧ys=((l.filter fun x=>!p x).map tmC)):=by
 subst hn
 have hq0:∀ j,((l.take j).filter fun x=>!p x).length≤j:=fun j=>jT _ l j
 have hq1:∀ j,((l.take j).filter fun x=>!p x).length≤l.length:=fun j=>iU _ l j
 refine iL Tryz.func168 rfl (Nat.le_of_ble_eq_true rfl) (fun w0 x0 A hf=>?_)
 refine aC (fun K1 hK1=>(aB (aG rfl (bQ) (aD (hK1 _ (aC (fun K2 hK2=>(aB (aE aA 2 rfl (aJ hf rfl (uL rfl rfl (by show [AV.conv _ _,AV.fn g (convL _ cap)]=_; rw[hcv,bX (g:=E0) rfl (by simp)]) aDl (vM hent hcl p l hl hp) rfl) ?_))))))))))
 refine aE aA 1 rfl (aD (hK2 _ (aC (fun K3 hK3=>(aC (fun K4 hK4=>(aB (aE aA 2 rfl (aD (hK4 _ (aL rfl (fun hc1=>?_) (fun hc1=>?_))))))))))))
 ·
  simp only[bs] at hc1
  refine aC (fun K5 hK5=>(aB (aE aA 2 rfl (aD (hK5 _ (aI ?_))))))
  have hno:oD p l=-1:=by simpa using hc1
  rcases dS p l with ⟨_,hn⟩ | ⟨k,hk,e,_⟩
  · exact⟨_,.own E0 2 0 l.length,(l.map tmC),Le.refl _,rfl,rfl,by rw[iF p l hn],by rw[iF p l hn]⟩
  · exfalso; omega
 ·
  simp only[bs] at hc1
  refine aM (hK3 _ (aC (fun K6 hK6=>(aC (fun K7 hK7=>(aB ?_))))))
  rcases dS p l with ⟨e0,_⟩ | ⟨k0,hk0,ek0,hpk0,hbef⟩
  · exact absurd e0 (by simpa using hc1)
  have hst:=oN (fun x=>!p x) l k0 hk0 (fun j hj hjk=>by simp [hbef j hj hjk]) (by simp [hpk0])
  rw[ek0]
  refine aE aA 1 rfl ?_
  refine aG rfl (bN rfl rfl (by omega) (by omega)) ?_
  refine aE aA 1 rfl (aD (hK7 _ (aQ (bR (ι:=Nat) (fun j=>⟨42,[(0,.own E0 2 0 l.length),(1,.fn g cap),(5,.s (.int .i64 (((l.take j).filter fun x=>!p x).length:Nat))),(6,.s (.int .i64 (j:Nat)))],[(E0,.buf 2 ((kI (fun x=>!p x) l j).map tmC))]⟩) (fun j=>j≤l.length) (fun j=>l.length - j) (k0+1) ?_ ?_ ?_))))
  · exact hk0
  · rw[hst.1,hst.2]; exact jS ⟨rfl,rfl,rfl,rfl,trivial⟩
  ·
   rintro j hC
   let q:=fun x=>!p x
   have hle:((l.take j).filter q).length≤j:=hq0 j
   have hle2:((l.take j).filter fun x=>!p x).length≤j:=hq0 j
   refine aC (fun K8 hK8=>(aC (fun K9 hK9=>(aB (aE aA 4 rfl (aD (hK9 _ (aL rfl (fun hc2=>?_) (fun hc2=>?_)))))))))
   ·
    simp only[bs] at hc2
    refine aM (hK8 _ (aC (fun K10 hK10=>(aQ (aC (fun K11 hK11=>(aB (aE aA 2 rfl ?_))))))))
    refine aG rfl (cL rfl rfl gW fT (by omega)) ?_
    refine aG rfl (bW rfl aWp fT rfl (uO (c:=2) (k:=j) (enc:=tmC) (by omega) (by rw[fG]; omega) rfl) (cs':=tmC l[j]) (by rw[rM (c:=2) (k:=j) (enc:=tmC) (by omega) (by rw[fG]; omega) rfl,tV q l j j (by omega) hle])) ?_
    refine bV hf rfl wQ rfl fT rfl rfl rfl rfl (lf rfl) (aD (hK11 _ (aC (fun K12 hK12=>(aB (aE aA 2 rfl (aJ hf rfl (aK rfl rfl hent (by rw[iG,hcl]; rfl) (hp _ (List.getElem_mem _))) ?_)))))))
    refine aE aA 1 rfl (aD (hK12 _ (aL rfl (fun hc3=>?_) (fun hc3=>?_))))
    ·
     simp only[bs] at hc3
     refine aC (fun K13 hK13=>(aB (aE aA 3 rfl ?_)))
     refine aG rfl (cL rfl rfl gW fT (by omega)) ?_
     refine aU hf rfl rfl fT rfl rfl (by simp [tmC,AV.cells,AV.one,Value.oneCell',splice]) (by simp [tmC,AV.cells,AV.leaf,Value.oneCell',splice]) (iT (c:=2) (k:=((l.take j).filter fun x=>!p x).length) (enc:=tmC) (v:=l[j]) (by omega) (by rw[fG]; omega) rfl (Nat.le_refl _)) ?_
     refine aD (hK13 _ (aB ?_))
     rw[mR (fun x=>!p x) l j (by omega) (by simp_all)]
     refine aE aA 1 rfl ?_
     refine aG rfl (bN rfl rfl (by omega) (by omega)) ?_
     rw[pV (fun x=>!p x) l j (by omega) (by simp_all)]
     refine aE aA 1 rfl ?_
     refine bK ?_
     refine hK10 _ (aB (aE aA 1 rfl ?_))
     refine aG rfl (bN rfl rfl (by omega) (by omega)) ?_
     refine aE aA 1 rfl (aD ?_)
     exact⟨j+1,(by omega),by omega,cN rfl⟩
    ·
     simp only[bs] at hc3
     rw[mS (fun x=>!p x) l j (by omega) (by simp_all),pW (fun x=>!p x) l j (by omega) (by simp_all)]
     refine aM (hK10 _ (aB (aE aA 1 rfl ?_)))
     refine aG rfl (bN rfl rfl (by omega) (by omega)) ?_
     refine aE aA 1 rfl (aD ?_)
     exact⟨j+1,(by omega),by omega,cN rfl⟩
   ·
    simp only[bs] at hc2
    refine bB (hK6 _ (aC (fun K14 hK14=>(aB (aE aA 2 rfl ?_)))))
    refine aG rfl (fK rfl gW fT rfl rfl (by omega) (by omega)) ?_
    refine zY hf mI wQ (by simp [Value.oneCell']) rfl rfl ?_
    refine aD (hK14 _ (aC (fun K15 hK15=>(aB (aE aA 2 rfl ?_)))))
    refine aG rfl (fK rfl gW fT rfl rfl (by omega) (by omega)) ?_
    refine aE aA 1 rfl (aD (hK15 _ (aI ?_)))
    have hjl:l.length≤j:=by omega
    have he:=rW (fun x=>!p x) l j hjl
    refine⟨_,_,_,Le.refl _,rfl,rfl,?_,?_⟩
    · rw[List.take_of_length_le hjl]; rfl
    · rw[List.take_of_length_le hjl,Nat.zero_add,Int.toNat_natCast,← List.map_take,he]
theorem aEy (l:List Tm) (hl:l.length*24≤140737488355328) :DenO Tryz.prog 116 [.sl 2 (l.map tmC)] 2 (·=(l.map tmC)):=by
 refine gO Tryz.func116 rfl (Nat.le_of_ble_eq_true rfl) (fun w0 A hf=>?_)
 refine aC (fun K1 hK1=>(aB (aG rfl (bQ) (aD (hK1 _ (aC (fun K2 hK2=>(aC (fun K3 hK3=>(aB (aE aA 1 rfl ?_)))))))))))
 refine qX rfl rfl rfl gW (fun b hb1=>?_)
 refine aD (hK3 _ (aL rfl (fun hc2=>?_) (fun hc2=>?_)))
 ·
  have hl0:l=[]:=by simpa using hb1 (by assumption)
  refine aC (fun K4 hK4=>(aB (lD hf 2 rfl rfl rfl (aD (hK4 _ (aI ?_))))))
  exact⟨2,[],by decide,rfl,rfl,by rw[hl0]; rfl⟩
 ·
  refine aM (hK2 _ (aC (fun K5 hK5=>(aB (fU hf rfl rfl rfl mI rfl rfl rfl rfl (l2 rfl) ?_)))))
  refine aE aA 1 rfl (cA hf rfl mI rfl rfl rfl (.inl rfl) rfl rfl (by first | rfl | simp [eV,bU]) (by first | (simp only[maxLen,List.length_map,List.length_append,List.length_cons,List.length_nil]; omega) | (simp [maxLen] <;> omega)) (by first | (simp only[List.length_map,List.length_append,List.length_cons,List.length_nil]; omega) | (simp <;> omega)) ?_)
  refine bO (eR [7] rfl) (aE aA 1 rfl (aD (hK5 _ (aI ?_))))
  refine⟨5,(l.map tmC),by decide,rfl,?_,rfl⟩
  show some (AV.own 5 2 0 (0+(l.map tmC).length))=_
  rw[Nat.zero_add]
theorem aPz (a b:List Tm) (ha:a.length≤9223372036854775807) (hb:b.length≤9223372036854775807) :Den Tryz.prog 89 [.sl 2 (a.map tmC),.sl 2 (b.map tmC)]  (·=.s (.bool (decide (a=b)))):=by
 refine aS Tryz.func89 rfl (Nat.le_of_ble_eq_true rfl) (fun w0 A hf=>(aC (fun K1 hK1=>(aB (aE aA 1 rfl (aD (hK1 _ (aC (fun K2 hK2=>(aC (fun K3 hK3=>(aB (aE aA 5 rfl (aD (hK3 _ (aL rfl (fun hc1=>?_) (fun hc1=>?_)))))))))))))))))
 ·
  simp only[bs] at hc1
  refine aC (fun K4 hK4=>(aB (aE aA 1 rfl (aD (hK4 _ (aI ?_))))))
  refine⟨_,rfl,?_⟩
  refine aP ?_
  rw[nP (by omega)]
 ·
  simp only[bs] at hc1
  refine aM (hK2 _ (aC (fun K5 hK5=>(aC (fun K6 hK6=>(aB (aE aA 3 rfl (aD (hK6 _ (aQ (bR (ι:=Nat) (fun k=>⟨26,[(0,.sl 2 (a.map tmC)),(1,.sl 2 (b.map tmC)),(12,.s (.int .i64 ((a.map tmC).length:Nat))),(13,.s (.int .i64 (k:Nat)))],[]⟩) (fun k=>k≤a.length∧a.take k=b.take k) (fun k=>a.length - k) 0 ?_ ?_ ?_)))))))))))
  · exact⟨Nat.zero_le _,rfl⟩
  · exact cN rfl
  ·
   rintro k hC
   obtain ⟨h1,h2⟩:=hC
   refine aC (fun K7 hK7=>(aB (aE aA 1 rfl (aD (hK7 _ (aC (fun K8 hK8=>(aL rfl (fun hc2=>?_) (fun hc2=>?_)))))))))
   ·
    simp only[bs] at hc2
    refine aM (hK8 _ (aC (fun K9 hK9=>(aQ (aC (fun K10 hK10=>(aB (aE aA 2 rfl (aD (hK10 _ (aC (fun K11 hK11=>(cM hf bE (by kernel_rfl) rfl (aT aA 2 rfl ?_))))))))))))))
    refine bL [(16,_),(17,_)] rfl rfl ⟨⟨rfl,rfl⟩,⟨rfl,rfl⟩,trivial⟩ rfl (aY rfl rfl gW fT (by first | exact ixm (by omega) | assumption | exact⟨by decide,rfl⟩)) ?_
    refine aT aA 3 rfl ?_
    refine bL [(20,_),(21,_)] rfl rfl ⟨⟨rfl,rfl⟩,⟨rfl,rfl⟩,trivial⟩ rfl (aY rfl rfl gW fT (by first | exact ixm (by omega) | assumption | exact⟨by decide,rfl⟩)) ?_
    refine aT aA 1 rfl (bL [(19,_),(23,_)] rfl rfl ⟨⟨rfl,rfl⟩,⟨rfl,rfl⟩,trivial⟩ rfl (sK rfl rfl aWk rfl) ?_)
    rw[tmC_eq]
    refine cP [0,1,12,13,24] rfl rfl rfl (hK11 _ (aL rfl (fun hc3=>?_) (fun hc3=>?_)))
    ·
     simp only[bs] at hc3
     refine aC (fun K12 hK12=>(aB (aE aA 1 rfl (aD (hK12 _ (aI ?_))))))
     refine⟨_,rfl,?_⟩
     refine aP ?_
     rw[lM (by omega) (by omega) (by assumption)]
    ·
     simp only[bs] at hc3
     refine aM (hK9 _ (aB ?_))
     refine aG rfl (bN rfl rfl (by omega) (by omega)) ?_
     refine aE aA 1 rfl (aD ?_)
     exact⟨k+1,⟨by omega,jI (by omega) (by omega) h2 (by assumption)⟩,by omega,cN rfl⟩
   ·
    simp only[bs] at hc2
    refine bB (hK5 _ (aC (fun K13 hK13=>(aB (aE aA 1 rfl (aD (hK13 _ (aI ?_))))))))
    refine⟨_,rfl,?_⟩
    refine aP ?_
    rw[kV (by omega) (by omega) h2]
theorem aHn {g:Nat} {cap:List AV} (hent:∀ args w,(callFunc g args).run Tryz.prog w=.ok (.enter g args) w) (hcl:cleanL (fun _=>false) cap=true) (p:bS→Bool) (l:List bS) (hl:l.length≤9223372036854775807) (hp:∀ x∈l,Den Tryz.prog g (.agg (stC x)::cap) (·=.s (.bool (p x)))) :Den Tryz.prog 65 [.sl 4 (l.map stC),.fn g cap]  (·=.s (.bool (l.any p))):=by
 refine aS Tryz.func65 rfl (Nat.le_of_ble_eq_true rfl) (fun w0 A hf=>(aC (fun K1 hK1=>(aB (aE aA 1 rfl (aD (hK1 _ (aC (fun K2 hK2=>(aB (aE aA 2 rfl (aJ hf rfl (aK rfl rfl aDo (by show (true&&(cleanL (fun _=>false) cap&&true))=true; rw[hcl]; rfl) (vT hent hcl p l hl hp)) ?_))))))))))))
 refine aE aA 2 rfl (aD (hK2 _ (aI ?_)))
 refine⟨_,rfl,?_⟩
 refine aP ?_
 rw[← pU]
theorem yF {g:Nat} {cap:List AV} (hent:∀ args w,(callFunc g args).run Tryz.prog w=.ok (.enter g args) w) (hcl:cleanL (fun _=>false) cap=true) (p:Se→Bool) (l:List Se) (hl:l.length≤9223372036854775807) (hp:∀ x∈l,Den Tryz.prog g (.agg (seC x)::cap) (·=.s (.bool (p x)))) :Den Tryz.prog 61 [.sl 4 (l.map seC),.fn g cap]  (·=.s (.bool (l.any p))):=by
 refine aS Tryz.func61 rfl (Nat.le_of_ble_eq_true rfl) (fun w0 A hf=>(aC (fun K1 hK1=>(aB (aE aA 1 rfl (aD (hK1 _ (aC (fun K2 hK2=>(aB (aE aA 2 rfl (aJ hf rfl (aK rfl rfl xD (by show (true&&(cleanL (fun _=>false) cap&&true))=true; rw[hcl]; rfl) (qY hent hcl p l hl hp)) ?_))))))))))))
 refine aE aA 2 rfl (aD (hK2 _ (aI ?_)))
 refine⟨_,rfl,?_⟩
 refine aP ?_
 rw[← pU]
theorem aIe {g:Nat} {cap:List AV} (hent:∀ args w,(callFunc g args).run Tryz.prog w=.ok (.enter g args) w) (hcl:cleanL (fun _=>false) cap=true) (p:En→Bool) (l:List En) (hl:l.length≤9223372036854775807) (hp:∀ x∈l,Den Tryz.prog g (.agg (enC x)::cap) (·=.s (.bool (p x)))) :Den Tryz.prog 73 [.sl 4 (l.map enC),.fn g cap]  (·=.s (.bool (l.any p))):=by
 refine aS Tryz.func73 rfl (Nat.le_of_ble_eq_true rfl) (fun w0 A hf=>(aC (fun K1 hK1=>(aB (aE aA 1 rfl (aD (hK1 _ (aC (fun K2 hK2=>(aB (aE aA 2 rfl (aJ hf rfl (aK rfl rfl sY (by show (true&&(cleanL (fun _=>false) cap&&true))=true; rw[hcl]; rfl) (oM hent hcl p l hl hp)) ?_))))))))))))
 refine aE aA 2 rfl (aD (hK2 _ (aI ?_)))
 refine⟨_,rfl,?_⟩
 refine aP ?_
 rw[← pU]
end Go.Proofs.YtckjaledibkghaaGreat
set_option linter.unusedVariables false
set_option linter.unusedSimpArgs false
namespace Go.Proofs.YtckjaledibkghaaGreat
open Go Go.Abs
theorem aTx (l:List bS) (hl:l.length*32+32≤140737488355328) :Den Tryz.prog 42 [.sl 4 (l.map stC)]  (·=.sl 4 (l.map stC)):=by
 refine aS Tryz.func42 rfl (Nat.le_of_ble_eq_true rfl) (fun w0 A hf=>(aC (fun K1 hK1=>(aB (aG rfl (bQ) (aD (hK1 _ (aC (fun K2 hK2=>(aB (lD hf 4 rfl rfl rfl (aD (hK2 _ (aC (fun K3 hK3=>(aC (fun K4 hK4=>?_)))))))))))))))))
 refine aB (aE aA 3 rfl (aD (hK4 _ (aQ (bR (ι:=Nat) (fun k=>⟨19,[(3,.own 3 4 0 (l.take k).length),(6,.sl 4 (l.map stC)),(7,.s (.int .i64 ((l.map stC).length:Nat))),(8,.s (.int .i64 (k:Nat)))],[(3,.buf 4 ((l.take k).map stC))]⟩) (fun k=>k≤l.length) (fun k=>l.length - k) 0 ?_ ?_ ?_)))))
 · exact Nat.zero_le _
 · exact cN rfl
 ·
  rintro k hC
  refine aC (fun K5 hK5=>(aB (aE aA 1 rfl (aD (hK5 _ (aC (fun K6 hK6=>(aL rfl (fun hc1=>?_) (fun hc1=>?_)))))))))
  ·
   simp only[bs] at hc1
   refine aM (hK6 _ (aC (fun K7 hK7=>(aQ (aC (fun K8 hK8=>(aB ?_)))))))
   refine aG rfl (aY rfl rfl jE dV (by first | exact ixm (by omega) | assumption | exact⟨by decide,rfl⟩)) ?_
   refine aE aA 1 rfl (bV hf rfl iJ rfl dV rfl rfl rfl rfl (lf rfl) (aD (hK8 _ (aB ?_))))
   have htl:(l.take k).length=k:=by rw[List.length_take]; omega
   refine aE aA 2 rfl (aJ hf rfl (aK rfl rfl aPq rfl (aVq l[k])) (aJ hf rfl (bD iV rfl rfl rfl rfl (l2 rfl)) (cA hf rfl iV rfl rfl rfl (.inl rfl) (by rw[List.length_map]) rfl (by first | rfl | simp [eV,bU]) (by first | (simp only[maxLen,List.length_map,List.length_append,List.length_cons,List.length_nil]; omega) | (simp [maxLen] <;> omega)) (by first | (simp only[List.length_map,List.length_append,List.length_cons,List.length_nil]; omega) | (simp <;> omega)) ?_)))
   refine bO (eR [6,7,8,16] rfl) (aE aA 1 rfl ?_)
   refine bK ?_
   refine hK7 _ (aB ?_)
   refine aG rfl (bN rfl rfl (by omega) (by omega)) ?_
   refine aE aA 1 rfl (aD ?_)
   exact⟨k+1,by omega,by omega,cJ ⟨(by rw[jO l k (by omega)]; rfl),rfl,rfl,rfl,trivial⟩ (by rw[kN l stC k (by omega)]; rfl)⟩
  ·
   simp only[bs] at hc1
   refine bB (hK3 _ (aC (fun K9 hK9=>(aB (aE aA 2 rfl (aD (hK9 _ (aI ?_))))))))
   refine⟨_,rfl,?_⟩
   refine(bX (g:=3) rfl (by rw[List.length_map])).trans ?_
   rw[List.take_of_length_le (by omega)]
theorem aI0 (l:List bS) (hl:l.length*32+32≤140737488355328) :Den Tryz.prog 28 [.sl 4 (l.map stC)]  (·=.sl 4 (l.map stC)):=by
 refine aS Tryz.func28 rfl (Nat.le_of_ble_eq_true rfl) (fun w0 A hf=>(aC (fun K1 hK1=>(aB (aG rfl (bQ) (aD (hK1 _ (aC (fun K2 hK2=>(aB (lD hf 4 rfl rfl rfl (aD (hK2 _ (aC (fun K3 hK3=>(aC (fun K4 hK4=>?_)))))))))))))))))
 refine aB (aE aA 3 rfl (aD (hK4 _ (aQ (bR (ι:=Nat) (fun k=>⟨19,[(3,.own 3 4 0 (l.take k).length),(6,.sl 4 (l.map stC)),(7,.s (.int .i64 ((l.map stC).length:Nat))),(8,.s (.int .i64 (k:Nat)))],[(3,.buf 4 ((l.take k).map stC))]⟩) (fun k=>k≤l.length) (fun k=>l.length - k) 0 ?_ ?_ ?_)))))
 · exact Nat.zero_le _
 · exact cN rfl
 ·
  rintro k hC
  refine aC (fun K5 hK5=>(aB (aE aA 1 rfl (aD (hK5 _ (aC (fun K6 hK6=>(aL rfl (fun hc1=>?_) (fun hc1=>?_)))))))))
  ·
   simp only[bs] at hc1
   refine aM (hK6 _ (aC (fun K7 hK7=>(aQ (aC (fun K8 hK8=>(aB ?_)))))))
   refine aG rfl (aY rfl rfl cH bH (by first | exact ixm (by omega) | assumption | exact⟨by decide,rfl⟩)) ?_
   refine aE aA 1 rfl (bV hf rfl eU rfl bH rfl rfl rfl rfl (lf rfl) (aD (hK8 _ (aB ?_))))
   have htl:(l.take k).length=k:=by rw[List.length_take]; omega
   refine aE aA 2 rfl (aJ hf rfl (aK rfl rfl aQ9 rfl (aVo l[k])) (aJ hf rfl (bD mH rfl rfl rfl rfl (l2 rfl)) (cA hf rfl mH rfl rfl rfl (.inl rfl) (by rw[List.length_map]) rfl (by first | rfl | simp [eV,bU]) (by first | (simp only[maxLen,List.length_map,List.length_append,List.length_cons,List.length_nil]; omega) | (simp [maxLen] <;> omega)) (by first | (simp only[List.length_map,List.length_append,List.length_cons,List.length_nil]; omega) | (simp <;> omega)) ?_)))
   refine bO (eR [6,7,8,16] rfl) (aE aA 1 rfl ?_)
   refine bK ?_
   refine hK7 _ (aB ?_)
   refine aG rfl (bN rfl rfl (by omega) (by omega)) ?_
   refine aE aA 1 rfl (aD ?_)
   exact⟨k+1,by omega,by omega,cJ ⟨(by rw[jO l k (by omega)]; rfl),rfl,rfl,rfl,trivial⟩ (by rw[kN l stC k (by omega)]; rfl)⟩
  ·
   simp only[bs] at hc1
   refine bB (hK3 _ (aC (fun K9 hK9=>(aB (aE aA 2 rfl (aD (hK9 _ (aI ?_))))))))
   refine⟨_,rfl,?_⟩
   refine(bX (g:=3) rfl (by rw[List.length_map])).trans ?_
   rw[List.take_of_length_le (by omega)]
theorem aL4 (l:List bS) (hl:l.length≤9223372036854775807) :Den Tryz.prog 64 [.sl 4 (l.map stC)]  (·=.s (.bool (vH l))):=by
 refine aS Tryz.func64 rfl (Nat.le_of_ble_eq_true rfl) (fun w0 A hf=>(aC (fun K1 hK1=>(aB (aE aA 1 rfl (aD (hK1 _ (aC (fun K2 hK2=>(aC (fun K3 hK3=>(aB (aE aA 3 rfl (aD (hK3 _ (aQ ?_))))))))))))))))
 refine bR (ι:=Nat) (fun k=>⟨30,[(0,.sl 4 (l.map stC)),(5,.sl 4 (l.map stC)),(6,.s (.int .i64 ((l.map stC).length:Nat))),(7,.s (.int .i64 (k:Nat)))],[]⟩) (fun k=>k≤l.length∧vH l=oC okS vD (iK l k) (l.drop k)) (fun k=>l.length - k) 0 ?_ ?_ ?_
 · exact⟨Nat.zero_le _,rfl⟩
 · exact cN rfl
 ·
  rintro k hC
  obtain ⟨h1,h2⟩:=hC
  refine aC (fun K4 hK4=>(aB (aE aA 1 rfl (aD (hK4 _ (aC (fun K5 hK5=>(aL rfl (fun hc1=>?_) (fun hc1=>?_)))))))))
  ·
   simp only[bs] at hc1
   refine aM (hK5 _ (aC (fun K6 hK6=>(aQ (aC (fun K7 hK7=>(aB (aE aA 1 rfl ?_))))))))
   refine aG rfl (aY rfl rfl cH bH (by first | exact ixm (by omega) | assumption | exact⟨by decide,rfl⟩)) ?_
   refine aE aA 1 rfl (aX hf rfl rfl rfl eU (aE aA 1 rfl (aU hf rfl rfl bH rfl rfl (l1 rfl) (l4 rfl) rfl (bO (mB (nee 4) (sl':=[(0,_),(3,_),(4,_),(5,_),(6,_),(7,_)]) (m':=[]) ⟨⟨_,rfl,rfl⟩,⟨_,rfl,rfl⟩,⟨_,rfl,rfl⟩,⟨_,rfl,rfl⟩,⟨_,rfl,rfl⟩,⟨_,rfl,rfl⟩,trivial⟩ rfl) (aD (hK7 _ (aC (fun K8 hK8=>(cM hf bE (by kernel_rfl) rfl (aT aA 2 rfl (aZ [(13,_)] rfl rfl ⟨⟨rfl,rfl⟩,trivial⟩ rfl (aK rfl rfl nZ rfl (tQ l[k].1)) (aT aA 1 rfl (dP 15 false rfl (fun hg2=>?_) (fun hg2=>?_))))))))))))))
   ·
    simp only[bs] at hg2
    refine aT aA 3 rfl (dP 18 true rfl (fun hg3=>?_) (fun hg3=>?_))
    ·
     simp only[bs] at hg3
     refine aT aA 2 rfl ?_
     refine bL [(20,_)] rfl rfl ⟨⟨rfl,rfl⟩,trivial⟩ rfl (fB rfl rfl (by omega) (by omega)) ?_
     refine bL [(19,_),(21,_)] rfl rfl ⟨⟨rfl,rfl⟩,⟨rfl,rfl⟩,trivial⟩ rfl (aY rfl rfl cH bH (iB (k:=k - 1) (by omega) (by omega))) (aT aA 2 rfl (aZ [(23,_),(24,_)] rfl rfl ⟨⟨rfl,rfl⟩,⟨rfl,rfl⟩,trivial⟩ rfl (aK rfl rfl xC rfl (aGl l[k - 1] l[k])) (aT aA 3 rfl (cP [0,5,6,7,28] rfl rfl rfl (hK8 _ (aL rfl (fun hc4=>?_) (fun hc4=>?_)))))))
     ·
      simp only[bs] at hc4
      refine aC (fun K9 hK9=>(aB (aE aA 1 rfl (aD (hK9 _ (aI ?_))))))
      refine⟨_,rfl,?_⟩
      refine aP ?_
      rw[fO h2 (by omega) (by omega) (show vD _ _=false from by simp only[vD,decide_eq_false_iff_not]; omega)]
     ·
      simp only[bs] at hc4
      refine aM (hK6 _ (aB ?_))
      refine aG rfl (bN rfl rfl (by omega) (by omega)) ?_
      refine aE aA 1 rfl (aD ?_)
      exact⟨k+1,⟨by omega,gB h2 (by omega) (show okS l[k]=true from by simp only[okS,decide_eq_true_eq]; omega) (fun h0=>by simp only[vD,decide_eq_true_eq]; omega)⟩,by omega,cN rfl⟩
    ·
     simp only[bs] at hg3
     refine aT aA 10 rfl (cP [0,5,6,7,28] rfl rfl rfl (hK8 _ (bG rfl (aM (hK6 _ (aB ?_))))))
     refine aG rfl (bN rfl rfl (by omega) (by omega)) ?_
     refine aE aA 1 rfl (aD ?_)
     exact⟨k+1,⟨by omega,gB h2 (by omega) (show okS l[k]=true from by simp only[okS,decide_eq_true_eq]; omega) (fun h0=>by simp only[vD,decide_eq_true_eq]; omega)⟩,by omega,cN rfl⟩
   ·
    simp only[bs] at hg2
    refine aT aA 3 rfl (bC rfl rfl ?_)
    refine bC rfl rfl ?_
    refine bC rfl rfl ?_
    refine bC rfl rfl ?_
    refine bC rfl rfl ?_
    refine bC rfl rfl ?_
    refine bC rfl rfl ?_
    refine bC rfl rfl ?_
    refine aT aA 2 rfl (cP [0,5,6,7,28] rfl rfl rfl (hK8 _ (bM rfl (aC (fun K10 hK10=>(aB (aE aA 1 rfl (aD (hK10 _ (aI ?_))))))))))
    refine⟨_,rfl,?_⟩
    refine aP ?_
    rw[fA h2 (by omega) (show okS l[k]=false from by simp only[okS,decide_eq_false_iff_not]; omega)]
  ·
   simp only[bs] at hc1
   refine bB (hK2 _ (aC (fun K11 hK11=>(aB (aE aA 1 rfl (aD (hK11 _ (aI ?_))))))))
   refine⟨_,rfl,?_⟩
   refine aP ?_
   rw[pP h2 (by omega)]
theorem aFq (l:List bS) (hl:l.length≤9223372036854775807) :Den Tryz.prog 102 [.sl 4 (l.map stC)]  (·=.s (.bool (vH l))):=by
 refine aS Tryz.func102 rfl (Nat.le_of_ble_eq_true rfl) (fun w0 A hf=>(aC (fun K1 hK1=>(aB (aE aA 1 rfl (aD (hK1 _ (aC (fun K2 hK2=>(aC (fun K3 hK3=>(aB (aE aA 1 rfl (aD (hK3 _ (aQ ?_))))))))))))))))
 refine bR (ι:=Nat) (fun k=>⟨38,[(0,.sl 4 (l.map stC)),(3,.s (.int .i64 (k:Nat)))],[]⟩) (fun k=>k≤l.length∧vH l=oC okS vD (iK l k) (l.drop k)) (fun k=>l.length - k) 0 ?_ ?_ ?_
 · exact⟨Nat.zero_le _,rfl⟩
 · exact cN rfl
 ·
  rintro k hC
  obtain ⟨h1,h2⟩:=hC
  refine aC (fun K4 hK4=>(aC (fun K5 hK5=>(aB (aE aA 4 rfl (aD (hK5 _ (aL rfl (fun hc1=>?_) (fun hc1=>?_)))))))))
  ·
   simp only[bs] at hc1
   refine aM (hK4 _ (aC (fun K6 hK6=>(aQ (aC (fun K7 hK7=>(cM hf bE (by kernel_rfl) rfl (aT aA 2 rfl ?_))))))))
   refine bL [(10,_),(11,_)] rfl rfl ⟨⟨rfl,rfl⟩,⟨rfl,rfl⟩,trivial⟩ rfl (aY rfl rfl jE dV (by first | exact ixm (by omega) | assumption | exact⟨by decide,rfl⟩)) ?_
   refine aT aA 4 rfl ?_
   refine bL [(15,_),(16,_)] rfl rfl ⟨⟨rfl,rfl⟩,⟨rfl,rfl⟩,trivial⟩ rfl (aY rfl rfl jE dV (by first | exact ixm (by omega) | assumption | exact⟨by decide,rfl⟩)) ?_
   refine aT aA 4 rfl (dP 21 false rfl (fun hg2=>?_) (fun hg2=>?_))
   ·
    simp only[bs] at hg2
    refine aT aA 3 rfl (dP 24 true rfl (fun hg3=>?_) (fun hg3=>?_))
    ·
     simp only[bs] at hg3
     refine aT aA 2 rfl ?_
     refine bL [(26,_)] rfl rfl ⟨⟨rfl,rfl⟩,trivial⟩ rfl (fB rfl rfl (by omega) (by omega)) ?_
     refine bL [(25,_),(27,_)] rfl rfl ⟨⟨rfl,rfl⟩,⟨rfl,rfl⟩,trivial⟩ rfl (aY rfl rfl jE dV (iB (k:=k - 1) (by omega) (by omega))) (aT aA 3 rfl ?_)
     refine bL [(30,_),(31,_)] rfl rfl ⟨⟨rfl,rfl⟩,⟨rfl,rfl⟩,trivial⟩ rfl (aY rfl rfl jE dV (by first | exact ixm (by omega) | assumption | exact⟨by decide,rfl⟩)) ?_
     refine aT aA 1 rfl (aZ [(29,_),(33,_)] rfl rfl ⟨⟨rfl,rfl⟩,⟨rfl,rfl⟩,trivial⟩ rfl (aK rfl rfl aDi rfl (aGt l[k - 1] l[k])) (aT aA 3 rfl (cP [0,3,37] rfl rfl rfl (hK7 _ (aL rfl (fun hc4=>?_) (fun hc4=>?_))))))
     ·
      simp only[bs] at hc4
      refine aC (fun K8 hK8=>(aB (aE aA 1 rfl (aD (hK8 _ (aI ?_))))))
      refine⟨_,rfl,?_⟩
      refine aP ?_
      rw[fO h2 (by omega) (by omega) (show vD _ _=false from by simp only[vD,decide_eq_false_iff_not]; omega)]
     ·
      simp only[bs] at hc4
      refine aM (hK6 _ (aB (aE aA 1 rfl ?_)))
      refine aG rfl (bN rfl rfl (by omega) (by omega)) ?_
      refine aE aA 1 rfl (aD ?_)
      exact⟨k+1,⟨by omega,gB h2 (by omega) (show okS l[k]=true from by simp only[okS,decide_eq_true_eq]; omega) (fun h0=>by simp only[vD,decide_eq_true_eq]; omega)⟩,by omega,cN rfl⟩
    ·
     simp only[bs] at hg3
     refine aT aA 13 rfl (cP [0,3,37] rfl rfl rfl (hK7 _ (bG rfl (aM (hK6 _ (aB (aE aA 1 rfl ?_)))))))
     refine aG rfl (bN rfl rfl (by omega) (by omega)) ?_
     refine aE aA 1 rfl (aD ?_)
     exact⟨k+1,⟨by omega,gB h2 (by omega) (show okS l[k]=true from by simp only[okS,decide_eq_true_eq]; omega) (fun h0=>by simp only[vD,decide_eq_true_eq]; omega)⟩,by omega,cN rfl⟩
   ·
    simp only[bs] at hg2
    refine aT aA 3 rfl (bC rfl rfl ?_)
    refine bC rfl rfl ?_
    refine bC rfl rfl ?_
    refine bC rfl rfl ?_
    refine bC rfl rfl ?_
    refine bC rfl rfl ?_
    refine bC rfl rfl ?_
    refine bC rfl rfl ?_
    refine bC rfl rfl ?_
    refine bC rfl rfl ?_
    refine bC rfl rfl ?_
    refine aT aA 2 rfl (cP [0,3,37] rfl rfl rfl (hK7 _ (bM rfl (aC (fun K9 hK9=>(aB (aE aA 1 rfl (aD (hK9 _ (aI ?_))))))))))
    refine⟨_,rfl,?_⟩
    refine aP ?_
    rw[fA h2 (by omega) (show okS l[k]=false from by simp only[okS,decide_eq_false_iff_not]; omega)]
  ·
   simp only[bs] at hc1
   refine bB (hK2 _ (aC (fun K10 hK10=>(aB (aE aA 1 rfl (aD (hK10 _ (aI ?_))))))))
   refine⟨_,rfl,?_⟩
   refine aP ?_
   rw[pP h2 (by omega)]
theorem aTh (a b:List bS) (ha:a.length≤9223372036854775807) (hb:b.length≤9223372036854775807) :Den Tryz.prog 86 [.sl 4 (a.map stC),.sl 4 (b.map stC)]  (·=.s (.bool (decide (a=b)))):=by
 refine aS Tryz.func86 rfl (Nat.le_of_ble_eq_true rfl) (fun w0 A hf=>(aC (fun K1 hK1=>(aB (aE aA 1 rfl (aD (hK1 _ (aC (fun K2 hK2=>(aB (aE aA 2 rfl (aJ hf rfl (aK rfl rfl aPd rfl (aP4 a b ha hb)) (aE aA 1 rfl (aD (hK2 _ ?_)))))))))))))))
 refine aI ?_
 refine⟨_,rfl,?_⟩
 rfl
theorem aAo (a b:List bS) (ha:a.length≤9223372036854775807) (hb:b.length≤9223372036854775807) :Den Tryz.prog 27 [.sl 4 (a.map stC),.sl 4 (b.map stC)]  (·=.s (.bool (decide (a=b)))):=by
 refine aS Tryz.func27 rfl (Nat.le_of_ble_eq_true rfl) (fun w0 A hf=>(aC (fun K1 hK1=>(aB (aE aA 1 rfl (aD (hK1 _ (aC (fun K2 hK2=>(aC (fun K3 hK3=>(aB (aE aA 5 rfl (aD (hK3 _ (aL rfl (fun hc1=>?_) (fun hc1=>?_)))))))))))))))))
 ·
  simp only[bs] at hc1
  refine aC (fun K4 hK4=>(aB (aE aA 1 rfl (aD (hK4 _ (aI ?_))))))
  refine⟨_,rfl,?_⟩
  refine aP ?_
  rw[nP (by omega)]
 ·
  simp only[bs] at hc1
  refine aM (hK2 _ (aC (fun K5 hK5=>(aC (fun K6 hK6=>(aB (aE aA 1 rfl (aD (hK6 _ (aQ (bR (ι:=Nat) (fun k=>⟨26,[(0,.sl 4 (a.map stC)),(1,.sl 4 (b.map stC)),(5,.s (.int .i64 (k:Nat)))],[]⟩) (fun k=>k≤a.length∧a.take k=b.take k) (fun k=>a.length - k) 0 ?_ ?_ ?_)))))))))))
  · exact⟨Nat.zero_le _,rfl⟩
  · exact cN rfl
  ·
   rintro k hC
   obtain ⟨h1,h2⟩:=hC
   refine aC (fun K7 hK7=>(aC (fun K8 hK8=>(aB (aE aA 4 rfl (aD (hK8 _ (aL rfl (fun hc2=>?_) (fun hc2=>?_)))))))))
   ·
    simp only[bs] at hc2
    refine aM (hK7 _ (aC (fun K9 hK9=>(aQ (aC (fun K10 hK10=>(cM hf bE (by kernel_rfl) rfl (aT aA 2 rfl ?_))))))))
    refine bL [(17,_),(18,_)] rfl rfl ⟨⟨rfl,rfl⟩,⟨rfl,rfl⟩,trivial⟩ rfl (aY rfl rfl jE dV (by first | exact ixm (by omega) | assumption | exact⟨by decide,rfl⟩)) ?_
    refine aT aA 3 rfl ?_
    refine bL [(21,_),(22,_)] rfl rfl ⟨⟨rfl,rfl⟩,⟨rfl,rfl⟩,trivial⟩ rfl (aY rfl rfl jE dV (by first | exact ixm (by omega) | assumption | exact⟨by decide,rfl⟩)) ?_
    refine aT aA 1 rfl (bL [(20,_),(24,_)] rfl rfl ⟨⟨rfl,rfl⟩,⟨rfl,rfl⟩,trivial⟩ rfl (sK rfl rfl aUv rfl) ?_)
    rw[stC_eqF]
    refine cP [0,1,5,25] rfl rfl rfl (hK10 _ (aL rfl (fun hc3=>?_) (fun hc3=>?_)))
    ·
     simp only[bs] at hc3
     refine aC (fun K11 hK11=>(aB (aE aA 1 rfl (aD (hK11 _ (aI ?_))))))
     refine⟨_,rfl,?_⟩
     refine aP ?_
     rw[lM (by omega) (by omega) (by assumption)]
    ·
     simp only[bs] at hc3
     refine aM (hK9 _ (aB (aE aA 1 rfl ?_)))
     refine aG rfl (bN rfl rfl (by omega) (by omega)) ?_
     refine aE aA 1 rfl (aD ?_)
     exact⟨k+1,⟨by omega,jI (by omega) (by omega) h2 (by assumption)⟩,by omega,cN rfl⟩
   ·
    simp only[bs] at hc2
    refine bB (hK5 _ (aC (fun K12 hK12=>(aB (aE aA 1 rfl (aD (hK12 _ (aI ?_))))))))
    refine⟨_,rfl,?_⟩
    refine aP ?_
    rw[kV (by omega) (by omega) h2]
theorem aQ3 (l:List bS) (t:Int) (hl:l.length*32+32≤140737488355328) :Den Tryz.prog 79 [.sl 4 (l.map stC),.s (.int .i64 t)]  (·=.sl 4 ((l.filter (fun s:bS=>!decide (s.1.2≤t))).map stC)):=by
 refine aS Tryz.func79 rfl (Nat.le_of_ble_eq_true rfl) (fun w0 A hf=>(aC (fun K1 hK1=>(aB (aJ hf rfl (cI rfl rfl (lf rfl)) (aG rfl (bQ) (aD (hK1 _ (aC (fun K2 hK2=>(aB (aE aA 1 rfl (iO hf rfl rfl rfl rfl rfl uX rfl (uH l (by omega)) ?_)))))))))))))
 rintro _ rfl
 refine aG rfl (eW rfl) (hZ hf 6 rfl rfl rfl rfl rfl aPg (aD2 aPf rfl (fun _=>rfl) (fun s=>decide (s.1.2≤t)) l _ (by rw[List.length_map]) (by omega) (fun x _=>aNz x t)) ?_)
 rintro r zs ⟨rfl,rfl⟩
 refine aE aA 1 rfl (aD (hK2 _ (aI ?_)))
 refine⟨_,rfl,?_⟩
 exact bX (g:=6) rfl (by rw[List.length_map])
theorem aH8 (l:List bS) (t:Int) (hl:l.length*32+32≤140737488355328) :Den Tryz.prog 82 [.sl 4 (l.map stC),.s (.int .i64 t)]  (·=.sl 4 ((l.filter (fun s:bS=>!decide (s.1.2≤t))).map stC)):=by
 refine aS Tryz.func82 rfl (Nat.le_of_ble_eq_true rfl) (fun w0 A hf=>(aC (fun K1 hK1=>(aB (aG rfl (bQ) (aD (hK1 _ (aC (fun K2 hK2=>(aB (lD hf 4 rfl rfl rfl (aD (hK2 _ (aC (fun K3 hK3=>(aC (fun K4 hK4=>?_)))))))))))))))))
 refine aB (aE aA 1 rfl (aD (hK4 _ (aQ (bR (ι:=Nat×List bS) (fun(⟨k,out⟩:Nat×List bS)=>⟨28,[(0,.sl 4 (l.map stC)),(1,.s (.int .i64 t)),(5,.own 5 4 0 out.length),(6,.s (.int .i64 (k:Nat)))],[(5,.buf 4 (out.map stC))]⟩) (fun(⟨k,out⟩:Nat×List bS)=>k≤l.length∧out=(l.take k).filter (fun s:bS=>!decide (s.1.2≤t))∧out.length≤k) (fun(⟨k,out⟩:Nat×List bS)=>l.length - k) (0,[]) ?_ ?_ ?_)))))
 · exact⟨Nat.zero_le _,rfl,Nat.le_refl _⟩
 · exact cN rfl
 ·
  rintro ⟨k,out⟩ hC
  obtain ⟨h1,h2,h3⟩:=hC
  refine aC (fun K5 hK5=>(aC (fun K6 hK6=>(aB (aE aA 4 rfl (aD (hK6 _ (aL rfl (fun hc1=>?_) (fun hc1=>?_)))))))))
  ·
   simp only[bs] at hc1
   refine aM (hK5 _ (aC (fun K7 hK7=>(aQ (aC (fun K8 hK8=>(aB (aE aA 2 rfl ?_))))))))
   refine aG rfl (aY rfl rfl jE dV (by first | exact ixm (by omega) | assumption | exact⟨by decide,rfl⟩)) ?_
   refine aE aA 4 rfl (aD (hK8 _ (aL rfl (fun hc2=>?_) (fun hc2=>?_))))
   ·
    simp only[bs] at hc2
    refine aB (aE aA 3 rfl ?_)
    refine aG rfl (aY rfl rfl jE dV (by first | exact ixm (by omega) | assumption | exact⟨by decide,rfl⟩)) ?_
    refine aE aA 1 rfl (aJ hf rfl (bD mH rfl rfl rfl rfl (l2 rfl)) (cA hf rfl mH rfl rfl rfl (.inl rfl) (by rw[List.length_map]) rfl (by first | rfl | simp [eV,bU]) (by first | (simp only[maxLen,List.length_map,List.length_append,List.length_cons,List.length_nil]; omega) | (simp [maxLen] <;> omega)) (by first | (simp only[List.length_map,List.length_append,List.length_cons,List.length_nil]; omega) | (simp <;> omega)) ?_))
    refine bO (eR [0,1,6,26] rfl) (aE aA 1 rfl ?_)
    refine bK ?_
    refine hK7 _ (aB (aE aA 1 rfl ?_))
    refine aG rfl (bN rfl rfl (by omega) (by omega)) ?_
    refine aE aA 1 rfl (aD ?_)
    exact⟨(k+1,out++[l[k]]),⟨by omega,by rw[h2,aKx (by omega) (by simp; omega)],by rw[List.length_append]; simp only[List.length_cons,List.length_nil]; omega⟩,by simp only; omega,cJ ⟨rfl,rfl,(by rw[List.length_append]; rfl),rfl,trivial⟩ (by rw[List.map_append]; rfl)⟩
   ·
    simp only[bs] at hc2
    refine aM (hK7 _ (aB (aE aA 1 rfl ?_)))
    refine aG rfl (bN rfl rfl (by omega) (by omega)) ?_
    refine aE aA 1 rfl (aD ?_)
    exact⟨(k+1,out),⟨by omega,by rw[h2,aGh (by omega) (by simp; omega)],by omega⟩,by simp only; omega,cJ ⟨rfl,rfl,rfl,rfl,trivial⟩ rfl⟩
  ·
   simp only[bs] at hc1
   refine bB (hK3 _ (aC (fun K9 hK9=>(aB (aE aA 2 rfl (aD (hK9 _ (aI ?_))))))))
   refine⟨_,rfl,?_⟩
   refine(bX (g:=5) rfl (by rw[List.length_map])).trans ?_
   rw[h2,List.take_of_length_le (by omega)]
end Go.Proofs.YtckjaledibkghaaGreat
set_option linter.unusedVariables false
set_option linter.unusedSimpArgs false
namespace Go.Proofs.YtckjaledibkghaaGreat
open Go Go.Abs
theorem lX (n a b:Int) :Den Tryz.prog 62 [.s (.int .i64 n),.s (.int .i64 a),.s (.int .i64 b)]  (·=.s (.bool (decide (a≤n)&&decide (n≤b)))):=by
 refine aS Tryz.func62 rfl (Nat.le_of_ble_eq_true rfl) (fun w0 A hf=>(aC (fun K1 hK1=>(aB (aE aA 1 rfl (aD (hK1 _ (aC (fun K2 hK2=>(aB (aE aA 4 rfl (aW rfl rfl rfl (fun hg1=>?_) (fun hg1=>?_)))))))))))))
 ·
  simp only[bs] at hg1
  refine aG rfl (gJ rfl) (aE aA 4 rfl (aD (hK2 _ (aI ?_))))
  refine⟨_,rfl,?_⟩
  refine aP ?_
  rw[Bool.eq_iff_iff]
  simp only[Bool.and_eq_true,decide_eq_true_eq,true_iff,Bool.false_eq_true,false_iff]
  omega
 ·
  simp only[bs] at hg1
  refine aE aA 4 rfl (aD (hK2 _ (aI ?_)))
  refine⟨_,rfl,?_⟩
  refine aP ?_
  rw[Bool.eq_iff_iff]
  simp only[Bool.and_eq_true,decide_eq_true_eq,true_iff,Bool.false_eq_true,false_iff]
  omega
theorem lE (n a b:Int) :Den Tryz.prog 105 [.s (.int .i64 n),.s (.int .i64 a),.s (.int .i64 b)]  (·=.s (.bool (decide (a≤n)&&decide (n≤b)))):=by
 refine aS Tryz.func105 rfl (Nat.le_of_ble_eq_true rfl) (fun w0 A hf=>(aC (fun K1 hK1=>(aB (aE aA 1 rfl (aD (hK1 _ (aC (fun K2 hK2=>(aB (aE aA 4 rfl (aW rfl rfl rfl (fun hg1=>?_) (fun hg1=>?_)))))))))))))
 ·
  simp only[bs] at hg1
  refine aG rfl (gJ rfl) (aE aA 4 rfl (aD (hK2 _ (aI ?_))))
  refine⟨_,rfl,?_⟩
  refine aP ?_
  rw[Bool.eq_iff_iff]
  simp only[Bool.and_eq_true,decide_eq_true_eq,true_iff,Bool.false_eq_true,false_iff]
  omega
 ·
  simp only[bs] at hg1
  refine aE aA 4 rfl (aD (hK2 _ (aI ?_)))
  refine⟨_,rfl,?_⟩
  refine aP ?_
  rw[Bool.eq_iff_iff]
  simp only[Bool.and_eq_true,decide_eq_true_eq,true_iff,Bool.false_eq_true,false_iff]
  omega
theorem uV (x:Us) :Den Tryz.prog 70 [.agg (usC x)]  (·=.s (.string x.1)):=by
 refine aS Tryz.func70 rfl (Nat.le_of_ble_eq_true rfl) (fun w0 A hf=>(aC (fun K1 hK1=>(aB (aJ hf rfl (cI rfl rfl (lf rfl)) (aE aA 1 rfl (aD (hK1 _ (aC (fun K2 hK2=>(aB (aE aA 3 rfl (aD (hK2 _ (aI ?_)))))))))))))))
 refine⟨_,rfl,?_⟩
 rfl
theorem uB (x:Tm) :Den Tryz.prog 75 [.agg (tmC x)]  (·=.s (.string x.1)):=by
 refine aS Tryz.func75 rfl (Nat.le_of_ble_eq_true rfl) (fun w0 A hf=>(aC (fun K1 hK1=>(aB (aJ hf rfl (cI rfl rfl (lf rfl)) (aE aA 1 rfl (aD (hK1 _ (aC (fun K2 hK2=>(aB (aE aA 3 rfl (aD (hK2 _ (aI ?_)))))))))))))))
 refine⟨_,rfl,?_⟩
 rfl
theorem aHr (e:Se) (s:Sta) :Den Tryz.prog 58 [.agg (seC e),.adr (aO s)]  (·=.s (.bool (decide (s.now<e.2.2)))):=by
 refine aS Tryz.func58 rfl (Nat.le_of_ble_eq_true rfl) (fun w0 A hf=>(aC (fun K1 hK1=>(aB (aJ hf rfl (cI rfl rfl (lf rfl)) (aE aA 1 rfl (aD (hK1 _ (aC (fun K2 hK2=>(aB (aE aA 6 rfl (aD (hK2 _ (aI ?_)))))))))))))))
 refine⟨_,rfl,?_⟩
 rfl
theorem aHs (e:Se) (x:bS) :Den Tryz.prog 60 [.agg (seC e),.adr (stC x)]  (·=.s (.bool (decide (e.1.1=x.2.1)&&decide (e.2.2<x.1.2)))):=by
 refine aS Tryz.func60 rfl (Nat.le_of_ble_eq_true rfl) (fun w0 A hf=>(aC (fun K1 hK1=>(aB (aJ hf rfl (cI rfl rfl (lf rfl)) (aE aA 1 rfl (aD (hK1 _ (aC (fun K2 hK2=>(aB (aE aA 6 rfl (aW rfl rfl rfl (fun hg1=>?_) (fun hg1=>?_))))))))))))))
 ·
  simp only[bs] at hg1
  refine aG rfl (bF rfl sR qE rfl) ?_
  refine aE aA 7 rfl (aD (hK2 _ (aI ?_)))
  refine⟨_,rfl,?_⟩
  refine aP ?_
  rw[Bool.eq_iff_iff]
  (simp_all[eK,mN,kP,rO]; done)
 ·
  simp only[bs] at hg1
  refine aE aA 7 rfl (aD (hK2 _ (aI ?_)))
  refine⟨_,rfl,?_⟩
  refine aP ?_
  rw[Bool.eq_iff_iff]
  (simp_all[eK,mN,kP,rO]; done)
theorem aJ6 (x:bS) (s:Sta) (hs:s.opn.length≤9223372036854775807) :Den Tryz.prog 59 [.agg (stC x),.adr (aO s)]  (·=.s (.bool (!eK s x))):=by
 refine aS Tryz.func59 rfl (Nat.le_of_ble_eq_true rfl) (fun w0 A hf=>(aC (fun K1 hK1=>(aB (aJ hf rfl (cI rfl rfl (lf rfl)) (aE aA 1 rfl (aD (hK1 _ (aC (fun K2 hK2=>(aB (aG rfl (eW rfl) (aE aA 1 rfl (aD (hK2 _ ?_)))))))))))))))
 refine aC (fun K3 hK3=>(aB (aE aA 3 rfl (aJ hf rfl (aK rfl rfl aG5 rfl (yF aRw rfl (fun e=>decide (e.1.1=x.2.1)&&decide (e.2.2<x.1.2)) s.opn hs (fun e _=>aHs e x))) (aE aA 1 rfl (aW rfl rfl rfl (fun hg1=>?_) (fun hg1=>?_)))))))
 ·
  refine aG rfl (bF rfl sR qE rfl) ?_
  refine aE aA 5 rfl (aW rfl rfl rfl (fun hg2=>?_) (fun hg2=>?_))
  ·
   simp only[bs] at hg2
   refine aG rfl (bF rfl sR qE rfl) ?_
   refine aE aA 7 rfl (aW rfl rfl rfl (fun hg3=>?_) (fun hg3=>?_))
   ·
    simp only[bs] at hg3
    refine aG rfl (bF rfl aN6 bZ rfl) ?_
    refine aE aA 1 rfl (bI rfl rfl rfl (aJ hf rfl (aK rfl rfl pG rfl (lX _ _ _)) (aE aA 3 rfl (aW rfl rfl rfl (fun hg4=>?_) (fun hg4=>?_)))))
    ·
     simp only[bs] at hg4
     refine aG rfl (bF rfl aN5 bZ rfl) ?_
     refine aE aA 1 rfl (bI rfl rfl rfl (aJ hf rfl (aK rfl rfl pG rfl (lX _ _ _)) (aE aA 3 rfl (aD (hK3 _ (aI ?_))))))
     refine⟨_,rfl,?_⟩
     refine aP ?_
     unfold eK
     generalize (s.opn.any fun e=>decide (e.1.1=x.2.1)&&decide (e.2.2<x.1.2))=bb at *
     rw[Bool.eq_iff_iff]
     (simp_all; done)
    ·
     simp only[bs] at hg4
     refine aE aA 5 rfl (aD (hK3 _ (aI ?_)))
     refine⟨_,rfl,?_⟩
     refine aP ?_
     unfold eK
     generalize (s.opn.any fun e=>decide (e.1.1=x.2.1)&&decide (e.2.2<x.1.2))=bb at *
     rw[Bool.eq_iff_iff]
     (simp_all; omega)
   ·
    simp only[bs] at hg3
    refine aE aA 11 rfl (aD (hK3 _ (aI ?_)))
    refine⟨_,rfl,?_⟩
    refine aP ?_
    unfold eK
    generalize (s.opn.any fun e=>decide (e.1.1=x.2.1)&&decide (e.2.2<x.1.2))=bb at *
    rw[Bool.eq_iff_iff]
    (simp_all; done)
  ·
   simp only[bs] at hg2
   refine aE aA 19 rfl (aD (hK3 _ (aI ?_)))
   refine⟨_,rfl,?_⟩
   refine aP ?_
   unfold eK
   generalize (s.opn.any fun e=>decide (e.1.1=x.2.1)&&decide (e.2.2<x.1.2))=bb at *
   rw[Bool.eq_iff_iff]
   (simp_all; done)
 ·
  simp only[bs] at hg1
  refine aE aA 25 rfl (aD (hK3 _ (aI ?_)))
  refine⟨_,rfl,?_⟩
  refine aP ?_
  unfold eK
  generalize (s.opn.any fun e=>decide (e.1.1=x.2.1)&&decide (e.2.2<x.1.2))=bb at *
  rw[Bool.eq_iff_iff]
  (simp_all; done)
theorem aHp (x:Us) (s:Sta) (hs:s.opn.length≤9223372036854775807) (hx:x.2.length≤9223372036854775807) :Den Tryz.prog 63 [.agg (usC x),.adr [.fn 59 [.adr (aO s)]]]  (·=.s (.bool (!mN s x))):=by
 refine aS Tryz.func63 rfl (Nat.le_of_ble_eq_true rfl) (fun w0 A hf=>(aC (fun K1 hK1=>(aB (aJ hf rfl (cI rfl rfl (lf rfl)) (aE aA 1 rfl (aD (hK1 _ (aC (fun K2 hK2=>(aB (aE aA 5 rfl (aW rfl rfl rfl (fun hg1=>?_) (fun hg1=>?_))))))))))))))
 ·
  simp only[bs] at hg1
  refine aG rfl (bF rfl wS sC rfl) ?_
  refine aE aA 1 rfl (bI rfl rfl rfl (aJ hf rfl (aK rfl rfl aRu rfl (aL4 x.2 hx)) (aE aA 3 rfl (aW rfl rfl rfl (fun hg2=>?_) (fun hg2=>?_)))))
  ·
   simp only[bs] at hg2
   refine aG rfl (bF rfl wS sC rfl) ?_
   refine aE aA 2 rfl (bI rfl rfl rfl (aJ hf rfl (aK rfl rfl aRt rfl (aHn aRx rfl (fun y=>!eK s y) x.2 hx (fun y _=>aJ6 y s hs))) (aE aA 2 rfl (aD (hK2 _ (aI ?_))))))
   refine⟨_,rfl,?_⟩
   refine aP ?_
   unfold mN
   have hna:(x.2.any fun y=>!eK s y)=!x.2.all (eK s):=List.not_all_eq_any_not.symm
   simp only[hna] at *
   generalize x.2.all (eK s)=bb at *
   generalize vH x.2=b2 at *
   rw[Bool.eq_iff_iff]
   (simp_all; done)
  ·
   simp only[bs] at hg2
   refine aE aA 5 rfl (aD (hK2 _ (aI ?_)))
   refine⟨_,rfl,?_⟩
   refine aP ?_
   unfold mN
   have hna:(x.2.any fun y=>!eK s y)=!x.2.all (eK s):=List.not_all_eq_any_not.symm
   simp only[hna] at *
   generalize x.2.all (eK s)=bb at *
   generalize vH x.2=b2 at *
   rw[Bool.eq_iff_iff]
   (simp_all; done)
 ·
  simp only[bs] at hg1
  refine aE aA 11 rfl (aD (hK2 _ (aI ?_)))
  refine⟨_,rfl,?_⟩
  refine aP ?_
  unfold mN
  have hna:(x.2.any fun y=>!eK s y)=!x.2.all (eK s):=List.not_all_eq_any_not.symm
  simp only[hna] at *
  generalize x.2.all (eK s)=bb at *
  generalize vH x.2=b2 at *
  rw[Bool.eq_iff_iff]
  (simp_all; done)
theorem aJ5 (e:En) (s:Sta) :Den Tryz.prog 66 [.agg (enC e),.adr (aO s)]  (·=.s (.bool (!kP s e))):=by
 refine aS Tryz.func66 rfl (Nat.le_of_ble_eq_true rfl) (fun w0 A hf=>(aC (fun K1 hK1=>(aB (aJ hf rfl (cI rfl rfl (lf rfl)) (aE aA 1 rfl (aD (hK1 _ (aC (fun K2 hK2=>(aB (aE aA 5 rfl (aJ hf rfl (aK rfl rfl pG rfl (lX _ _ _)) (aE aA 2 rfl (aW rfl rfl rfl (fun hg1=>?_) (fun hg1=>?_))))))))))))))))
 ·
  simp only[bs] at hg1
  refine aG rfl (bF rfl uW qE rfl) ?_
  refine aE aA 6 rfl (aW rfl rfl rfl (fun hg2=>?_) (fun hg2=>?_))
  ·
   simp only[bs] at hg2
   refine aG rfl (bF rfl uW qE rfl) ?_
   refine aE aA 6 rfl (aD (hK2 _ (aI ?_)))
   refine⟨_,rfl,?_⟩
   refine aP ?_
   rw[Bool.eq_iff_iff]
   (simp_all[eK,mN,kP,rO]; done)
  ·
   simp only[bs] at hg2
   refine aE aA 6 rfl (aD (hK2 _ (aI ?_)))
   refine⟨_,rfl,?_⟩
   refine aP ?_
   rw[Bool.eq_iff_iff]
   (simp_all[eK,mN,kP,rO]; done)
 ·
  simp only[bs] at hg1
  refine aE aA 6 rfl (gY rfl rfl rfl ?_)
  refine gY rfl rfl rfl ?_
  refine gY rfl rfl rfl ?_
  refine gY rfl rfl rfl ?_
  refine aE aA 3 rfl (aD (hK2 _ (aI ?_)))
  refine⟨_,rfl,?_⟩
  refine aP ?_
  rw[Bool.eq_iff_iff]
  (simp_all[eK,mN,kP,rO]; omega)
theorem aHq (x:Tm) (s:Sta) :Den Tryz.prog 67 [.agg (tmC x),.adr (aO s)]  (·=.s (.bool (!rO s x))):=by
 refine aS Tryz.func67 rfl (Nat.le_of_ble_eq_true rfl) (fun w0 A hf=>(aC (fun K1 hK1=>(aB (aJ hf rfl (cI rfl rfl (lf rfl)) (aE aA 1 rfl (aD (hK1 _ (aC (fun K2 hK2=>(aB (aE aA 4 rfl (aJ hf rfl (aK rfl rfl pG rfl (lX _ _ _)) (aE aA 2 rfl (aD ?_)))))))))))))))
 refine hK2 _ (aI ?_)
 refine⟨_,rfl,?_⟩
 refine aP ?_
 rw[Bool.eq_iff_iff]
 (simp_all[eK,mN,kP,rO]; done)
theorem aP2 (x y:Us) (hx:x.2.length≤9223372036854775807) (hy:y.2.length≤9223372036854775807) :Den Tryz.prog 85 [.agg (usC x),.agg (usC y)]  (·=.s (.bool (decide (x=y)))):=by
 refine aS Tryz.func85 rfl (Nat.le_of_ble_eq_true rfl) (fun w0 A hf=>(aC (fun K1 hK1=>(aB (aJ hf rfl (cI rfl rfl (lf rfl)) (aJ hf rfl (cI rfl rfl (lf rfl)) (aE aA 1 rfl (aD (hK1 _ (aC (fun K2 hK2=>(aB (aE aA 6 rfl (aW rfl rfl rfl (fun hg1=>?_) (fun hg1=>?_)))))))))))))))
 ·
  simp only[bs] at hg1
  refine aG rfl (bF rfl wS sC rfl) ?_
  refine aE aA 3 rfl (bI rfl rfl rfl (aJ hf rfl (aK rfl rfl aRd rfl (aTh x.2 y.2 hx hy)) (aE aA 2 rfl (aD (hK2 _ (aI ?_))))))
  refine⟨_,rfl,?_⟩
  refine aP ?_
  rw[Bool.eq_iff_iff]
  simp_all[Prod.ext_iff,toList_inj]
 ·
  simp only[bs] at hg1
  refine aE aA 6 rfl (aD (hK2 _ (aI ?_)))
  refine⟨_,rfl,?_⟩
  refine aP ?_
  rw[Bool.eq_iff_iff]
  simp_all[Prod.ext_iff,toList_inj]
end Go.Proofs.YtckjaledibkghaaGreat
set_option linter.unusedVariables false
set_option linter.unusedSimpArgs false
namespace Go.Proofs.YtckjaledibkghaaGreat
open Go Go.Abs
theorem aLl {g:Nat} {cap:List AV} (hent:∀ args w,(callFunc g args).run Tryz.prog w=.ok (.enter g args) w) (hcl:cleanL (fun _=>false) cap=true) (l:List Us) (u:ByteArray) (hl:l.length≤4611686018427387903) (hr:cQ cK l) (hp:∀ x∈l,Den Tryz.prog g (.agg (usC x)::.s (.string u)::cap) (·=.s (.int .i64 (dN x.1 u)))) :Den Tryz.prog 144 [.sl 2 (l.map usC),.s (.string u),.fn g cap]  (·=.tup [.s (.int .i64 (dQ cK l u:Nat)),.s (.bool (hP cK l u))]):=by
 refine aS Tryz.func144 rfl (Nat.le_of_ble_eq_true rfl) (fun w0 A hf=>(aC (fun K1 hK1=>(aB (aE aA 2 rfl (aD (hK1 _ (aC (fun K2 hK2=>(aB (aE aA 3 rfl (aD (hK2 _ (aC (fun K3 hK3=>(aB ?_))))))))))))))))
 refine aE aA 3 rfl (aD (hK3 _ (aC (fun K4 hK4=>(aQ (bR (ι:=Nat×Nat) (fun(⟨i,j⟩:Nat×Nat)=>⟨49,[(0,.sl 2 (l.map usC)),(1,.s (.string u)),(2,.fn g cap),(8,.s (.int .i64 (((l.map usC)).length:Nat))),(9,.s (.int .i64 (i:Nat))),(10,.s (.int .i64 (j:Nat)))],[]⟩) (fun(⟨i,j⟩:Nat×Nat)=>BsI l cK u i j) (fun(⟨i,j⟩:Nat×Nat)=>j - i) (0,l.length) ?_ ?_ ?_))))))
 · exact BsI.start l u
 · exact jS ⟨rfl,rfl,rfl,rfl,rfl,(by rw[List.length_map]; rfl),trivial⟩
 ·
  rintro ⟨i,j⟩ hC
  have hi1:=hC.1
  have hi2:=hC.2.1
  refine aC (fun K5 hK5=>(aC (fun K6 hK6=>(aB (aE aA 3 rfl (aD (hK6 _ (aL rfl (fun hc1=>?_) (fun hc1=>?_)))))))))
  ·
   simp only[bs] at hc1
   refine aM (hK5 _ (aQ (aC (fun K7 hK7=>(aB ?_)))))
   have hz:=aB3 (a:=((i:Nat):Int)+((j:Nat):Int)) (b:=(((i+j) / 2:Nat):Int)) (by omega) (by omega) (by omega)
   have hm1:i≤(i+j) / 2:=by omega
   have hm2:(i+j) / 2<j:=by omega
   have hml:(i+j) / 2<l.length:=by omega
   refine aE aA 2 rfl (aG rfl (bN rfl rfl (by omega) (by omega)) (aG rfl (qG rfl Tryz.underlying3 Tryz.underlying225 hz.1) (aG rfl (aBv rfl hz.2.1 (by decide)) (aG rfl (qG rfl Tryz.underlying225 Tryz.underlying3 hz.2.2) (aE aA 1 rfl (aD (hK7 _ (aC (fun K8 hK8=>(aB (aE aA 3 rfl (aG rfl (aY rfl rfl eF dG (iB (k:=(i+j) / 2) (by omega) (by omega))) (aE aA 2 rfl ?_)))))))))))))
   refine aJ hf rfl (aK rfl rfl hent (by show (true&&(true&&cleanL (fun _=>false) cap))=true; rw[hcl]; rfl) (hp _ (List.getElem_mem hml))) ?_
   refine aE aA 1 rfl (aD (hK8 _ (aL rfl (fun hc2=>?_) (fun hc2=>?_))))
   ·
    simp only[bs] at hc2
    refine aB (aE aA 1 rfl ?_)
    refine aG rfl (bN rfl rfl (by omega) (by omega)) ?_
    refine aE aA 1 rfl ?_
    refine bK ?_
    exact⟨((i+j) / 2+1,j),hC.lo hr hm1 hm2 hml (by show dN l[(i+j) / 2].1 u<0; omega),by simp only; omega,jS ⟨rfl,rfl,rfl,rfl,rfl,rfl,trivial⟩⟩
   ·
    simp only[bs] at hc2
    refine aB (aE aA 2 rfl ?_)
    refine bK ?_
    exact⟨(i,(i+j) / 2),hC.hi hr hm1 hm2 hml (by show ¬ dN l[(i+j) / 2].1 u<0; omega),by simp only; omega,jS ⟨rfl,rfl,rfl,rfl,rfl,rfl,trivial⟩⟩
  ·
   simp only[bs] at hc1
   refine bB (hK4 _ (aC (fun K9 hK9=>(aB (aE aA 5 rfl (aW rfl rfl rfl (fun hg3=>?_) (fun hg3=>?_)))))))
   ·
    simp only[bs] at hg3
    refine aG rfl (gJ rfl) (aE aA 2 rfl (bI rfl rfl rfl ?_))
    refine aG rfl (aY rfl rfl eF dG (by first | exact ixm (by omega) | assumption | exact⟨by decide,rfl⟩)) ?_
    refine aE aA 2 rfl (bI rfl rfl rfl (aJ hf rfl (aK rfl rfl hent (by show (true&&(true&&cleanL (fun _=>false) cap))=true; rw[hcl]; rfl) (hp _ (List.getElem_mem (by omega)))) ?_))
    refine aE aA 4 rfl (aD (hK9 _ (aI ?_)))
    refine⟨_,rfl,?_⟩
    (rw[(hC.fin hr (by omega)).1,hC.fin_t hr (by omega) (show i<l.length by omega)]; rfl)
   ·
    simp only[bs] at hg3
    refine aE aA 10 rfl (aD (hK9 _ (aI ?_)))
    refine⟨_,rfl,?_⟩
    (rw[(hC.fin hr (by omega)).1,hC.fin_f hr (by omega) (by omega)]; rfl)
theorem aLn (x:Us) (u:ByteArray) :Den Tryz.prog 145 [.agg (usC x),.s (.string u),.adr [.fn 70 []]]  (·=.s (.int .i64 (dN x.1 u))):=by
 refine aS Tryz.func145 rfl (Nat.le_of_ble_eq_true rfl) (fun w0 A hf=>(aC (fun K1 hK1=>(aB (aJ hf rfl (cI rfl rfl (lf rfl)) (aE aA 1 rfl (aD (hK1 _ (aC (fun K2 hK2=>(aB (aE aA 2 rfl (aJ hf rfl (aK rfl rfl uZ rfl (uV x)) (aE aA 1 rfl (aJ hf rfl (aK rfl rfl nY rfl (Nm.cmp_den x.1 u)) ?_)))))))))))))))
 refine aE aA 1 rfl (aD (hK2 _ (aI ?_)))
 refine⟨_,rfl,?_⟩
 rfl
theorem yS (l:List Us) (u:ByteArray) (hl:l.length≤4611686018427387903) (hr:cQ cK l) :Den Tryz.prog 91 [.sl 2 (l.map usC),.s (.string u),.fn 70 []]  (·=.tup [.s (.int .i64 (dQ cK l u:Nat)),.s (.bool (hP cK l u))]):=by
 refine aS Tryz.func91 rfl (Nat.le_of_ble_eq_true rfl) (fun w0 A hf=>(aC (fun K1 hK1=>(aB (aJ hf rfl (cI rfl rfl (lf rfl)) (aE aA 2 rfl (aD (hK1 _ (aC (fun K2 hK2=>(aB (aE aA 2 rfl (aG rfl (eW rfl) (aJ hf rfl (aK rfl rfl aPa rfl (aLl aO9 rfl l u hl hr (fun x _=>aLn x u))) (aE aA 4 rfl ?_)))))))))))))))
 refine aD (hK2 _ (aI ?_))
 refine⟨_,rfl,?_⟩
 rfl
theorem aLs {g:Nat} {cap:List AV} (hent:∀ args w,(callFunc g args).run Tryz.prog w=.ok (.enter g args) w) (hcl:cleanL (fun _=>false) cap=true) (l:List Tm) (u:ByteArray) (hl:l.length≤4611686018427387903) (hr:cQ cW l) (hp:∀ x∈l,Den Tryz.prog g (.agg (tmC x)::.s (.string u)::cap) (·=.s (.int .i64 (dN x.1 u)))) :Den Tryz.prog 150 [.sl 2 (l.map tmC),.s (.string u),.fn g cap]  (·=.tup [.s (.int .i64 (dQ cW l u:Nat)),.s (.bool (hP cW l u))]):=by
 refine aS Tryz.func150 rfl (Nat.le_of_ble_eq_true rfl) (fun w0 A hf=>(aC (fun K1 hK1=>(aB (aE aA 2 rfl (aD (hK1 _ (aC (fun K2 hK2=>(aB (aE aA 3 rfl (aD (hK2 _ (aC (fun K3 hK3=>(aB ?_))))))))))))))))
 refine aE aA 3 rfl (aD (hK3 _ (aC (fun K4 hK4=>(aQ (bR (ι:=Nat×Nat) (fun(⟨i,j⟩:Nat×Nat)=>⟨49,[(0,.sl 2 (l.map tmC)),(1,.s (.string u)),(2,.fn g cap),(8,.s (.int .i64 (((l.map tmC)).length:Nat))),(9,.s (.int .i64 (i:Nat))),(10,.s (.int .i64 (j:Nat)))],[]⟩) (fun(⟨i,j⟩:Nat×Nat)=>BsI l cW u i j) (fun(⟨i,j⟩:Nat×Nat)=>j - i) (0,l.length) ?_ ?_ ?_))))))
 · exact BsI.start l u
 · exact jS ⟨rfl,rfl,rfl,rfl,rfl,(by rw[List.length_map]; rfl),trivial⟩
 ·
  rintro ⟨i,j⟩ hC
  have hi1:=hC.1
  have hi2:=hC.2.1
  refine aC (fun K5 hK5=>(aC (fun K6 hK6=>(aB (aE aA 3 rfl (aD (hK6 _ (aL rfl (fun hc1=>?_) (fun hc1=>?_)))))))))
  ·
   simp only[bs] at hc1
   refine aM (hK5 _ (aQ (aC (fun K7 hK7=>(aB ?_)))))
   have hz:=aB3 (a:=((i:Nat):Int)+((j:Nat):Int)) (b:=(((i+j) / 2:Nat):Int)) (by omega) (by omega) (by omega)
   have hm1:i≤(i+j) / 2:=by omega
   have hm2:(i+j) / 2<j:=by omega
   have hml:(i+j) / 2<l.length:=by omega
   refine aE aA 2 rfl (aG rfl (bN rfl rfl (by omega) (by omega)) (aG rfl (qG rfl Tryz.underlying3 Tryz.underlying225 hz.1) (aG rfl (aBv rfl hz.2.1 (by decide)) (aG rfl (qG rfl Tryz.underlying225 Tryz.underlying3 hz.2.2) (aE aA 1 rfl (aD (hK7 _ (aC (fun K8 hK8=>(aB (aE aA 3 rfl (aG rfl (aY rfl rfl gW fT (iB (k:=(i+j) / 2) (by omega) (by omega))) (aE aA 2 rfl ?_)))))))))))))
   refine aJ hf rfl (aK rfl rfl hent (by show (true&&(true&&cleanL (fun _=>false) cap))=true; rw[hcl]; rfl) (hp _ (List.getElem_mem hml))) ?_
   refine aE aA 1 rfl (aD (hK8 _ (aL rfl (fun hc2=>?_) (fun hc2=>?_))))
   ·
    simp only[bs] at hc2
    refine aB (aE aA 1 rfl ?_)
    refine aG rfl (bN rfl rfl (by omega) (by omega)) ?_
    refine aE aA 1 rfl ?_
    refine bK ?_
    exact⟨((i+j) / 2+1,j),hC.lo hr hm1 hm2 hml (by show dN l[(i+j) / 2].1 u<0; omega),by simp only; omega,jS ⟨rfl,rfl,rfl,rfl,rfl,rfl,trivial⟩⟩
   ·
    simp only[bs] at hc2
    refine aB (aE aA 2 rfl ?_)
    refine bK ?_
    exact⟨(i,(i+j) / 2),hC.hi hr hm1 hm2 hml (by show ¬ dN l[(i+j) / 2].1 u<0; omega),by simp only; omega,jS ⟨rfl,rfl,rfl,rfl,rfl,rfl,trivial⟩⟩
  ·
   simp only[bs] at hc1
   refine bB (hK4 _ (aC (fun K9 hK9=>(aB (aE aA 5 rfl (aW rfl rfl rfl (fun hg3=>?_) (fun hg3=>?_)))))))
   ·
    simp only[bs] at hg3
    refine aG rfl (gJ rfl) (aE aA 2 rfl (bI rfl rfl rfl ?_))
    refine aG rfl (aY rfl rfl gW fT (by first | exact ixm (by omega) | assumption | exact⟨by decide,rfl⟩)) ?_
    refine aE aA 2 rfl (bI rfl rfl rfl (aJ hf rfl (aK rfl rfl hent (by show (true&&(true&&cleanL (fun _=>false) cap))=true; rw[hcl]; rfl) (hp _ (List.getElem_mem (by omega)))) ?_))
    refine aE aA 4 rfl (aD (hK9 _ (aI ?_)))
    refine⟨_,rfl,?_⟩
    (rw[(hC.fin hr (by omega)).1,hC.fin_t hr (by omega) (show i<l.length by omega)]; rfl)
   ·
    simp only[bs] at hg3
    refine aE aA 10 rfl (aD (hK9 _ (aI ?_)))
    refine⟨_,rfl,?_⟩
    (rw[(hC.fin hr (by omega)).1,hC.fin_f hr (by omega) (by omega)]; rfl)
theorem aLu (x:Tm) (u:ByteArray) :Den Tryz.prog 151 [.agg (tmC x),.s (.string u),.adr [.fn 75 []]]  (·=.s (.int .i64 (dN x.1 u))):=by
 refine aS Tryz.func151 rfl (Nat.le_of_ble_eq_true rfl) (fun w0 A hf=>(aC (fun K1 hK1=>(aB (aJ hf rfl (cI rfl rfl (lf rfl)) (aE aA 1 rfl (aD (hK1 _ (aC (fun K2 hK2=>(aB (aE aA 2 rfl (aJ hf rfl (aK rfl rfl uY rfl (uB x)) (aE aA 1 rfl (aJ hf rfl (aK rfl rfl nY rfl (Nm.cmp_den x.1 u)) ?_)))))))))))))))
 refine aE aA 1 rfl (aD (hK2 _ (aI ?_)))
 refine⟨_,rfl,?_⟩
 rfl
theorem aEx (l:List Tm) (u:ByteArray) (hl:l.length≤4611686018427387903) (hr:cQ cW l) :Den Tryz.prog 98 [.sl 2 (l.map tmC),.s (.string u),.fn 75 []]  (·=.tup [.s (.int .i64 (dQ cW l u:Nat)),.s (.bool (hP cW l u))]):=by
 refine aS Tryz.func98 rfl (Nat.le_of_ble_eq_true rfl) (fun w0 A hf=>(aC (fun K1 hK1=>(aB (aJ hf rfl (cI rfl rfl (lf rfl)) (aE aA 2 rfl (aD (hK1 _ (aC (fun K2 hK2=>(aB (aE aA 2 rfl (aG rfl (eW rfl) (aJ hf rfl (aK rfl rfl aO7 rfl (aLs aO6 rfl l u hl hr (fun x _=>aLu x u))) (aE aA 4 rfl ?_)))))))))))))))
 refine aD (hK2 _ (aI ?_))
 refine⟨_,rfl,?_⟩
 rfl
end Go.Proofs.YtckjaledibkghaaGreat
set_option linter.unusedVariables false
set_option linter.unusedSimpArgs false
namespace Go.Proofs.YtckjaledibkghaaGreat
open Go Go.Abs
theorem aGx (l:List bS) (s:bS) (hl:l.length*32+32≤140737488355328) :Den Tryz.prog 94 [.sl 4 (l.map stC),.agg (stC s)]  (·=.sl 4 ((fZ l s).map stC)):=by
 refine aS Tryz.func94 rfl (Nat.le_of_ble_eq_true rfl) (fun w0 A hf=>(aC (fun K1 hK1=>(aB (aJ hf rfl (cI rfl rfl (lf rfl)) (aG rfl (bQ) (aD (hK1 _ (aC (fun K2 hK2=>(aC (fun K3 hK3=>(aB (aE aA 2 rfl (aJ hf rfl (aK rfl rfl nZ rfl (tQ s.1)) (aD ?_))))))))))))))))
 refine hK3 _ (aL rfl (fun hc1=>?_) (fun hc1=>?_))
 ·
  simp only[bs] at hc1
  refine aC (fun K4 hK4=>(aB (aE aA 1 rfl (aJ hf rfl (aK rfl rfl uX rfl (dC (uH _ (by omega)))) (aE aA 1 rfl (aD (hK4 _ (aI ?_))))))))
  refine⟨_,rfl,?_⟩
  rw[fZ,if_pos (by assumption)]; rfl
 ·
  simp only[bs] at hc1
  refine aM (hK2 _ (aC (fun K5 hK5=>(aB (aE aA 3 rfl (aD (hK5 _ (aC (fun K6 hK6=>(aQ (bR (ι:=Nat) (fun k=>⟨37,[(0,.sl 4 (l.map stC)),(3,.adr (stC s)),(5,.s (.int .i64 (k:Nat)))],[]⟩) (fun k=>k≤l.length∧∀ (j:Nat) (hj:j<l.length),k≤j→0<iI l[j] s) (fun k=>k) l.length ?_ ?_ ?_)))))))))))
  · exact⟨Nat.le_refl _,by omega⟩
  · exact cJ ⟨rfl,rfl,aV (by rw[List.length_map]),trivial⟩ rfl
  ·
   rintro k hC
   obtain ⟨h1,h2⟩:=hC
   refine aC (fun K7 hK7=>(aC (fun K8 hK8=>(cM hf bE (by kernel_rfl) rfl (aT aA 3 rfl (dP 15 true rfl (fun hg2=>?_) (fun hg2=>?_)))))))
   ·
    simp only[bs] at hg2
    refine aT aA 2 rfl ?_
    refine bL [(17,_)] rfl rfl ⟨⟨rfl,rfl⟩,trivial⟩ rfl (fB rfl rfl (by omega) (by omega)) ?_
    refine bL [(16,_),(18,_)] rfl rfl ⟨⟨rfl,rfl⟩,⟨rfl,rfl⟩,trivial⟩ rfl (aY rfl rfl cH bH (iB (k:=k - 1) (by omega) (by omega))) (aT aA 2 rfl (aZ [(20,_),(21,_)] rfl rfl ⟨⟨rfl,rfl⟩,⟨rfl,rfl⟩,trivial⟩ rfl (aK rfl rfl xC rfl (aGl l[k - 1] s)) (aT aA 2 rfl (cP [0,3,5,24] rfl rfl rfl (hK8 _ (aL rfl (fun hc3=>?_) (fun hc3=>?_)))))))
    ·
     simp only[bs] at hc3
     refine aM (hK7 _ (aQ (aB (aE aA 1 rfl ?_))))
     refine aG rfl (fB rfl rfl (by omega) (by omega)) ?_
     refine aE aA 1 rfl ?_
     refine bK ?_
     exact⟨k - 1,⟨by omega,fun j hj hkj=>by
      by_cases e:j=k - 1
      · subst e; assumption
      · exact h2 j hj (by omega)⟩,by omega,cJ ⟨rfl,rfl,aV (by omega),trivial⟩ rfl⟩
    ·
     simp only[bs] at hc3
     refine bB (hK6 _ (aC (fun K9 hK9=>(cM hf bE (by kernel_rfl) rfl ?_))))
     have hins:=aEl s l k (by omega) h2 (fun h0 h=>by omega)
     refine aT aA 2 rfl (bL [(27,_),(28,_)] rfl rfl ⟨⟨rfl,rfl⟩,⟨rfl,rfl⟩,trivial⟩ rfl (dE rfl cH bH rfl (kE rfl (by omega)) (by omega) (by simp only[List.length_map,Int.toNat_natCast] <;> omega) (jR (k:=k) (by omega))) ?_)
     refine aT aA 1 rfl (aZ [(30,_)] rfl rfl ⟨⟨rfl,rfl⟩,trivial⟩ rfl (bD iV rfl rfl rfl rfl (l2 rfl)) (aT aA 2 rfl (bL [(32,_),(33,_)] rfl rfl ⟨⟨rfl,rfl⟩,⟨rfl,rfl⟩,trivial⟩ rfl (dE rfl cH bH (kE rfl (by omega)) rfl (by simp only[List.length_map,Int.toNat_natCast] <;> omega) (by omega) (gL (k:=k) (by omega))) ?_)))
     refine aZ [(29,_),(31,_),(34,_)] rfl rfl ⟨⟨rfl,rfl⟩,⟨rfl,rfl⟩,⟨rfl,rfl⟩,trivial⟩ rfl (bD aHg rfl rfl rfl rfl (l2 rfl)) (aZ [(35,_)] rfl rfl ⟨⟨rfl,rfl⟩,trivial⟩ rfl (aK rfl rfl aDj rfl ((show Den Tryz.prog _ _ (·=.sl 4 ((l.take k++s::l.drop k).map stC)) from (dC (aCe [l.take k,[s],l.drop k] (by simp) (by simp only[List.flatten_cons,List.flatten_nil,List.length_append,List.length_take,List.length_drop,List.length_cons,List.length_nil]; omega))).mono fun r h=>h.trans (by simp)))) ?_)
     refine aT aA 1 rfl (cP [4] rfl rfl rfl (hK9 _ (aI ?_)))
     refine⟨_,rfl,?_⟩
     rw[fZ,if_neg (by omega),hins]; rfl
   ·
    simp only[bs] at hg2
    refine aT aA 9 rfl (cP [0,3,5,24] rfl rfl rfl (hK8 _ (bG rfl (bB (hK6 _ (aC (fun K10 hK10=>(cM hf bE (by kernel_rfl) rfl ?_))))))))
    have hins:=aEl s l k (by omega) h2 (fun h0 h=>by omega)
    refine aT aA 2 rfl (bL [(27,_),(28,_)] rfl rfl ⟨⟨rfl,rfl⟩,⟨rfl,rfl⟩,trivial⟩ rfl (dE rfl cH bH rfl (kE rfl (by omega)) (by omega) (by simp only[List.length_map,Int.toNat_natCast] <;> omega) (jR (k:=k) (by omega))) ?_)
    refine aT aA 1 rfl (aZ [(30,_)] rfl rfl ⟨⟨rfl,rfl⟩,trivial⟩ rfl (bD iV rfl rfl rfl rfl (l2 rfl)) (aT aA 2 rfl (bL [(32,_),(33,_)] rfl rfl ⟨⟨rfl,rfl⟩,⟨rfl,rfl⟩,trivial⟩ rfl (dE rfl cH bH (kE rfl (by omega)) rfl (by simp only[List.length_map,Int.toNat_natCast] <;> omega) (by omega) (gL (k:=k) (by omega))) ?_)))
    refine aZ [(29,_),(31,_),(34,_)] rfl rfl ⟨⟨rfl,rfl⟩,⟨rfl,rfl⟩,⟨rfl,rfl⟩,trivial⟩ rfl (bD aHg rfl rfl rfl rfl (l2 rfl)) (aZ [(35,_)] rfl rfl ⟨⟨rfl,rfl⟩,trivial⟩ rfl (aK rfl rfl aDj rfl ((show Den Tryz.prog _ _ (·=.sl 4 ((l.take k++s::l.drop k).map stC)) from (dC (aCe [l.take k,[s],l.drop k] (by simp) (by simp only[List.flatten_cons,List.flatten_nil,List.length_append,List.length_take,List.length_drop,List.length_cons,List.length_nil]; omega))).mono fun r h=>h.trans (by simp)))) ?_)
    refine aT aA 1 rfl (cP [4] rfl rfl rfl (hK10 _ (aI ?_)))
    refine⟨_,rfl,?_⟩
    rw[fZ,if_neg (by omega),hins]; rfl
theorem wA (l:List bS) (s:bS) (hl:l.length*32+32≤140737488355328) :Den Tryz.prog 97 [.sl 4 (l.map stC),.agg (stC s)]  (·=.sl 4 ((fZ l s).map stC)):=by
 refine aS Tryz.func97 rfl (Nat.le_of_ble_eq_true rfl) (fun w0 A hf=>(aC (fun K1 hK1=>(aB (aJ hf rfl (cI rfl rfl (lf rfl)) (aG rfl (bQ) (aD (hK1 _ (aC (fun K2 hK2=>(aC (fun K3 hK3=>(aB (aE aA 5 rfl (aD (hK3 _ ?_))))))))))))))))
 refine aL rfl (fun hc1=>?_) (fun hc1=>?_)
 ·
  simp only[bs] at hc1
  refine aC (fun K4 hK4=>(aB (aE aA 2 rfl (aD (hK4 _ (aI ?_))))))
  refine⟨_,rfl,?_⟩
  rw[fZ,if_pos (by assumption)]; rfl
 ·
  simp only[bs] at hc1
  refine aM (hK2 _ (aC (fun K5 hK5=>(aB (aE aA 1 rfl (aD (hK5 _ (aC (fun K6 hK6=>(aC (fun K7 hK7=>(aB (aE aA 1 rfl (aD (hK7 _ ?_)))))))))))))))
  refine aQ (bR (ι:=Nat×Nat) (fun(⟨k,a⟩:Nat×Nat)=>⟨43,[(0,.sl 4 (l.map stC)),(3,.adr (stC s)),(5,.s (.int .i64 (a:Nat))),(6,.s (.int .i64 (k:Nat)))],[]⟩) (fun(⟨k,a⟩:Nat×Nat)=>k≤l.length∧a≤k∧(∀ (j:Nat) (hj:j<l.length),a≤j→j<k→0<iI l[j] s)∧(∀ z,l[a - 1]?=some z→0<a→iI z s≤0)) (fun(⟨k,a⟩:Nat×Nat)=>l.length - k) (0,0) ?_ ?_ ?_)
  · exact⟨Nat.zero_le _,Nat.le_refl _,by omega,by omega⟩
  · exact cN rfl
  ·
   rintro ⟨k,a⟩ hC
   obtain ⟨h1,h2,h3,h4⟩:=hC
   refine aC (fun K8 hK8=>(aC (fun K9 hK9=>(aB (aE aA 4 rfl (aD (hK9 _ (aL rfl (fun hc2=>?_) (fun hc2=>?_)))))))))
   ·
    simp only[bs] at hc2
    refine aM (hK8 _ (aC (fun K10 hK10=>(aQ (aC (fun K11 hK11=>(cM hf bE (by kernel_rfl) rfl (aT aA 3 rfl ?_))))))))
    refine bL [(21,_),(22,_)] rfl rfl ⟨⟨rfl,rfl⟩,⟨rfl,rfl⟩,trivial⟩ rfl (aY rfl rfl jE dV (by first | exact ixm (by omega) | assumption | exact⟨by decide,rfl⟩)) ?_
    refine aT aA 1 rfl (aZ [(20,_),(24,_)] rfl rfl ⟨⟨rfl,rfl⟩,⟨rfl,rfl⟩,trivial⟩ rfl (aK rfl rfl aDi rfl (aGt s l[k])) (aT aA 1 rfl (cP [0,3,5,6,26] rfl rfl rfl (hK11 _ (aL rfl (fun hc3=>?_) (fun hc3=>?_))))))
    ·
     simp only[bs] at hc3
     refine aB (aE aA 1 rfl ?_)
     refine aG rfl (bN rfl rfl (by omega) (by omega)) ?_
     refine aE aA 1 rfl ?_
     refine bK ?_
     refine hK10 _ (aB (aE aA 1 rfl ?_))
     refine aG rfl (bN rfl rfl (by omega) (by omega)) ?_
     refine aE aA 1 rfl (aD ?_)
     exact⟨(k+1,k+1),⟨by omega,Nat.le_refl _,by omega,fun z hz _=>by rw[Nat.add_sub_cancel,List.getElem?_eq_getElem (by omega)] at hz; cases hz; have:=cmpS_tri.swap l[k] s; omega⟩,by simp only; omega,jS ⟨rfl,rfl,rfl,rfl,trivial⟩⟩
    ·
     simp only[bs] at hc3
     refine aM (hK10 _ (aB (aE aA 1 rfl ?_)))
     refine aG rfl (bN rfl rfl (by omega) (by omega)) ?_
     refine aE aA 1 rfl (aD ?_)
     exact⟨(k+1,a),⟨by omega,by omega,fun j hj h5 h6=>by
      by_cases e:j=k
      · subst e; have:=cmpS_tri.swap l[j] s; omega
      · exact h3 j hj h5 (by omega),h4⟩,by simp only; omega,jS ⟨rfl,rfl,rfl,rfl,trivial⟩⟩
   ·
    simp only[bs] at hc2
    refine bB (hK6 _ (aC (fun K12 hK12=>(aB ?_))))
    have hins:=aEl s l a (by omega) (fun j hj h5=>h3 j hj h5 (by omega)) (fun h0 h=>h4 _ (List.getElem?_eq_getElem h) h0)
    refine fU hf rfl rfl rfl mH rfl rfl rfl rfl (l2 rfl) ?_
    refine aE aA 2 rfl (aG rfl (dE rfl jE dV rfl (kE rfl (by omega)) (by omega) (by simp only[List.length_map,Int.toNat_natCast] <;> omega) (jR (k:=a) (by omega))) ?_)
    refine cA hf rfl mH rfl rfl rfl (.inl rfl) (by first | rfl | (simp only[List.length_append,List.length_map,List.length_cons,List.length_nil,List.length_take] <;> omega)) rfl (by first | rfl | simp [eV,bU]) (by first | (simp only[maxLen,List.length_map,List.length_append,List.length_cons,List.length_nil]; omega) | (simp [maxLen] <;> omega)) (by first | (simp only[List.length_map,List.length_append,List.length_cons,List.length_nil]; omega) | (simp <;> omega)) ?_
    refine bO (eR [0,3,5,33] rfl) (aE aA 1 rfl (aD (hK12 _ (aC (fun K13 hK13=>(aB (aE aA 2 rfl (aJ hf rfl (bD mH rfl rfl rfl rfl (l2 rfl)) (cA hf rfl mH rfl rfl rfl (.inl rfl) (by first | rfl | (simp only[List.length_append,List.length_map,List.length_cons,List.length_nil,List.length_take] <;> omega)) rfl (by first | rfl | simp [eV,bU]) (by first | (simp only[maxLen,List.length_map,List.length_append,List.length_cons,List.length_nil]; omega) | (simp [maxLen] <;> omega)) (by first | (simp only[List.length_map,List.length_append,List.length_cons,List.length_nil]; omega) | (simp <;> omega)) ?_)))))))))
    refine bO (eR [0,5,37] rfl) (aE aA 1 rfl (aD (hK13 _ (aC (fun K14 hK14=>(aB (aE aA 3 rfl (aG rfl (dE rfl jE dV (kE rfl (by omega)) rfl (by simp only[List.length_map,Int.toNat_natCast] <;> omega) (by omega) (gL (k:=a) (by omega))) ?_))))))))
    refine cA hf rfl mH rfl rfl rfl (.inl rfl) (by first | rfl | (simp only[List.length_append,List.length_map,List.length_cons,List.length_nil,List.length_take] <;> omega)) rfl (by first | rfl | simp [eV,bU]) (by first | (simp only[maxLen,List.length_map,List.length_append,List.length_cons,List.length_nil]; omega) | (simp [maxLen] <;> omega)) (by first | (simp only[List.length_map,List.length_append,List.length_cons,List.length_nil]; omega) | (simp <;> omega)) ?_
    refine bO (eR [42] rfl) (aE aA 1 rfl (aD (hK14 _ (aI ?_))))
    refine⟨_,rfl,?_⟩
    refine(bX (g:=29) rfl ?_).trans ?_
    · simp only[List.length_append,List.length_map,List.length_cons,List.length_nil,List.length_take]
    · rw[fZ,if_neg (by omega),hins]; first | (simp; done) | (simp; rfl)
end Go.Proofs.YtckjaledibkghaaGreat
set_option linter.unusedVariables false
set_option linter.unusedSimpArgs false
namespace Go.Proofs.YtckjaledibkghaaGreat
open Go Go.Abs
theorem aCd (l:List Se) (u:ByteArray) (t:Int) (hl:l.length*40+40≤140737488355328) :Den Tryz.prog 93 [.sl 4 (l.map seC),.s (.string u),.s (.int .i64 t)]  (·=.sl 4 ((dM l u t).map stC)):=by
 refine aS Tryz.func93 rfl (Nat.le_of_ble_eq_true rfl) (fun w0 A hf=>(aC (fun K1 hK1=>(aB (aG rfl (bQ) (aD (hK1 _ (aC (fun K2 hK2=>(aB (lD hf 4 rfl rfl rfl (aD (hK2 _ (aC (fun K3 hK3=>(aC (fun K4 hK4=>?_)))))))))))))))))
 refine aB (aE aA 3 rfl (aD (hK4 _ (aQ (bR (ι:=Nat×List bS) (fun(⟨k,out⟩:Nat×List bS)=>⟨38,[(1,.s (.string u)),(2,.s (.int .i64 t)),(7,.own 7 4 0 out.length),(11,.sl 4 (l.map seC)),(12,.s (.int .i64 ((l.map seC).length:Nat))),(13,.s (.int .i64 (k:Nat)))],[(7,.buf 4 (out.map stC))]⟩) (fun(⟨k,out⟩:Nat×List bS)=>k≤l.length∧out=gA (l.take k) u t∧out.length≤k) (fun(⟨k,out⟩:Nat×List bS)=>l.length - k) (0,[]) ?_ ?_ ?_)))))
 · exact⟨Nat.zero_le _,rfl,Nat.le_refl _⟩
 · exact cN rfl
 ·
  rintro ⟨k,out⟩ hC
  obtain ⟨h1,h2,h3⟩:=hC
  refine aC (fun K5 hK5=>(aB (aE aA 1 rfl (aD (hK5 _ (aC (fun K6 hK6=>(aL rfl (fun hc1=>?_) (fun hc1=>?_)))))))))
  ·
   simp only[bs,dK] at hc1
   refine aM (hK6 _ (aC (fun K7 hK7=>(aQ (aC (fun K8 hK8=>(aB ?_)))))))
   refine aG rfl (aY rfl rfl eD cY (by first | exact ixm (by omega) | assumption | exact⟨by decide,rfl⟩)) ?_
   refine aE aA 1 rfl (bV hf rfl nW rfl cY rfl rfl rfl rfl (lf rfl) (aD (hK8 _ (aC (fun K9 hK9=>(aB (aE aA 2 rfl (aJ hf rfl (aK rfl rfl wY rfl (yU l[k] t)) (bV hf rfl eU rfl bH rfl rfl rfl rfl (lf rfl) (aD (hK9 _ (aC (fun K10 hK10=>(aB ?_))))))))))))))
   refine aE aA 5 rfl (aW rfl rfl rfl (fun hg2=>?_) (fun hg2=>?_))
   ·
    simp only[bs,dK] at hg2
    refine aG rfl (bF rfl sR qE rfl) ?_
    refine aE aA 1 rfl (bI rfl rfl rfl (aJ hf rfl (aK rfl rfl nZ rfl (tQ (dK l[k] t).1)) (aE aA 2 rfl (aD (hK10 _ (aL rfl (fun hc3=>?_) (fun hc3=>?_)))))))
    ·
     simp only[bs,dK] at hc3
     refine aB (aE aA 2 rfl (aJ hf rfl (bD iV rfl rfl rfl rfl (l2 rfl)) (cA hf rfl iV rfl rfl rfl (.inl rfl) (by rw[List.length_map]) rfl (by first | rfl | simp [eV,bU]) (by first | (simp only[maxLen,List.length_map,List.length_append,List.length_cons,List.length_nil]; omega) | (simp [maxLen] <;> omega)) (by first | (simp only[List.length_map,List.length_append,List.length_cons,List.length_nil]; omega) | (simp <;> omega)) ?_)))
     refine bO (eR [1,2,11,12,13,33] rfl) (aE aA 1 rfl ?_)
     refine bK ?_
     refine hK7 _ (aB ?_)
     refine aG rfl (bN rfl rfl (by omega) (by omega)) ?_
     refine aE aA 1 rfl (aD ?_)
     exact⟨(k+1,out++[dK l[k] t]),⟨by omega,by rw[h2,gA,gA,uC _ _ k (by omega),if_pos ⟨(show jK u l[k]=true from by simp_all[jK,toList_inj]),by first | omega | exact of_decide_eq_false hc3⟩],by rw[List.length_append]; simp only[List.length_cons,List.length_nil]; omega⟩,by simp only; omega,cJ ⟨rfl,rfl,(by first | rfl | (rw[List.length_append]; rfl)),rfl,rfl,rfl,trivial⟩ (by rw[List.map_append]; rfl)⟩
    ·
     simp only[bs,dK] at hc3
     refine aM (hK7 _ (aB ?_))
     refine aG rfl (bN rfl rfl (by omega) (by omega)) ?_
     refine aE aA 1 rfl (aD ?_)
     exact⟨(k+1,out),⟨by omega,by rw[h2,gA,gA,uC _ _ k (by omega),if_neg (by first | exact(fun hh=>(show ¬ jK u l[k]=true from by simp_all[jK,toList_inj]) hh.1) | (rintro ⟨_,hh⟩; exact hh (by first | omega | exact of_decide_eq_true hc3))),List.append_nil],by omega⟩,by simp only; omega,cJ ⟨rfl,rfl,(by first | rfl | (rw[List.length_append]; rfl)),rfl,rfl,rfl,trivial⟩ rfl⟩
   ·
    simp only[bs,dK] at hg2
    refine aE aA 4 rfl (aD (hK10 _ (bG rfl (aM (hK7 _ (aB ?_))))))
    refine aG rfl (bN rfl rfl (by omega) (by omega)) ?_
    refine aE aA 1 rfl (aD ?_)
    exact⟨(k+1,out),⟨by omega,by rw[h2,gA,gA,uC _ _ k (by omega),if_neg (by first | exact(fun hh=>(show ¬ jK u l[k]=true from by simp_all[jK,toList_inj]) hh.1) | (rintro ⟨_,hh⟩; exact hh (by first | omega | exact of_decide_eq_true hc3))),List.append_nil],by omega⟩,by simp only; omega,cJ ⟨rfl,rfl,(by first | rfl | (rw[List.length_append]; rfl)),rfl,rfl,rfl,trivial⟩ rfl⟩
  ·
   simp only[bs,dK] at hc1
   refine bB (hK3 _ (aC (fun K11 hK11=>(aB (aE aA 1 rfl (hZ hf 7 rfl rfl rfl rfl rfl aO8 (aAf xC cmpS_tri (fun x y=>aGl x y) out _ rfl (by omega)) ?_))))))
   rintro r zs ⟨t0,ht1,ht2,rfl⟩
   refine aD (hK11 _ (aC (fun K12 hK12=>(aB (aE aA 2 rfl (aD (hK12 _ (aI ?_))))))))
   refine⟨_,rfl,?_⟩
   refine(bX (g:=7) rfl (by rw[List.length_map,ht1.length_eq])).trans ?_
   rw[dM,aLz ht1 ht2,h2,List.take_of_length_le (by omega)]
theorem aFp (l:List Se) (u:ByteArray) (t:Int) (hl:l.length*40+40≤140737488355328) :Den Tryz.prog 96 [.sl 4 (l.map seC),.s (.string u),.s (.int .i64 t)]  (·=.sl 4 ((dM l u t).map stC)):=by
 refine aS Tryz.func96 rfl (Nat.le_of_ble_eq_true rfl) (fun w0 A hf=>(aC (fun K1 hK1=>(aB (aG rfl (bQ) (aD (hK1 _ (aC (fun K2 hK2=>(aB (aG rfl (rL (k:=4)) (aD (hK2 _ (aC (fun K3 hK3=>(aC (fun K4 hK4=>?_)))))))))))))))))
 refine aB (aE aA 1 rfl (aD (hK4 _ (aQ (bR (ι:=Nat×List bS) (fun(⟨k,out⟩:Nat×List bS)=>⟨31,[(0,.sl 4 (l.map seC)),(1,.s (.string u)),(2,.s (.int .i64 t)),(7,.sl 4 (out.map stC)),(8,.s (.int .i64 (k:Nat)))],[]⟩) (fun(⟨k,out⟩:Nat×List bS)=>k≤l.length∧out=(l.take k).foldl (jQ u t) []∧out.length≤k) (fun(⟨k,out⟩:Nat×List bS)=>l.length - k) (0,[]) ?_ ?_ ?_)))))
 · exact⟨Nat.zero_le _,rfl,Nat.le_refl _⟩
 · exact cN rfl
 ·
  rintro ⟨k,out⟩ hC
  obtain ⟨h1,h2,h3⟩:=hC
  refine aC (fun K5 hK5=>(aC (fun K6 hK6=>(aB (aE aA 4 rfl (aD (hK6 _ (aL rfl (fun hc1=>?_) (fun hc1=>?_)))))))))
  ·
   simp only[bs] at hc1
   refine aM (hK5 _ (aC (fun K7 hK7=>(aQ (aC (fun K8 hK8=>(aB (aE aA 2 rfl ?_))))))))
   refine aG rfl (aY rfl rfl eJ dH (by first | exact ixm (by omega) | assumption | exact⟨by decide,rfl⟩)) ?_
   refine aE aA 4 rfl (aD (hK8 _ (aL rfl (fun hc2=>?_) (fun hc2=>?_))))
   ·
    simp only[bs] at hc2
    refine aB (aE aA 3 rfl ?_)
    refine aG rfl (aY rfl rfl eJ dH (by first | exact ixm (by omega) | assumption | exact⟨by decide,rfl⟩)) ?_
    refine aE aA 2 rfl (aJ hf rfl (aK rfl rfl wX rfl (tA l[k] t)) (aJ hf rfl (aK rfl rfl zO rfl (wA out (dK l[k] t) (by omega))) (aE aA 1 rfl ?_)))
    refine bK ?_
    refine hK7 _ (aB (aE aA 1 rfl ?_))
    refine aG rfl (bN rfl rfl (by omega) (by omega)) ?_
    refine aE aA 1 rfl (aD ?_)
    exact⟨(k+1,fZ out (dK l[k] t)),⟨by omega,by rw[oV l (jQ u t) [] k (by omega),← h2,jQ,if_pos (show jK u l[k]=true from by simp_all[jK,toList_inj])],by have:=tZ out (dK l[k] t); show (fZ out (dK l[k] t)).length≤k+1; omega⟩,by simp only; omega,jS ⟨rfl,rfl,rfl,rfl,rfl,trivial⟩⟩
   ·
    simp only[bs] at hc2
    refine aM (hK7 _ (aB (aE aA 1 rfl ?_)))
    refine aG rfl (bN rfl rfl (by omega) (by omega)) ?_
    refine aE aA 1 rfl (aD ?_)
    exact⟨(k+1,out),⟨by omega,by rw[oV l (jQ u t) [] k (by omega),← h2,jQ,if_neg (show ¬ jK u l[k]=true from by simp_all[jK,toList_inj])],by omega⟩,by simp only; omega,jS ⟨rfl,rfl,rfl,rfl,rfl,trivial⟩⟩
  ·
   simp only[bs] at hc1
   refine bB (hK3 _ (aC (fun K9 hK9=>(aB (aE aA 2 rfl (aD (hK9 _ (aI ?_))))))))
   refine⟨_,rfl,?_⟩
   show AV.sl 4 (out.map stC)=_
   rw[h2,List.take_of_length_le (by omega),aP0]
end Go.Proofs.YtckjaledibkghaaGreat
