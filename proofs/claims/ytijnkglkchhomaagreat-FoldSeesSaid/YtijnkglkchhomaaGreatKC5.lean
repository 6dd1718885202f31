import Derived.WalkKit
import Derived.WalkSpells
import Derived.WalkLawsBesides
import Derived.Deep.LoopGhost
import Derived.ChangeKeysEq
import Derived.Still
import Derived.Lib.AppendZeros
import Derived.Laws.StructEq
import Derived.OpenShut
import Derived.Scope
import Derived.Shelf.SlSortCmp.Kit1
import Derived.Shelf.SlSortCmp.InsertionK
import Derived.Lib.SlicesCompact
import Derived.ProofKit
import Derived.ChangeSame
import Derived.Carry
import Derived.SliceStrings
import Derived.ChangeMaps5
import Derived.Deep.Slices
import Derived.Test.YtijnkglkchhomaaGreatRows
import Derived.Shelf.Abstract
import Derived.Deep.RegionLaw
import Derived.Lib.Walk
import Derived.Lib.Overlaps
import Derived.Lib.AppendZerosOnto
import Derived.Laws.CopyRow
import Derived.Shelf.SlSortCmp.WholeK
import Derived.Shelf.SlSortCmp.Whole1
import Derived.Shelf.SlSortCmp.NoneTotal
import Derived.Test.YtijnkglkchhomaaGreatKC1
import Derived.Test.YtijnkglkchhomaaGreatKC2
import Derived.Test.YtijnkglkchhomaaGreatKC3
import Derived.Test.YtijnkglkchhomaaGreatKC4
set_option maxRecDepth 20000
set_option maxHeartbeats 16000000
set_option linter.unusedVariables false
set_option linter.unusedSimpArgs false
namespace Go.Abs
open Go
theorem aZ {a:ByteArray}:a.toList=[]↔a=bs0:=by
  have:bs0.toList=[]:=by rw[nH]
  rw[← this,toList_inj]
theorem has_not {α:Type} {key:α→ByteArray} {l:List α} {u:ByteArray}:mB key (l.filter fun x=>!isK key u x) u=false:=by
  rw[mB,List.any_eq_false]
  intro x hx
  have:=(List.mem_filter.1 hx).2
  simpa using this
theorem aG5 {l:List Tm} {u:ByteArray} {t:Int} (h:cQ dZ l):(l.filter fun x=>!isK dZ u x).take (dI dZ (l.filter fun x=>!isK dZ u x) u)++(u,t)::(l.filter fun x=>!isK dZ u x).drop (dI dZ (l.filter fun x=>!isK dZ u x) u)=pT l u t:=by
  rw[aOf (key:=dZ) (lH h _) has_not,pT]
  refine rR (key:=dZ) (uA (lH h _) (by simp) (by simp)) (uA h (by simp) (by simp)) fun x=>?_
  rw[lB,lB,List.mem_filter]
  simp only[isK,Bool.not_eq_true',decide_eq_false_iff_not]
  constructor
  · rintro (⟨⟨a,_⟩,b⟩ | a)
    · exact .inl ⟨a,b⟩
    · exact .inr a
  · rintro (⟨a,b⟩ | a)
    · exact .inl ⟨⟨a,b⟩,b⟩
    · exact .inr a
theorem aO4 {l:List Tm} {u:ByteArray} {t:Int} (h:cQ dZ l):((l.filter fun x=>!isK dZ u x).map tmC).take (dI dZ (l.filter fun x=>!isK dZ u x) u)++[.s (.string u),.s (.int .i64 t)]::((l.filter fun x=>!isK dZ u x).map tmC).drop (dI dZ (l.filter fun x=>!isK dZ u x) u)=(pT l u t).map tmC:=by
  rw[← aG5 h]
  simp only[List.map_append,List.map_cons,List.map_take,List.map_drop]; rfl
theorem aQ4 {l:List Tm} {u:ByteArray} {t:Int}:(pT l u t).length≤l.length+1:=by
  have:(pT l u t).length=(l.filter (loK dZ u)).length+((l.filter (hiK dZ u)).length+1):=by simp [pT,vZ]
  have h2:(l.filter (loK dZ u)).length+(l.filter (hiK dZ u)).length≤l.length:=by
    induction l with
    | nil=>simp
    | cons x l ih =>
      simp only[List.filter_cons]
      have:¬ (loK dZ u x=true∧hiK dZ u x=true):=by
        rintro ⟨a,b⟩
        simp only[loK,hiK,decide_eq_true_eq] at a b
        omega
      have ih:=ih (by simp [pT,vZ])
      by_cases a:loK dZ u x=true <;> by_cases b:hiK dZ u x=true <;> simp [a,b] <;> first | omega | exact absurd ⟨a,b⟩ this
  omega
theorem erU {s:Sta} {u:ByteArray} {t:Int} (hr:cQ cR s.usr):(s.usr.filter fun x=>!isK cR u x)=(gH s u t).usr:=by
  show _=nW s.usr u []
  rw[nW,sH,if_pos rfl]
  exact aBl hr u
theorem erUl {s:Sta} {u:ByteArray} {t:Int} (hr:cQ cR s.usr):(s.usr.filter fun x=>!isK cR u x).length=((gH s u t).usr.map usC).length:=by rw[List.length_map,erU hr]
theorem erTl {l:List Tm} {u:ByteArray} {t:Int} (h:cQ dZ l):(l.filter fun x=>!isK dZ u x).length+1=((pT l u t).map tmC).length:=by
  have hp:=wJ (key:=dZ) (l.filter fun x=>!isK dZ u x) u
  rw[← aG5 h,List.length_map,List.length_append,List.length_cons,List.length_take,List.length_drop]
  omega
theorem cT {P:Program} {t:TypeId} {k:IntKind} {a b:Int} (h:a≠b):tH P .eql t (.int k a) (.int k b)=some (.bool false):=by
  simp [tH,yE,h]
theorem aRb {l:List Us} {u:ByteArray} (h:cQ cR l):(nW l u []).length≤l.length:=by
  have e:nW l u []=l.filter fun x=>!isK cR u x:=by rw[nW,sH,if_pos rfl]; exact(aBl h u).symm
  rw[e]; exact List.length_filter_le _ _
theorem erSz {n m:Nat} {s:Sta} {u:ByteArray} {t:Int} (hz:SzS n s) (hr:cQ cR s.usr) (hm:n+24≤m):SzS m (gH s u t):=by
  have h1:=List.length_filter_le (fun e=>!qM u e) s.opn
  have h2:=List.length_filter_le (fun e=>!mQ u e) s.sub
  have h3:=aRb (u:=u) hr
  have h4:=aQ4 (l:=s.tmb) (u:=u) (t:=t)
  have z1:=hz.o
  have z2:=hz.u
  have z3:=hz.b
  have z4:=hz.t
  refine⟨?_,?_,?_,?_,fun x hx=>?_⟩
  · show (s.opn.filter fun e=>!qM u e).length*40≤m
    omega
  · show (nW s.usr u []).length*40≤m
    omega
  · show (s.sub.filter fun e=>!mQ u e).length*48≤m
    omega
  · show (pT s.tmb u t).length*24≤m
    omega
  · have hx':x∈nW s.usr u []:=hx
    rcases lB.1 hx' with ⟨hx',_⟩ | hx'
    · have:=hz.y x hx'; omega
    · unfold sH at hx'; rw[if_pos rfl] at hx'; cases hx'
theorem addSz {n m:Nat} {s:Sta} {u:ByteArray} {x:bP} (hz:SzS n s) (hr:cQ cR s.usr) (hm:n+40≤m):SzS m (dQ s u x):=by
  have z1:=hz.o
  have z2:=hz.u
  have z3:=hz.b
  have z4:=hz.t
  have q:=aSr s.usr u x hr
  refine⟨by show s.opn.length*40≤m; omega,by show (mO s.usr u x).length*40≤m; omega,by show s.sub.length*48≤m; omega,by show s.tmb.length*24≤m; omega,fun y hy=>?_⟩
  have hy':y∈mO s.usr u x:=hy
  unfold mO at hy'
  split at hy'
  · have:=hz.y y hy'; omega
  · rcases lB.1 hy' with ⟨hy',_⟩ | hy'
    · have:=hz.y y hy'; omega
    · unfold sH at hy'
      split at hy'
      · cases hy'
      · rw[List.mem_singleton.1 hy']
        have h1:(ofU s.usr u).length*32≤n:=aAu (p:=fun x=>x.2.length*32≤n) hr hz.y (by simp)
        have h2:=aC5 (ofU s.usr u) x
        show (iC (ofU s.usr u) x).length*32≤m
        omega
theorem aSp {l:List Us} {u:ByteArray} {x:bP} (h:cQ cR l):cQ cR (mO l u x):=by
  unfold mO; split
  · exact h
  · exact sM h
end Go.Abs
set_option linter.unusedVariables false
set_option linter.unusedSimpArgs false
namespace Go.Proofs.YtijnkglkchhomaaGreat
open Go Go.Abs
theorem aHd (s:Sta) (u:ByteArray) (t:Int) (hz:SzS 140737488353280 s) (ho:s.opn.length≤50) (hr:cQ cR s.usr) :Den Tryz.prog 30 [.agg (bU s),.s (.string u),.s (.int .i64 t)]  (·=.sl 4 ((aHc s u t).map stC)):=by
 have z1:=hz.o
 have z2:=hz.u
 have hlm:(s.usr.map usC).length=s.usr.length:=List.length_map _
 have hpl:=wJ (key:=cR) s.usr u
 have hsl:=aO7 s.opn u t
 have hou:(ofU s.usr u).length*32≤140737488353280:=aAu (p:=fun x=>x.2.length*32≤140737488353280) hr hz.y (by simp)
 refine aS Tryz.func30 rfl (Nat.le_of_ble_eq_true rfl) (fun w0 A hf=>(aC (fun K1 hK1=>(aB (aK hf rfl (cL rfl rfl (lf rfl)) (aF rfl (bE) (aD (hK1 _ (aC (fun K2 hK2=>(aB (aF rfl (oZ (k:=4)) (aD (hK2 _ (aC (fun K3 hK3=>?_))))))))))))))))
 refine aC (fun K4 hK4=>(aB (aE aA 3 rfl (aK hf rfl (aR rfl rfl aDe rfl (aA5 s.usr u (by omega) hr)) (aE aA 5 rfl (aD (hK4 _ (aC (fun K5 hK5=>(aB (aE aA 1 rfl (aD (hK5 _ (aI rfl (fun hc1=>?_) (fun hc1=>?_)))))))))))))))
 ·
  obtain ⟨hk0,he⟩:=aB9 hr (show mB cR s.usr u=true by assumption)
  refine aB (aE aA 3 rfl (aF rfl (aW rfl rfl fH eT (hP (k:=dI cR s.usr u) (by omega) hk0)) (aE aA 2 rfl (aK hf rfl (aR rfl rfl vT rfl (cX (vI s.usr[dI cR s.usr u].2 (by rw[he]; show (ofU s.usr u).length*32≤_; omega)))) ?_))))
  refine aE aA 1 rfl (aD (hK3 _ (aC (fun K6 hK6=>(aC (fun K7 hK7=>(aB (aE aA 4 rfl (aK hf rfl (aR rfl rfl aDd rfl (yL s.opn u t (by omega))) (aE aA 2 rfl (aD (hK7 _ (aO (bS (ι:=Nat×List bP) (fun(⟨k,out⟩:Nat×List bP)=>⟨42,[(7,.sl 4 (out.map stC)),(31,.sl 4 ((gQ s.opn u t).map stC)),(32,.s (.int .i64 (((gQ s.opn u t).map stC).length:Nat))),(33,.s (.int .i64 (k:Nat)))],[]⟩) (fun(⟨k,out⟩:Nat×List bP)=>k≤(gQ s.opn u t).length∧out=((gQ s.opn u t).take k).foldl iC (ofU s.usr u)∧out.length≤(ofU s.usr u).length+k) (fun(⟨k,out⟩:Nat×List bP)=>(gQ s.opn u t).length - k) (0,ofU s.usr u) ?_ ?_ ?_))))))))))))))
  · exact⟨Nat.zero_le _,rfl,Nat.le_refl _⟩
  · first | exact kX ⟨(by rw[show (ofU s.usr u)=(s.usr[dI cR s.usr u]).2 from by rw[he]]; rfl),rfl,rfl,rfl,trivial⟩ | exact kX ⟨(by rw[rA hno]; rfl),rfl,rfl,rfl,trivial⟩
  ·
   rintro ⟨k,out⟩ hC
   obtain ⟨h1,h2,h3⟩:=hC
   refine aC (fun K8 hK8=>(aB (aE aA 1 rfl (aD (hK8 _ (aC (fun K9 hK9=>(aI rfl (fun hc2=>?_) (fun hc2=>?_)))))))))
   ·
    simp only[bs] at hc2
    refine aL (hK9 _ (aC (fun K10 hK10=>(aO (aC (fun K11 hK11=>(aB ?_)))))))
    refine aF rfl (aW rfl rfl cG aX (by first | exact ixm (by omega) | assumption | exact⟨by decide,rfl⟩)) ?_
    refine aE aA 1 rfl (cH hf rfl fJ rfl aX rfl rfl rfl rfl (lf rfl) (aD (hK11 _ (aB (aE aA 2 rfl (aK hf rfl (aR rfl rfl vS rfl (aC6 out (gQ s.opn u t)[k] (by omega))) (aE aA 1 rfl ?_)))))))
    refine bB ?_
    refine hK10 _ (aB ?_)
    refine aF rfl (bJ rfl rfl (by omega) (by omega)) ?_
    refine aE aA 1 rfl (aD ?_)
    exact⟨(k+1,iC out (gQ s.opn u t)[k]),⟨by omega,by rw[mS (gQ s.opn u t) iC _ k (by omega),← h2],by have:=aC5 out (gQ s.opn u t)[k]; omega⟩,by simp only; omega,dN rfl⟩
   ·
    simp only[bs] at hc2
    refine bA (hK6 _ (aC (fun K12 hK12=>(aB (aE aA 2 rfl (aD (hK12 _ (aJ ?_))))))))
    refine⟨_,rfl,?_⟩
    show AV.sl 4 (out.map stC)=_
    rw[h2,List.take_of_length_le (by omega)]; rfl
 ·
  have hno:mB cR s.usr u=false:=by simp_all
  refine aL (hK3 _ (aC (fun K13 hK13=>(aC (fun K14 hK14=>(aB (aE aA 4 rfl (aK hf rfl (aR rfl rfl aDd rfl (yL s.opn u t (by omega))) (aE aA 2 rfl (aD (hK14 _ (aO (bS (ι:=Nat×List bP) (fun(⟨k,out⟩:Nat×List bP)=>⟨42,[(7,.sl 4 (out.map stC)),(31,.sl 4 ((gQ s.opn u t).map stC)),(32,.s (.int .i64 (((gQ s.opn u t).map stC).length:Nat))),(33,.s (.int .i64 (k:Nat)))],[]⟩) (fun(⟨k,out⟩:Nat×List bP)=>k≤(gQ s.opn u t).length∧out=((gQ s.opn u t).take k).foldl iC (ofU s.usr u)∧out.length≤(ofU s.usr u).length+k) (fun(⟨k,out⟩:Nat×List bP)=>(gQ s.opn u t).length - k) (0,ofU s.usr u) ?_ ?_ ?_)))))))))))))
  · exact⟨Nat.zero_le _,rfl,Nat.le_refl _⟩
  · first | exact kX ⟨(by rw[show (ofU s.usr u)=(s.usr[dI cR s.usr u]).2 from by rw[he]]; rfl),rfl,rfl,rfl,trivial⟩ | exact kX ⟨(by rw[rA hno]; rfl),rfl,rfl,rfl,trivial⟩
  ·
   rintro ⟨k,out⟩ hC
   obtain ⟨h1,h2,h3⟩:=hC
   refine aC (fun K15 hK15=>(aB (aE aA 1 rfl (aD (hK15 _ (aC (fun K16 hK16=>(aI rfl (fun hc3=>?_) (fun hc3=>?_)))))))))
   ·
    simp only[bs] at hc3
    refine aL (hK16 _ (aC (fun K17 hK17=>(aO (aC (fun K18 hK18=>(aB ?_)))))))
    refine aF rfl (aW rfl rfl cG aX (by first | exact ixm (by omega) | assumption | exact⟨by decide,rfl⟩)) ?_
    refine aE aA 1 rfl (cH hf rfl fJ rfl aX rfl rfl rfl rfl (lf rfl) (aD (hK18 _ (aB (aE aA 2 rfl (aK hf rfl (aR rfl rfl vS rfl (aC6 out (gQ s.opn u t)[k] (by omega))) (aE aA 1 rfl ?_)))))))
    refine bB ?_
    refine hK17 _ (aB ?_)
    refine aF rfl (bJ rfl rfl (by omega) (by omega)) ?_
    refine aE aA 1 rfl (aD ?_)
    exact⟨(k+1,iC out (gQ s.opn u t)[k]),⟨by omega,by rw[mS (gQ s.opn u t) iC _ k (by omega),← h2],by have:=aC5 out (gQ s.opn u t)[k]; omega⟩,by simp only; omega,dN rfl⟩
   ·
    simp only[bs] at hc3
    refine bA (hK13 _ (aC (fun K19 hK19=>(aB (aE aA 2 rfl (aD (hK19 _ (aJ ?_))))))))
    refine⟨_,rfl,?_⟩
    show AV.sl 4 (out.map stC)=_
    rw[h2,List.take_of_length_le (by omega)]; rfl
end Go.Proofs.YtijnkglkchhomaaGreat
set_option linter.unusedVariables false
set_option linter.unusedSimpArgs false
namespace Go.Proofs.YtijnkglkchhomaaGreat
open Go Go.Abs
theorem aJf (x:Us) (u:ByteArray) :Den Tryz.prog 206 [.agg (usC x),.adr [.s (.string u)]]  (·=.s (.bool (isK cR u x))):=by
 refine aS Tryz.func206 rfl (Nat.le_of_ble_eq_true rfl) (fun w0 A hf=>(aC (fun K1 hK1=>(aB (aK hf rfl (cL rfl rfl (lf rfl)) (aE aA 1 rfl (aD (hK1 _ (aC (fun K2 hK2=>(aB (aE aA 5 rfl (aD (hK2 _ (aJ ?_)))))))))))))))
 refine⟨_,rfl,?_⟩
 refine aV ?_
 rw[Bool.eq_iff_iff]
 simp [isK,toList_inj]
theorem aJe (x:Tm) (u:ByteArray) :Den Tryz.prog 208 [.agg (tmC x),.adr [.s (.string u)]]  (·=.s (.bool (isK dZ u x))):=by
 refine aS Tryz.func208 rfl (Nat.le_of_ble_eq_true rfl) (fun w0 A hf=>(aC (fun K1 hK1=>(aB (aK hf rfl (cL rfl rfl (lf rfl)) (aE aA 1 rfl (aD (hK1 _ (aC (fun K2 hK2=>(aB (aE aA 5 rfl (aD (hK2 _ (aJ ?_)))))))))))))))
 refine⟨_,rfl,?_⟩
 refine aV ?_
 rw[Bool.eq_iff_iff]
 simp [isK,toList_inj]
theorem aE6 (g k off n:Nat):AV.fromE g (.own E0 k off n)=.own g k off n:=by simp [AV.fromE]
theorem lN (s:Sta):(AV.agg (eK s E0 E1)).ren [(E0,G0),(E1,G1)]=.agg (eK s G0 G1):=rfl
theorem aMy (s:Sta) (u:ByteArray) (t:Int) (hz:SzS 140737488355200 s) (hr:cQ cR s.usr) (hr2:cQ dZ s.tmb) :DenX Tryz.prog 159 [.agg (eK s E0 E1),.s (.string u),.s (.int .i64 t)] [(E0,.buf 2 (s.usr.map usC)),(E1,.buf 2 (s.tmb.map tmC))] (fun r m=>r=.agg (eK (gH s u t) E0 E1)∧m=[(E0,.buf 2 ((gH s u t).usr.map usC)),(E1,.buf 2 ((gH s u t).tmb.map tmC))]):=by
 have z1:=hz.o
 have z2:=hz.u
 have z3:=hz.b
 have z4:=hz.t
 have tf:=List.length_filter_le (fun x=>!isK dZ u x) s.tmb
 have hpl:=wJ (key:=dZ) (s.tmb.filter fun x=>!isK dZ u x) u
 refine iL [(E0,G0),(E1,G1)] Tryz.func159 rfl (Nat.le_of_ble_eq_true rfl) (args':=[.agg (eK s G0 G1),.s (.string u),.s (.int .i64 t)]) (m':=[(G0,.buf 2 (s.usr.map usC)),(G1,.buf 2 (s.tmb.map tmC))]) rfl rfl (by decide) (by decide) rfl (fun w0 o0 A hf=>?_)
 refine aC (fun K1 hK1=>(aB (jL hf rfl rfl rfl rfl (l1 rfl) ?_)))
 refine aK hf rfl (cL rfl rfl (lf rfl)) (bQ hf rfl rfl rfl cK (aD (hK1 _ (aC (fun K2 hK2=>(iA hf (L:=#[true,true,true,true,true,true,true,true,true,false,false,false]) 9 3 bN (by kernel_rfl) rfl (by kernel_rfl) rfl ?_))))))
 refine bL aA 3 rfl (cA [(10,_),(11,_)] rfl rfl ⟨⟨rfl,rfl⟩,⟨rfl,rfl⟩,trivial⟩ rfl (aR rfl rfl aLh rfl (aDn s.opn u (by omega))) (bL aA 3 rfl (cA [(14,_),(15,_)] rfl rfl ⟨⟨rfl,rfl⟩,⟨rfl,rfl⟩,trivial⟩ rfl (aR rfl rfl aLg rfl (aGy s.sub u (by omega))) (bL aA 1 rfl (tC [2,3,4,6,12,16,17] rfl rfl rfl ?_)))))
 refine aH 9 [] (by kernel_rfl) ⟨?_,trivial⟩
 ·
  refine⟨_,rfl,rfl,(ao rfl (aP hf rfl rfl nV rfl rfl (l1 rfl) (l4 rfl) rfl (aG (aH 10 [] (by kernel_rfl) ⟨?_,trivial⟩))))⟩
  ·
   refine⟨_,rfl,rfl,(ao rfl (aE aA 1 rfl (aG (aH 11 [] (by kernel_rfl) ⟨?_,trivial⟩))))⟩
   ·
    refine⟨_,rfl,rfl,(ao rfl (aP hf rfl rfl pR rfl rfl (l1 rfl) (l4 rfl) rfl (aG (bW (by kernel_rfl) ?_))))⟩
    refine hK2 _ (aC (fun K3 hK3=>(aB (aE aA 2 rfl (aF rfl (iJ rfl) (gA hf G0 rfl rfl rfl rfl rfl aKm (zX aKl rfl (fun _=>rfl) (isK cR u) s.usr _ (by rw[List.length_map]) (by omega) (fun x _=>aJf x u)) ?_))))))
    rintro r zs ⟨rfl,rfl⟩
    rw[aE6]
    refine aE aA 1 rfl (aP hf rfl rfl rI rfl rfl (l1 rfl) (l4 rfl) rfl (aD (hK3 _ (aC (fun K4 hK4=>(aB (aE aA 2 rfl (aF rfl (iJ rfl) (gA hf G1 rfl rfl rfl rfl rfl aKk (zY aKj rfl (fun _=>rfl) (isK dZ u) s.tmb _ (by rw[List.length_map]) (by omega) (fun x _=>aJe x u)) ?_)))))))))
    rintro r zs ⟨rfl,rfl⟩
    rw[aE6]
    refine aE aA 1 rfl (aP hf rfl rfl xF rfl rfl (l1 rfl) (l4 rfl) rfl (aD (hK4 _ (aC (fun K5 hK5=>(aB (aE aA 3 rfl (aK hf rfl (pW rfl rfl (by show [AV.conv _ _,_,_]=_; rw[bV (g:=G1) rfl (by rw[List.length_map])]; rfl) aLj (aL6 (s.tmb.filter fun x=>!isK dZ u x) u (by omega) (lH hr2 _)) rfl) ?_))))))))
    refine aE aA 5 rfl (aD (hK5 _ (aC (fun K6 hK6=>(aB (aE aA 5 rfl (aF rfl (bO rfl yG aNf (l3 rfl) rfl) (cP hf rfl rfl rfl nB rfl rfl rfl rfl (l2 rfl) ?_))))))))
    refine iQ hf [(E0,G1),(E1,42)] [(E0,43)] rfl rfl rfl rfl rfl rfl (by decide) (by decide) (by decide) rfl aKi (aIq ((s.tmb.filter fun x=>!isK dZ u x).map tmC) [.s (.string u),.s (.int .i64 t)] _ (dI dZ (s.tmb.filter fun x=>!isK dZ u x) u) (by rw[List.length_map]) hpl (by omega)) ?_
    rintro r m1 ⟨rfl,rfl⟩
    refine aQ (bT (sl':=[(3,.ref 3 0 0 0),(6,.ref 6 0 0 0),(43,.own 43 2 0 ((s.tmb.filter fun x=>!isK dZ u x).length+1))]) (m':=[(43,.buf 2 (((s.tmb.filter fun x=>!isK dZ u x).map tmC).take (dI dZ (s.tmb.filter fun x=>!isK dZ u x) u)++[.s (.string u),.s (.int .i64 t)]::((s.tmb.filter fun x=>!isK dZ u x).map tmC).drop (dI dZ (s.tmb.filter fun x=>!isK dZ u x) u))),(6,.box [.s (.int .i64 0),.s (.int .i64 0),.s (.slice none 0 0),.s (.slice none 0 0),.s (.slice none 0 0),.s (.slice none 0 0)]),(3,.box [.s (.int .i64 s.now),.s (.int .i64 s.hor),.sl 4 ((s.opn.filter fun e=>!qM u e).map seC),.own G0 2 0 (s.usr.filter fun x=>!isK cR u x).length,.sl 4 ((s.sub.filter fun e=>!mQ u e).map enC),.bad]),(G0,.buf 2 ((s.usr.filter fun x=>!isK cR u x).map usC))]) ⟨rfl,rfl,rfl,trivial⟩ rfl) ?_
    refine aE aA 1 rfl (aP hf rfl rfl xF rfl rfl (l1 rfl) (l4 rfl) rfl (aD (hK6 _ (aC (fun K7 hK7=>(aB ?_))))))
    rw[aO4 hr2,erTl (t:=t) hr2,erUl (t:=t) hr,erU (t:=t) hr]
    refine aF rfl (bM (cs':=eK (gH s u t) G0 43) rfl pL cW rfl rfl rfl) (aP hf rfl rfl cW rfl rfl (l1 rfl) (l4 rfl) rfl (aD (hK7 _ (aJ ?_))))
    exact⟨_,[(E0,G0),(E1,43)],_,Le.refl _,by decide,rfl,rfl,⟨rfl,rfl⟩⟩
end Go.Proofs.YtijnkglkchhomaaGreat
set_option linter.unusedVariables false
set_option linter.unusedSimpArgs false
namespace Go.Proofs.YtijnkglkchhomaaGreat
open Go Go.Abs
theorem uT (l:List Se) (n:Int) (u:ByteArray) (hl:l.length≤9223372036854775807) :Den Tryz.prog 213 [.sl 4 (l.map seC),.s (.int .i64 n),.s (.string u)]  (·=.tup [.agg (seC (aGc l n u)),.s (.int .i64 (fM l n u))]):=by
 refine aS Tryz.func213 rfl (Nat.le_of_ble_eq_true rfl) (fun w0 A hf=>(aC (fun K1 hK1=>(aB (bQ hf rfl rfl rfl pK (aE aA 1 rfl (aD (hK1 _ (aC (fun K2 hK2=>(aB (aE aA 2 rfl (aK hf rfl (aR rfl rfl qG rfl (pV _ _ (by omega))) (aE aA 1 rfl (aD ?_)))))))))))))))
 refine hK2 _ (aC (fun K3 hK3=>(aC (fun K4 hK4=>(aB (aE aA 2 rfl (aD (hK4 _ (aI rfl (fun hc1=>?_) (fun hc1=>?_))))))))))
 ·
  simp only[bs] at hc1
  refine aC (fun K5 hK5=>(aB (aF rfl (bO rfl pK uK (l3 rfl) rfl) (aP hf rfl rfl fS rfl rfl (l1 rfl) (l4 rfl) rfl (aE aA 1 rfl (aD (hK5 _ (aJ ?_))))))))
  refine⟨_,rfl,?_⟩
  have hc:fM l n u=101:=by
   rcases dE (isN n) l with ⟨_,h⟩ | ⟨k',h1,e,h2,h3⟩
   · exact(xB n u l (fun j hj=>h _ (List.getElem_mem hj))).2.1
   · exfalso; omega
  rw[aGc,if_neg (by omega),hc]; rfl
 ·
  simp only[bs] at hc1
  obtain ⟨k,hk,ek,hk1,hk2⟩:∃ k:Nat,∃ h:k<l.length,kZ (isN n) l=(k:Nat)∧isN n l[k]=true∧∀ (j:Nat) (hj:j<l.length),j<k→isN n l[j]=false:=by
   rcases dE (isN n) l with ⟨e,_⟩ | ⟨k',h1,e,h2,h3⟩
   · exfalso; omega
   · exact⟨k',h1,e,h2,h3⟩
  obtain ⟨e1,e2,e3,_⟩:=lC n u 0 0 l k hk hk2 hk1
  rw[ek]
  refine aL (hK3 _ (aC (fun K6 hK6=>(aC (fun K7 hK7=>(aB (aE aA 2 rfl ?_)))))))
  refine aF rfl (aW rfl rfl jN fS (by first | exact ixm (by omega) | assumption | exact⟨by decide,rfl⟩)) ?_
  refine aE aA 4 rfl (aD (hK7 _ (aI rfl (fun hc2=>?_) (fun hc2=>?_))))
  ·
   simp only[bs] at hc2
   refine aC (fun K8 hK8=>(aB (aF rfl (bO rfl pK uK (l3 rfl) rfl) (aP hf rfl rfl fS rfl rfl (l1 rfl) (l4 rfl) rfl (aE aA 1 rfl (aD (hK8 _ (aJ ?_))))))))
   refine⟨_,rfl,?_⟩
   have hc:fM l n u=102:=by rw[e3,if_neg (by simp_all[toList_inj])]
   rw[aGc,if_neg (by omega),hc]; rfl
  ·
   simp only[bs] at hc2
   refine aL (hK6 _ (aC (fun K9 hK9=>(aB (aE aA 2 rfl ?_)))))
   refine aF rfl (aW rfl rfl jN fS (by first | exact ixm (by omega) | assumption | exact⟨by decide,rfl⟩)) ?_
   refine aE aA 1 rfl (aP hf rfl rfl fS rfl rfl (l1 rfl) (l4 rfl) rfl (aE aA 1 rfl (aD (hK9 _ (aJ ?_)))))
   refine⟨_,rfl,?_⟩
   have hc:fM l n u=0:=by rw[e3,if_pos (by simp_all[toList_inj])]
   rw[aGc,if_pos hc,hc,e2]; rfl
theorem aGj (l:List Se) (n:Int) (u:ByteArray) (st t:Int) (hl:l.length*40+40≤140737488355328) :Den Tryz.prog 156 [.sl 4 (l.map seC),.s (.int .i64 n),.s (.string u),.s (.int .i64 st),.s (.int .i64 t)]  (·=.tup [.sl 4 ((mD l n u st t).map seC),.agg (stC (stR l n u t)),.s (.int .i64 (fM l n u))]):=by
 refine aS Tryz.func156 rfl (Nat.le_of_ble_eq_true rfl) (fun w0 A hf=>(aC (fun K1 hK1=>(aB (aF rfl (bE) (bQ hf rfl rfl rfl fJ (aE aA 1 rfl (aD (hK1 _ (aC (fun K2 hK2=>(aB (aE aA 3 rfl (aK hf rfl (aR rfl rfl tO rfl (aC1 _ _ _ (by omega))) (aE aA 5 rfl ?_)))))))))))))))
 refine aD (hK2 _ (aC (fun K3 hK3=>(aC (fun K4 hK4=>(aB (aE aA 2 rfl (aD (hK4 _ (aI rfl (fun hc1=>?_) (fun hc1=>?_)))))))))))
 ·
  simp only[bs] at hc1
  refine aC (fun K5 hK5=>(aB (aF rfl (bO rfl fJ vQ (l3 rfl) rfl) (aE aA 1 rfl (aF rfl (oZ (k:=4)) (aP hf rfl rfl aX rfl rfl (l1 rfl) (l4 rfl) rfl (aE aA 1 rfl (aD (hK5 _ (aJ ?_))))))))))
  refine⟨_,rfl,?_⟩
  rw[mD,stR,if_neg (by assumption),if_neg (by assumption)]; rfl
 ·
  simp only[bs] at hc1
  obtain ⟨k,hk,ek,hk1,hk2,hk3⟩:=wY (show fM l n u=0 by assumption)
  obtain ⟨c1,c2,c3⟩:=aGb hk hk1 hk2 hk3
  obtain ⟨_,_,_,c4,c5⟩:=lC n u st t l k hk hk3 hk1
  rw[ek]
  refine aL (hK3 _ (aC (fun K6 hK6=>(aB (aE aA 1 rfl (gW hf rfl rfl rfl rfl rfl iO rfl (iI _ (by omega)) ?_))))))
  rintro _ rfl
  refine aE aA 1 rfl (aD (hK6 _ (aC (fun K7 hK7=>(aB ?_)))))
  have hml:(l.map seC).length=l.length:=List.length_map _
  refine aE aA 6 rfl ?_
  refine aF rfl (bX rfl rfl eU dU (by omega)) ?_
  refine aE aA 1 rfl (aP hf rfl rfl cB rfl rfl (by simp [AV.cells,AV.one,Value.oneCell']) (by simp [AV.cells,AV.leaf,Value.oneCell']) (gD (c:=4) (k:=k) (f:=2) (enc:=seC) (v:=(l[k].1,(st,l[k].2.2))) (by omega) (by first | omega | (rw[List.length_set]; omega)) (by first | rfl | (simp only[List.getElem_set_self]; rfl)) (Nat.le_of_ble_eq_true rfl)) ?_)
  refine aF rfl (bX rfl rfl eU dU (by omega)) ?_
  refine aE aA 1 rfl (aP hf rfl rfl cB rfl rfl (by simp [AV.cells,AV.one,Value.oneCell']) (by simp [AV.cells,AV.leaf,Value.oneCell']) (gD (c:=4) (k:=k) (f:=3) (enc:=seC) (v:=(l[k].1,(st,t))) (by omega) (by first | omega | (rw[List.length_set]; omega)) (by first | rfl | (simp only[List.getElem_set_self]; rfl)) (Nat.le_of_ble_eq_true rfl)) ?_)
  refine aD (hK7 _ (aC (fun K8 hK8=>(aB (aE aA 3 rfl ?_)))))
  refine aF rfl (aW rfl rfl eU dU (by first | exact ixm (by omega) | assumption | exact⟨by decide,rfl⟩)) ?_
  refine aE aA 2 rfl (aK hf rfl (aR rfl rfl tP rfl (vE _ _)) (aE aA 1 rfl (aP hf rfl rfl aX rfl rfl (l1 rfl) (l4 rfl) rfl (aE aA 1 rfl (aD (hK8 _ (aJ ?_)))))))
  refine⟨_,rfl,?_⟩
  refine(congrArg (fun z=>AV.tup [z,.agg (stC (fO l[k] t)),.s (.int .i64 0)]) (bV (g:=28) rfl (by simp only[List.length_map,List.length_set]))).trans ?_
  rw[mD,stR,if_pos c1,if_pos c1,c1,c2,c4,List.set_set]
theorem aAd (l:List Se) (n:Int) (u:ByteArray) (st t:Int) (hl:l.length*40+40≤140737488355328) :Den Tryz.prog 171 [.sl 4 (l.map seC),.s (.int .i64 n),.s (.string u),.s (.int .i64 st),.s (.int .i64 t)]  (·=.tup [.sl 4 ((mD l n u st t).map seC),.agg (stC (stR l n u t)),.s (.int .i64 (fM l n u))]):=by
 refine aS Tryz.func171 rfl (Nat.le_of_ble_eq_true rfl) (fun w0 A hf=>(aC (fun K1 hK1=>(aB (aF rfl (bE) (bQ hf rfl rfl rfl lV (aE aA 1 rfl (aD (hK1 _ (aC (fun K2 hK2=>(aB (aE aA 3 rfl (aK hf rfl (aR rfl rfl zG rfl (uT _ _ _ (by omega))) (aE aA 3 rfl ?_)))))))))))))))
 refine cH hf rfl pK rfl fS rfl rfl rfl rfl (lf rfl) (aE aA 1 rfl (aD (hK2 _ (aC (fun K3 hK3=>(aC (fun K4 hK4=>(aB (aE aA 2 rfl (aD (hK4 _ (aI rfl (fun hc1=>?_) (fun hc1=>?_)))))))))))))
 ·
  simp only[bs] at hc1
  refine aC (fun K5 hK5=>(aB (aF rfl (bO rfl lV vR (l3 rfl) rfl) (aE aA 1 rfl (aF rfl (oZ (k:=4)) (aP hf rfl rfl jC rfl rfl (l1 rfl) (l4 rfl) rfl (aE aA 1 rfl (aD (hK5 _ (aJ ?_))))))))))
  refine⟨_,rfl,?_⟩
  rw[mD,stR,if_neg (by assumption),if_neg (by assumption)]; rfl
 ·
  simp only[bs] at hc1
  obtain ⟨k,hk,ek,hk1,hk2,hk3⟩:=wY (show fM l n u=0 by assumption)
  obtain ⟨c1,c2,c3⟩:=aGb hk hk1 hk2 hk3
  obtain ⟨_,_,_,c4,c5⟩:=lC n u st t l k hk hk3 hk1
  refine aL (hK3 _ (aC (fun K6 hK6=>(aB (cP hf rfl rfl rfl fK rfl rfl rfl rfl (l2 rfl) ?_)))))
  refine aE aA 1 rfl (aT hf rfl fK rfl rfl rfl (.inl rfl) (by first | rfl | (simp only[List.length_append,List.length_map,List.length_cons,List.length_nil,List.length_take] <;> omega)) rfl (by first | rfl | simp [cV,bF]) (by first | (simp only[maxLen,List.length_map,List.length_append,List.length_cons,List.length_nil]; omega) | (simp [maxLen] <;> omega)) (by first | (simp only[List.length_map,List.length_append,List.length_cons,List.length_nil]; omega) | (simp <;> omega)) ?_)
  refine aQ (cD [0,1,2,3,4,11,13,29] rfl) (aE aA 1 rfl (aD (hK6 _ (aC (fun K7 hK7=>(aB ?_))))))
  have hml:(l.map seC).length=l.length:=List.length_map _
  have hix:kZ (isN n) l=(k:Nat):=iK hk hk3 hk1
  refine aE aA 3 rfl (aK hf rfl (aR rfl rfl qG rfl (pV _ _ (by omega))) (aE aA 4 rfl (aF rfl (bO rfl pK uK (l3 rfl) rfl) ?_)))
  rw[hix]
  refine aF rfl (bX rfl rfl jN fS (by omega)) ?_
  refine aP hf rfl rfl fS rfl rfl (by simp [seC,AV.cells,AV.one,Value.oneCell',splice,AV.kill,AV.clean,cleanL,AV.only]) (by simp [seC,AV.cells,AV.leaf,Value.oneCell',splice,AV.kill,AV.clean,cleanL,AV.only]) (gD (c:=4) (k:=k) (enc:=seC) (v:=((n,u),(st,t))) (by omega) (by omega) rfl (Nat.le_refl _)) ?_
  refine aD (hK7 _ (aC (fun K8 hK8=>(aB (aE aA 3 rfl (aK hf rfl (aR rfl rfl zO rfl (uS _ _)) (aE aA 1 rfl (aP hf rfl rfl jC rfl rfl (l1 rfl) (l4 rfl) rfl (aE aA 1 rfl (aD (hK8 _ (aJ ?_))))))))))))
  refine⟨_,rfl,?_⟩
  refine(congrArg (fun z=>AV.tup [z,.agg (stC (fO (aGc l n u) t)),.s (.int .i64 0)]) (bV (g:=27) rfl (by simp only[List.length_map,List.length_set,Nat.zero_add]))).trans ?_
  rw[mD,stR,aGc,if_pos c1,if_pos c1,if_pos c1,c1,c4,c3]
end Go.Proofs.YtijnkglkchhomaaGreat
set_option linter.unusedVariables false
set_option linter.unusedSimpArgs false
namespace Go.Proofs.YtijnkglkchhomaaGreat
open Go Go.Abs
theorem aJs (l:List Se) (n:Int) (u:ByteArray) (t:Int) (hl:l.length*40+40≤140737488355328) :Den Tryz.prog 89 [.sl 4 (l.map seC),.s (.int .i64 n),.s (.string u),.s (.int .i64 t)]  (·=.tup [.sl 4 ((mC l n u).map seC),.agg (stC (stR l n u t)),.s (.int .i64 (fM l n u))]):=by
 refine aS Tryz.func89 rfl (Nat.le_of_ble_eq_true rfl) (fun w0 A hf=>(aC (fun K1 hK1=>(aB (aF rfl (bE) (bQ hf rfl rfl rfl fJ (aE aA 1 rfl (aD (hK1 _ (aC (fun K2 hK2=>(aB (aE aA 3 rfl (aK hf rfl (aR rfl rfl tO rfl (aC1 _ _ _ (by omega))) (aE aA 5 rfl ?_)))))))))))))))
 refine aD (hK2 _ (aC (fun K3 hK3=>(aC (fun K4 hK4=>(aB (aE aA 2 rfl (aD (hK4 _ (aI rfl (fun hc1=>?_) (fun hc1=>?_)))))))))))
 ·
  simp only[bs] at hc1
  refine aC (fun K5 hK5=>(aB (aF rfl (bO rfl fJ vQ (l3 rfl) rfl) (aE aA 1 rfl (aF rfl (oZ (k:=4)) (aP hf rfl rfl aX rfl rfl (l1 rfl) (l4 rfl) rfl (aE aA 1 rfl (aD (hK5 _ (aJ ?_))))))))))
  refine⟨_,rfl,?_⟩
  rw[mC,stR,if_neg (by assumption),if_neg (by assumption)]; rfl
 ·
  simp only[bs] at hc1
  obtain ⟨k,hk,ek,hk1,hk2,hk3⟩:=wY (show fM l n u=0 by assumption)
  obtain ⟨c1,c2,c3⟩:=aGb hk hk1 hk2 hk3
  obtain ⟨_,_,_,c4,c5⟩:=lC n u 0 t l k hk hk3 hk1
  rw[ek]
  refine aL (hK3 _ (aC (fun K6 hK6=>(iA hf (L:=#[true,true,true,true,true,true,true,true,true,true,true,true,true,true,true,true,false,false]) 16 2 bN (by kernel_rfl) rfl (by kernel_rfl) rfl ?_))))
  refine bL aA 2 rfl (bY [(24,_),(25,_)] rfl rfl ⟨⟨rfl,rfl⟩,⟨rfl,rfl⟩,trivial⟩ rfl (cY rfl eU dU rfl (iZ rfl (by omega)) (by omega) (by simp only[List.length_map,Int.toNat_natCast] <;> omega) (iW (k:=k) (by omega))) ?_)
  refine bL aA 2 rfl ?_
  refine bY [(28,_)] rfl rfl ⟨⟨rfl,rfl⟩,trivial⟩ rfl (bJ rfl rfl (by omega) (by omega)) ?_
  refine bY [(27,_),(29,_)] rfl rfl ⟨⟨rfl,rfl⟩,⟨rfl,rfl⟩,trivial⟩ rfl (cY rfl eU dU (iZ rfl (by omega)) rfl (by simp only[List.length_map,Int.toNat_natCast] <;> omega) (by omega) (fT (k:=k+1) (by omega))) ?_
  refine cA [(26,_),(30,_)] rfl rfl ⟨⟨rfl,rfl⟩,⟨rfl,rfl⟩,trivial⟩ rfl (aN vU rfl rfl rfl rfl (l2 rfl)) (cA [(31,_)] rfl rfl ⟨⟨rfl,rfl⟩,trivial⟩ rfl (aR rfl rfl tN rfl ((show Den Tryz.prog _ _ (·=.sl 4 ((l.take k++l.drop (k+1)).map seC)) from (cX (sK [l.take k,l.drop (k+1)] (by simp) (by simp only[List.flatten_cons,List.flatten_nil,List.length_append,List.length_take,List.length_drop,List.length_nil]; omega))).mono fun r h=>h.trans (by simp)))) ?_)
  refine bL aA 2 rfl ?_
  refine bY [(33,_),(34,_)] rfl rfl ⟨⟨rfl,rfl⟩,⟨rfl,rfl⟩,trivial⟩ rfl (aW rfl rfl eU dU (by first | exact ixm (by omega) | assumption | exact⟨by decide,rfl⟩)) ?_
  refine bL aA 2 rfl (cA [(36,_),(37,_)] rfl rfl ⟨⟨rfl,rfl⟩,⟨rfl,rfl⟩,trivial⟩ rfl (aR rfl rfl tP rfl (vE l[k] t)) (bL aA 1 rfl (tC [8,9,38] rfl rfl rfl ?_)))
  refine aH 16 [] (by kernel_rfl) ⟨?_,trivial⟩
  ·
   refine⟨_,rfl,rfl,(ao rfl (aP hf rfl rfl aX rfl rfl (l1 rfl) (l4 rfl) rfl (aG (aH 17 [] (by kernel_rfl) ⟨?_,trivial⟩))))⟩
   ·
    refine⟨_,rfl,rfl,(ao rfl (aE aA 1 rfl (aG (bW (by kernel_rfl) ?_))))⟩
    refine hK6 _ (aJ ?_)
    refine⟨_,rfl,?_⟩
    rw[mC,stR,if_pos c1,if_pos c1,c1,c2,c5]; rfl
theorem sQ (l:List Se) (n:Int) (u:ByteArray) (t:Int) (hl:l.length*40+40≤140737488355328) :Den Tryz.prog 170 [.sl 4 (l.map seC),.s (.int .i64 n),.s (.string u),.s (.int .i64 t)]  (·=.tup [.sl 4 ((mC l n u).map seC),.agg (stC (stR l n u t)),.s (.int .i64 (fM l n u))]):=by
 refine aS Tryz.func170 rfl (Nat.le_of_ble_eq_true rfl) (fun w0 A hf=>(aC (fun K1 hK1=>(aB (aF rfl (bE) (bQ hf rfl rfl rfl lV (aE aA 1 rfl (aD (hK1 _ (aC (fun K2 hK2=>(aB (aE aA 3 rfl (aK hf rfl (aR rfl rfl zG rfl (uT _ _ _ (by omega))) (aE aA 3 rfl ?_)))))))))))))))
 refine cH hf rfl pK rfl fS rfl rfl rfl rfl (lf rfl) (aE aA 1 rfl (aD (hK2 _ (aC (fun K3 hK3=>(aC (fun K4 hK4=>(aB (aE aA 2 rfl (aD (hK4 _ (aI rfl (fun hc1=>?_) (fun hc1=>?_)))))))))))))
 ·
  simp only[bs] at hc1
  refine aC (fun K5 hK5=>(aB (aF rfl (bO rfl lV vR (l3 rfl) rfl) (aE aA 1 rfl (aF rfl (oZ (k:=4)) (aP hf rfl rfl jC rfl rfl (l1 rfl) (l4 rfl) rfl (aE aA 1 rfl (aD (hK5 _ (aJ ?_))))))))))
  refine⟨_,rfl,?_⟩
  rw[mC,stR,if_neg (by assumption),if_neg (by assumption)]; rfl
 ·
  simp only[bs] at hc1
  obtain ⟨k,hk,ek,hk1,hk2,hk3⟩:=wY (show fM l n u=0 by assumption)
  obtain ⟨c1,c2,c3⟩:=aGb hk hk1 hk2 hk3
  obtain ⟨_,_,_,c4,c5⟩:=lC n u 0 t l k hk hk3 hk1
  have hix:kZ (isN n) l=(k:Nat):=iK hk hk3 hk1
  refine aL (hK3 _ (aC (fun K6 hK6=>(aB (jK hf 4 rfl rfl rfl (aD (hK6 _ (aC (fun K7 hK7=>(aC (fun K8 hK8=>(aB (aE aA 1 rfl (aD (hK8 _ ?_)))))))))))))))
  refine aO (bS (ι:=Nat×List Se) (fun(⟨j,out⟩:Nat×List Se)=>⟨48,[(0,.sl 4 (l.map seC)),(1,.s (.int .i64 n)),(3,.s (.int .i64 t)),(9,.ref 9 0 0 0),(11,.adr (seC (aGc l n u))),(13,.own 13 4 0 out.length),(14,.s (.int .i64 (j:Nat)))],[(13,.buf 4 (out.map seC)),(9,.box [.s (.int .i64 0),.s (.int .i64 0),.s (.int .i64 0),.s (.int .i64 0)])]⟩) (fun(⟨j,out⟩:Nat×List Se)=>j≤l.length∧out=(l.take j).eraseIdx k∧out.length≤j) (fun(⟨j,out⟩:Nat×List Se)=>l.length - j) (0,[]) ?_ ?_ ?_)
  · exact⟨Nat.zero_le _,rfl,Nat.le_refl _⟩
  · exact dN rfl
  ·
   rintro ⟨j,out⟩ hC
   obtain ⟨h1,h2,h3⟩:=hC
   refine aC (fun K9 hK9=>(aC (fun K10 hK10=>(aB (aE aA 4 rfl (aD (hK10 _ (aI rfl (fun hc2=>?_) (fun hc2=>?_)))))))))
   ·
    simp only[bs] at hc2
    refine aL (hK9 _ (aC (fun K11 hK11=>(aO (aC (fun K12 hK12=>(aB (aE aA 3 rfl (aK hf rfl (aR rfl rfl qG rfl (pV _ _ (by omega))) ?_)))))))))
    rw[hix]
    refine aE aA 1 rfl (aD (hK12 _ (aI rfl (fun hc3=>?_) (fun hc3=>?_))))
    ·
     simp only[bs] at hc3
     refine aB (aE aA 3 rfl ?_)
     refine aF rfl (aW rfl rfl jN fS (by first | exact ixm (by omega) | assumption | exact⟨by decide,rfl⟩)) ?_
     refine aE aA 1 rfl (aK hf rfl (aN fK rfl rfl rfl rfl (l2 rfl)) (aT hf rfl fK rfl rfl rfl (.inl rfl) (by first | rfl | (simp only[List.length_append,List.length_map,List.length_cons,List.length_nil,List.length_take] <;> omega)) rfl (by first | rfl | simp [cV,bF]) (by first | (simp only[maxLen,List.length_map,List.length_append,List.length_cons,List.length_nil]; omega) | (simp [maxLen] <;> omega)) (by first | (simp only[List.length_map,List.length_append,List.length_cons,List.length_nil]; omega) | (simp <;> omega)) ?_))
     refine aQ (cD [0,1,3,9,11,14,43] rfl) (aE aA 1 rfl ?_)
     refine bB ?_
     refine hK11 _ (aB (aE aA 1 rfl ?_))
     refine aF rfl (bJ rfl rfl (by omega) (by omega)) ?_
     refine aE aA 1 rfl (aD ?_)
     exact⟨(j+1,out++[l[j]]),⟨by omega,by rw[h2,er_ne (by omega) (by omega)],by rw[List.length_append]; simp only[List.length_cons,List.length_nil]; omega⟩,by simp only; omega,bT ⟨rfl,rfl,rfl,rfl,rfl,(by first | rfl | (rw[List.length_append]; rfl)),rfl,trivial⟩ (by rw[List.map_append]; rfl)⟩
    ·
     simp only[bs] at hc3
     refine aL (hK11 _ (aB (aE aA 1 rfl ?_)))
     refine aF rfl (bJ rfl rfl (by omega) (by omega)) ?_
     refine aE aA 1 rfl (aD ?_)
     exact⟨(j+1,out),⟨by omega,by rw[h2,show j=k by omega,er_eq hk],by omega⟩,by simp only; omega,bT ⟨rfl,rfl,rfl,rfl,rfl,(by first | rfl | (rw[List.length_append]; rfl)),rfl,trivial⟩ rfl⟩
   ·
    simp only[bs] at hc2
    refine bA (hK7 _ (aC (fun K13 hK13=>(aB (aE aA 3 rfl (aK hf rfl (aR rfl rfl zO rfl (uS _ _)) (aE aA 1 rfl (aP hf rfl rfl jC rfl rfl (l1 rfl) (l4 rfl) rfl (aE aA 1 rfl (aD (hK13 _ (aJ ?_))))))))))))
    refine⟨_,rfl,?_⟩
    refine(congrArg (fun z=>AV.tup [z,.agg (stC (fO (aGc l n u) t)),.s (.int .i64 0)]) (bV (g:=13) rfl (by rw[List.length_map]))).trans ?_
    rw[mC,stR,aGc,if_pos c1,if_pos c1,if_pos c1,c1,c5,h2,List.take_of_length_le (by omega),er_end]
end Go.Proofs.YtijnkglkchhomaaGreat
set_option linter.unusedVariables false
set_option linter.unusedSimpArgs false
namespace Go.Proofs.YtijnkglkchhomaaGreat
open Go Go.Abs
theorem aMi (l:List Se) (e:Se) (hl:l.length*40+40≤140737488355328) :Den Tryz.prog 155 [.sl 4 (l.map seC),.agg (seC e)]  (·=.tup [.sl 4 ((lG l e).map seC),.s (.int .i64 (nZ l e))]):=by
 refine aS Tryz.func155 rfl (Nat.le_of_ble_eq_true rfl) (fun w0 A hf=>(aC (fun K1 hK1=>(aB (aK hf rfl (cL rfl rfl (lf rfl)) (aF rfl (bE) (aE aA 1 rfl (aD (hK1 _ (aC (fun K2 hK2=>(aB (aE aA 5 rfl (aK hf rfl (aR rfl rfl tO rfl (aC1 _ _ _ (by omega))) (aE aA 5 rfl ?_)))))))))))))))
 refine aD (hK2 _ (aC (fun K3 hK3=>(aO (aC (fun K4 hK4=>(aB (aE aA 3 rfl (aD (hK4 _ (aI rfl (fun hc1=>?_) (fun hc1=>?_))))))))))))
 ·
  simp only[bs] at hc1
  refine aC (fun K5 hK5=>(aB (aF rfl (oZ (k:=4)) (aE aA 1 rfl (aD (hK5 _ (aJ ?_)))))))
  refine⟨_,rfl,?_⟩
  have ho:nZ l e=100:=by
   unfold nZ
   rw[if_pos (by have:=(aJm (l:=l) (n:=e.1.1) (u:=e.1.2)); cases hh:aF9 l e.1.1 <;> simp_all)]
  rw[lG,if_neg (by omega),ho]; rfl
 ·
  simp only[bs] at hc1
  have hno:aF9 l e.1.1=false:=(aJm (u:=e.1.2)).1 (by assumption)
  refine aC (fun K6 hK6=>(aB (aE aA 4 rfl (aD (hK6 _ (aI rfl (fun hc2=>?_) (fun hc2=>?_)))))))
  ·
   simp only[bs] at hc2
   refine aC (fun K7 hK7=>(aB (aF rfl (oZ (k:=4)) (aE aA 1 rfl (aD (hK7 _ (aJ ?_)))))))
   refine⟨_,rfl,?_⟩
   have ho:nZ l e=103:=by
    unfold nZ
    rw[if_neg (by simp [hno]),if_pos (by omega)]
   rw[lG,if_neg (by omega),ho]; rfl
  ·
   simp only[bs] at hc2
   refine aL (hK3 _ (aC (fun K8 hK8=>(aB (aE aA 1 rfl (aF rfl (iJ rfl) (aK hf rfl (aR rfl rfl zJ rfl (sJ aKq rfl (jJ e.1.1) l (by omega) (fun x _=>aPn x e))) (aE aA 1 rfl (aD (hK8 _ (aC (fun K9 hK9=>(aC (fun K10 hK10=>(aB ?_)))))))))))))))
   refine aE aA 2 rfl (aD (hK10 _ (aI rfl (fun hc3=>?_) (fun hc3=>?_))))
   ·
    simp only[bs] at hc3
    obtain ⟨k,hk⟩:∃ k:Nat,k=l.length:=⟨_,rfl⟩
    have hnA:∀ x∈l,jJ e.1.1 x=false:=by
     rcases dE (jJ e.1.1) l with ⟨_,h⟩ | ⟨k',_,e0,_⟩
     · exact h
     · exfalso; omega
    have hins:=wR (jJ e.1.1) e l k (by omega) (fun j hj _=>hnA _ (List.getElem_mem hj)) (fun h=>by omega)
    refine aB (aE aA 2 rfl ?_)
    rw[List.length_map,← hk]
    refine aE aA 1 rfl (aD (hK9 _ (aC (fun K11 hK11=>(eQ hf bN (by kernel_rfl) rfl (bL aA 2 rfl (bY [(32,_),(33,_)] rfl rfl ⟨⟨rfl,rfl⟩,⟨rfl,rfl⟩,trivial⟩ rfl (cY rfl eU dU rfl (iZ rfl (by omega)) (by omega) (by simp only[List.length_map,Int.toNat_natCast] <;> omega) (iW (k:=k) (by omega))) ?_)))))))
    refine bL aA 1 rfl (cA [(35,_)] rfl rfl ⟨⟨rfl,rfl⟩,trivial⟩ rfl (aN nC rfl rfl rfl rfl (l2 rfl)) (bL aA 2 rfl (bY [(37,_),(38,_)] rfl rfl ⟨⟨rfl,rfl⟩,⟨rfl,rfl⟩,trivial⟩ rfl (cY rfl eU dU (iZ rfl (by omega)) rfl (by simp only[List.length_map,Int.toNat_natCast] <;> omega) (by omega) (fT (k:=k) (by omega))) ?_)))
    refine cA [(34,_),(36,_),(39,_)] rfl rfl ⟨⟨rfl,rfl⟩,⟨rfl,rfl⟩,⟨rfl,rfl⟩,trivial⟩ rfl (aN vU rfl rfl rfl rfl (l2 rfl)) (cA [(40,_)] rfl rfl ⟨⟨rfl,rfl⟩,trivial⟩ rfl (aR rfl rfl tN rfl ((show Den Tryz.prog _ _ (·=.sl 4 ((l.take k++e::l.drop k).map seC)) from (cX (sK [l.take k,[e],l.drop k] (by simp) (by simp only[List.flatten_cons,List.flatten_nil,List.length_append,List.length_take,List.length_drop,List.length_cons,List.length_nil]; omega))).mono fun r h=>h.trans (by simp)))) ?_)
    refine bL aA 2 rfl (gE [4,5] rfl rfl rfl (hK11 _ (aJ ?_)))
    refine⟨_,rfl,?_⟩
    have ho:nZ l e=0:=by
     unfold nZ
     rw[if_neg (by simp [hno]),if_neg (by omega)]
    rw[lG,if_pos ho,ho,aB6,hins]; rfl
   ·
    simp only[bs] at hc3
    obtain ⟨k,hk,ek,hk1,hk2⟩:∃ k:Nat,∃ h:k<l.length,kZ (jJ e.1.1) l=(k:Nat)∧jJ e.1.1 l[k]=true∧∀ (j:Nat) (hj:j<l.length),j<k→jJ e.1.1 l[j]=false:=by
     rcases dE (jJ e.1.1) l with ⟨e0,_⟩ | ⟨k',h1,e0,h2,h3⟩
     · exfalso; omega
     · exact⟨k',h1,e0,h2,h3⟩
    rw[ek]
    have hins:=wR (jJ e.1.1) e l k (by omega) hk2 (fun _=>hk1)
    refine aL (hK9 _ (aC (fun K12 hK12=>(eQ hf bN (by kernel_rfl) rfl (bL aA 2 rfl (bY [(32,_),(33,_)] rfl rfl ⟨⟨rfl,rfl⟩,⟨rfl,rfl⟩,trivial⟩ rfl (cY rfl eU dU rfl (iZ rfl (by omega)) (by omega) (by simp only[List.length_map,Int.toNat_natCast] <;> omega) (iW (k:=k) (by omega))) ?_))))))
    refine bL aA 1 rfl (cA [(35,_)] rfl rfl ⟨⟨rfl,rfl⟩,trivial⟩ rfl (aN nC rfl rfl rfl rfl (l2 rfl)) (bL aA 2 rfl (bY [(37,_),(38,_)] rfl rfl ⟨⟨rfl,rfl⟩,⟨rfl,rfl⟩,trivial⟩ rfl (cY rfl eU dU (iZ rfl (by omega)) rfl (by simp only[List.length_map,Int.toNat_natCast] <;> omega) (by omega) (fT (k:=k) (by omega))) ?_)))
    refine cA [(34,_),(36,_),(39,_)] rfl rfl ⟨⟨rfl,rfl⟩,⟨rfl,rfl⟩,⟨rfl,rfl⟩,trivial⟩ rfl (aN vU rfl rfl rfl rfl (l2 rfl)) (cA [(40,_)] rfl rfl ⟨⟨rfl,rfl⟩,trivial⟩ rfl (aR rfl rfl tN rfl ((show Den Tryz.prog _ _ (·=.sl 4 ((l.take k++e::l.drop k).map seC)) from (cX (sK [l.take k,[e],l.drop k] (by simp) (by simp only[List.flatten_cons,List.flatten_nil,List.length_append,List.length_take,List.length_drop,List.length_cons,List.length_nil]; omega))).mono fun r h=>h.trans (by simp)))) ?_)
    refine bL aA 2 rfl (gE [4,5] rfl rfl rfl (hK12 _ (aJ ?_)))
    refine⟨_,rfl,?_⟩
    have ho:nZ l e=0:=by
     unfold nZ
     rw[if_neg (by simp [hno]),if_neg (by omega)]
    rw[lG,if_pos ho,ho,aB6,hins]; rfl
theorem aDu (l:List Se) (e:Se) (hl:l.length*40+40≤140737488355328) :Den Tryz.prog 169 [.sl 4 (l.map seC),.agg (seC e)]  (·=.tup [.sl 4 ((lG l e).map seC),.s (.int .i64 (nZ l e))]):=by
 refine aS Tryz.func169 rfl (Nat.le_of_ble_eq_true rfl) (fun w0 A hf=>(aC (fun K1 hK1=>(aB (aK hf rfl (cL rfl rfl (lf rfl)) (aF rfl (bE) (aE aA 1 rfl (aD (hK1 _ (aC (fun K2 hK2=>(aC (fun K3 hK3=>(aB (aE aA 3 rfl (aK hf rfl (aR rfl rfl qG rfl (pV _ _ (by omega))) ?_))))))))))))))))
 refine aE aA 1 rfl (aD (hK3 _ (aI rfl (fun hc1=>?_) (fun hc1=>?_))))
 ·
  simp only[bs] at hc1
  refine aC (fun K4 hK4=>(aB (aF rfl (oZ (k:=4)) (aE aA 1 rfl (aD (hK4 _ (aJ ?_)))))))
  refine⟨_,rfl,?_⟩
  have ho:nZ l e=100:=by
   unfold nZ
   rw[if_pos (by rcases dE (isN e.1.1) l with ⟨e0,_⟩ | ⟨k',h1,e0,h2,h3⟩; exact absurd e0 (by omega); exact List.any_eq_true.2 ⟨_,List.getElem_mem h1,h2⟩)]
  rw[lG,if_neg (by omega),ho]; rfl
 ·
  simp only[bs] at hc1
  have hno:aF9 l e.1.1=false:=by
   rcases dE (isN e.1.1) l with ⟨_,h⟩ | ⟨k',h1,e0,h2,h3⟩
   · exact(xB e.1.1 e.1.2 l (fun j hj=>h _ (List.getElem_mem hj))).2.2
   · exfalso; omega
  refine aL (hK2 _ (aC (fun K5 hK5=>(aC (fun K6 hK6=>(aB (aE aA 3 rfl (aD (hK6 _ (aI rfl (fun hc2=>?_) (fun hc2=>?_)))))))))))
  ·
   simp only[bs] at hc2
   refine aC (fun K7 hK7=>(aB (aF rfl (oZ (k:=4)) (aE aA 1 rfl (aD (hK7 _ (aJ ?_)))))))
   refine⟨_,rfl,?_⟩
   have ho:nZ l e=103:=by
    unfold nZ
    rw[if_neg (by simp [hno]),if_pos (by omega)]
   rw[lG,if_neg (by omega),ho]; rfl
  ·
   simp only[bs] at hc2
   refine aL (hK5 _ (aC (fun K8 hK8=>(aB (aE aA 1 rfl (aD (hK8 _ (aC (fun K9 hK9=>(aO (bS (ι:=Nat) (fun k=>⟨46,[(0,.sl 4 (l.map seC)),(3,.adr (seC e)),(6,.s (.int .i64 (k:Nat)))],[]⟩) (fun k=>k≤l.length∧∀ (j:Nat) (hj:j<l.length),j<k→jJ e.1.1 l[j]=false) (fun k=>l.length - k) 0 ?_ ?_ ?_)))))))))))
   · exact⟨Nat.zero_le _,by omega⟩
   · exact dN rfl
   ·
    rintro k hC
    obtain ⟨h1,h2⟩:=hC
    refine aC (fun K10 hK10=>(aC (fun K11 hK11=>(eQ hf bN (by kernel_rfl) rfl (bL aA 5 rfl (rZ 20 true rfl (fun hg3=>?_) (fun hg3=>?_)))))))
    ·
     simp only[bs] at hg3
     refine bL aA 2 rfl ?_
     refine bY [(21,_),(22,_)] rfl rfl ⟨⟨rfl,rfl⟩,⟨rfl,rfl⟩,trivial⟩ rfl (aW rfl rfl jN fS (by first | exact ixm (by omega) | assumption | exact⟨by decide,rfl⟩)) ?_
     refine bL aA 6 rfl (gE [0,3,6,29] rfl rfl rfl (hK11 _ (aI rfl (fun hc4=>?_) (fun hc4=>?_))))
     ·
      simp only[bs] at hc4
      refine aL (hK10 _ (aO (aB (aE aA 1 rfl ?_))))
      refine aF rfl (bJ rfl rfl (by omega) (by omega)) ?_
      refine aE aA 1 rfl ?_
      refine bB ?_
      exact⟨k+1,⟨by omega,fun j hj hjk=>by
       by_cases e0:j=k
       · subst e0; simp only[jJ,decide_eq_false_iff_not]; (try simp only[decide_eq_true_eq,decide_eq_false_iff_not,Bool.not_eq_true'] at *); omega
       · exact h2 j hj (by omega)⟩,by omega,dN rfl⟩
     ·
      simp only[bs] at hc4
      refine bA (hK9 _ (aC (fun K12 hK12=>(aB ?_))))
      have hins:=wR (jJ e.1.1) e l k (by omega) h2 (fun h=>by simp only[jJ,decide_eq_true_eq]; (try simp only[decide_eq_true_eq,decide_eq_false_iff_not,Bool.not_eq_true'] at *); omega)
      refine cP hf rfl rfl rfl fK rfl rfl rfl rfl (l2 rfl) ?_
      refine aE aA 2 rfl (aF rfl (cY rfl jN fS rfl (iZ rfl (by omega)) (by omega) (by simp only[List.length_map,Int.toNat_natCast] <;> omega) (iW (k:=k) (by omega))) ?_)
      refine aT hf rfl fK rfl rfl rfl (.inl rfl) (by first | rfl | (simp only[List.length_append,List.length_map,List.length_cons,List.length_nil,List.length_take] <;> omega)) rfl (by first | rfl | simp [cV,bF]) (by first | (simp only[maxLen,List.length_map,List.length_append,List.length_cons,List.length_nil]; omega) | (simp [maxLen] <;> omega)) (by first | (simp only[List.length_map,List.length_append,List.length_cons,List.length_nil]; omega) | (simp <;> omega)) ?_
      refine aQ (cD [0,3,6,36] rfl) (aE aA 1 rfl (aD (hK12 _ (aC (fun K13 hK13=>(aB (aE aA 2 rfl (aK hf rfl (aN fK rfl rfl rfl rfl (l2 rfl)) (aT hf rfl fK rfl rfl rfl (.inl rfl) (by first | rfl | (simp only[List.length_append,List.length_map,List.length_cons,List.length_nil,List.length_take] <;> omega)) rfl (by first | rfl | simp [cV,bF]) (by first | (simp only[maxLen,List.length_map,List.length_append,List.length_cons,List.length_nil]; omega) | (simp [maxLen] <;> omega)) (by first | (simp only[List.length_map,List.length_append,List.length_cons,List.length_nil]; omega) | (simp <;> omega)) ?_)))))))))
      refine aQ (cD [0,6,40] rfl) (aE aA 1 rfl (aD (hK13 _ (aC (fun K14 hK14=>(aB (aE aA 3 rfl (aF rfl (cY rfl jN fS (iZ rfl (by omega)) rfl (by simp only[List.length_map,Int.toNat_natCast] <;> omega) (by omega) (fT (k:=k) (by omega))) ?_))))))))
      refine aT hf rfl fK rfl rfl rfl (.inl rfl) (by first | rfl | (simp only[List.length_append,List.length_map,List.length_cons,List.length_nil,List.length_take] <;> omega)) rfl (by first | rfl | simp [cV,bF]) (by first | (simp only[maxLen,List.length_map,List.length_append,List.length_cons,List.length_nil]; omega) | (simp [maxLen] <;> omega)) (by first | (simp only[List.length_map,List.length_append,List.length_cons,List.length_nil]; omega) | (simp <;> omega)) ?_
      refine aQ (cD [45] rfl) (aE aA 2 rfl (aD (hK14 _ (aJ ?_))))
      refine⟨_,rfl,?_⟩
      have ho:nZ l e=0:=by
       unfold nZ
       rw[if_neg (by simp [hno]),if_neg (by omega)]
      refine(congrArg (fun z=>AV.tup [z,.s (.int .i64 0)]) (bV (g:=32) rfl ?_)).trans ?_
      · simp only[List.length_append,List.length_map,List.length_cons,List.length_nil,List.length_take]
      · rw[lG,if_pos ho,ho,aB6,hins]; first | (simp; done) | (simp; rfl)
    ·
     simp only[bs] at hg3
     refine bL aA 9 rfl (gE [0,3,6,29] rfl rfl rfl (hK11 _ (bD rfl (bA (hK9 _ (aC (fun K15 hK15=>(aB ?_))))))))
     have hins:=wR (jJ e.1.1) e l k (by omega) h2 (fun h=>by simp only[jJ,decide_eq_true_eq]; (try simp only[decide_eq_true_eq,decide_eq_false_iff_not,Bool.not_eq_true'] at *); omega)
     refine cP hf rfl rfl rfl fK rfl rfl rfl rfl (l2 rfl) ?_
     refine aE aA 2 rfl (aF rfl (cY rfl jN fS rfl (iZ rfl (by omega)) (by omega) (by simp only[List.length_map,Int.toNat_natCast] <;> omega) (iW (k:=k) (by omega))) ?_)
     refine aT hf rfl fK rfl rfl rfl (.inl rfl) (by first | rfl | (simp only[List.length_append,List.length_map,List.length_cons,List.length_nil,List.length_take] <;> omega)) rfl (by first | rfl | simp [cV,bF]) (by first | (simp only[maxLen,List.length_map,List.length_append,List.length_cons,List.length_nil]; omega) | (simp [maxLen] <;> omega)) (by first | (simp only[List.length_map,List.length_append,List.length_cons,List.length_nil]; omega) | (simp <;> omega)) ?_
     refine aQ (cD [0,3,6,36] rfl) (aE aA 1 rfl (aD (hK15 _ (aC (fun K16 hK16=>(aB (aE aA 2 rfl (aK hf rfl (aN fK rfl rfl rfl rfl (l2 rfl)) (aT hf rfl fK rfl rfl rfl (.inl rfl) (by first | rfl | (simp only[List.length_append,List.length_map,List.length_cons,List.length_nil,List.length_take] <;> omega)) rfl (by first | rfl | simp [cV,bF]) (by first | (simp only[maxLen,List.length_map,List.length_append,List.length_cons,List.length_nil]; omega) | (simp [maxLen] <;> omega)) (by first | (simp only[List.length_map,List.length_append,List.length_cons,List.length_nil]; omega) | (simp <;> omega)) ?_)))))))))
     refine aQ (cD [0,6,40] rfl) (aE aA 1 rfl (aD (hK16 _ (aC (fun K17 hK17=>(aB (aE aA 3 rfl (aF rfl (cY rfl jN fS (iZ rfl (by omega)) rfl (by simp only[List.length_map,Int.toNat_natCast] <;> omega) (by omega) (fT (k:=k) (by omega))) ?_))))))))
     refine aT hf rfl fK rfl rfl rfl (.inl rfl) (by first | rfl | (simp only[List.length_append,List.length_map,List.length_cons,List.length_nil,List.length_take] <;> omega)) rfl (by first | rfl | simp [cV,bF]) (by first | (simp only[maxLen,List.length_map,List.length_append,List.length_cons,List.length_nil]; omega) | (simp [maxLen] <;> omega)) (by first | (simp only[List.length_map,List.length_append,List.length_cons,List.length_nil]; omega) | (simp <;> omega)) ?_
     refine aQ (cD [45] rfl) (aE aA 2 rfl (aD (hK17 _ (aJ ?_))))
     refine⟨_,rfl,?_⟩
     have ho:nZ l e=0:=by
      unfold nZ
      rw[if_neg (by simp [hno]),if_neg (by omega)]
     refine(congrArg (fun z=>AV.tup [z,.s (.int .i64 0)]) (bV (g:=32) rfl ?_)).trans ?_
     · simp only[List.length_append,List.length_map,List.length_cons,List.length_nil,List.length_take]
     · rw[lG,if_pos ho,ho,aB6,hins]; first | (simp; done) | (simp; rfl)
end Go.Proofs.YtijnkglkchhomaaGreat
set_option linter.unusedVariables false
set_option linter.unusedSimpArgs false
namespace Go.Proofs.YtijnkglkchhomaaGreat
open Go Go.Abs
end Go.Proofs.YtijnkglkchhomaaGreat
set_option linter.unusedVariables false
set_option linter.unusedSimpArgs false
namespace Go.Proofs.YtijnkglkchhomaaGreat
open Go Go.Abs
end Go.Proofs.YtijnkglkchhomaaGreat
set_option linter.unusedVariables false
set_option linter.unusedSimpArgs false
namespace Go.Proofs.YtijnkglkchhomaaGreat
open Go Go.Abs
end Go.Proofs.YtijnkglkchhomaaGreat
set_option linter.unusedVariables false
namespace Go.Proofs.YtijnkglkchhomaaGreat
open Go Go.Abs Go.RowKit Go.Lib Go.Sort
theorem vX {P:Program} {ops:Array Oper} {o:Oper} {a:Act} {w:World} {K:Act→World→Prop} {Q:Exit→Act→World→Prop} {E:Prop}
    (hg:o.guard=none) (s x:Operand) (t:TypeId) (hop:o.op=Op.call { callee:=Callee.builtin Builtin.append,args:=#[s,x],argTypes:=#[t,t] })
    {e k:Nat} (ht:elem? P t=some e) (hk:cells? P e=some k) {T:TypeId} (g n cap:Nat) (hs:a.eval s=.slice (some ⟨g,0,none⟩) n cap)
    (cur:Array Value) (hg0:w.heap[g]?=some (.cells cur T (0,0))) (ad:Addr) (m c:Nat) (news:List Value) (hx:a.eval x=.slice (some ad) m c) (hl:news.length=m*k)
    (hnews:∀ j u,news[j]?=some u→w.cell? (ad.add j)=some u) (h1:∀ u∈news,u.oneCell'=true) (hroom:n+m≤cap) (hfit:n*k+news.length≤cur.size)
    (hK:K (a.put o.dst (.slice (some ⟨g,0,none⟩) (n+m) cap)) (w.setRow g (cur.toList.take (n*k)++news++cur.toList.drop (n*k+news.length)).toArray)) :
    if Region.wanted o (yielded ops a.tmps)=true then Oper.wp P o a w K Q else E:=by
  have hw:Region.wanted o (yielded ops a.tmps)=true:=by simp [Region.wanted,hg]
  rw[if_pos hw]
  have hrun:=mT (P:=P) (t:=t) (ty:=o.type) ht hk g n cap cur hg0 ad m c news hl hnews h1 hroom hfit
  unfold Oper.wp
  have he:(execOp a.eval o).run P w=((Builtin.append_ #[t,t] o.type #[a.eval s,a.eval x]).run P w).andThen fun v w'=>.ok (.value v) w':=by
    simp [execOp,hop,resolve,invoke,builtin]
  rw[he,hs,hx,hrun]
  exact hK
theorem aFr (w:World) (b:Nat) (c1 c2:Array Value):(w.setRow b c1).setRow b c2=w.setRow b c2:=by
  unfold World.setRow
  congr 1
  apply Array.ext
  · simp
  · intro i h1 h2
    simp only[Array.getElem_modify]
    split
    · generalize w.heap[i]'(by simpa using h2)=x
      cases x <;> rfl
    · rfl
set_option maxRecDepth 1000000 in
theorem aGg (b cap n i j:Nat) (cur:Array Value) (T:TypeId) (w:World) (hh:w.heap[b]?=some (.cells cur T (0,0))) (hsz:cap*4≤cur.size) (hn:n≤cap) (hm:cap≤9223372036854775807) (hij:j=i+1) (hi:i<n)
    (hone:∀ (j:Nat) (v:Value),j<n*4→cur[j]?=some v→v.oneCell'=true) :
    Calls Tryz.prog 204 #[.slice (some ⟨b,0,none⟩) n cap,.int .i64 i,.int .i64 ((j:Nat):Int)] w fun e w'=>e=.returned (.slice (some ⟨b,0,none⟩) (n - 1) cap) ∧
      ∃ cs,w'=w.drew.setRow b cs∧cs.size=cur.size∧∀ q,q<(n - 1)*4→cs[q]?=if q<i*4 then cur[q]? else cur[q+4]?:=by
  have hh':w.drew.heap[b]?=some (.cells cur T (0,0)):=hh
  have hcell:∀ j,j<cap*4→w.drew.cell? ⟨b,j,none⟩=cur[j]?:=fun j hj=>by simp [World.cell?,hh']
  obtain ⟨news,hnews⟩:∃ news,news=(cur.toList.drop (j*4)).take ((n - j)*4):=⟨_,rfl⟩
  have hlen:news.length=(n - j)*4:=by
    rw[hnews]; simp only[List.length_take,List.length_drop,Array.length_toList]; omega
  have hget:∀ t,t<(n - j)*4→news[t]?=cur[j*4+t]?:=fun t ht=>by
    rw[hnews,List.getElem?_take,if_pos ht,List.getElem?_drop,Array.getElem?_toList]
  obtain ⟨A,hA,hsrc⟩:∃ A:Addr,(if cap=j then some (⟨b,0,none⟩:Addr) else some ⟨b,j*4,none⟩)=some A∧Hid (∀ t u,news[t]?=some u→w.drew.cell? (A.add t)=some u):=by
    by_cases h:cap=j
    · refine⟨⟨b,0,none⟩,by simp [h],fun t u hu=>?_⟩
      have h0:news.length=0:=by rw[hlen]; omega
      rw[List.length_eq_zero_iff.1 h0] at hu
      simp at hu
    · refine⟨⟨b,j*4,none⟩,by simp [h],fun t u hu=>?_⟩
      have ht:t<(n - j)*4:=by
        have:=(List.getElem?_eq_some_iff.1 hu).1
        rwa [hlen] at this
      rw[hget t ht] at hu
      rw[Addr.add_lit]
      exact(hcell _ (by omega)).trans hu
  obtain ⟨he,hck,hk0,i0,z,hi0,hzz,hik,hby,hzc⟩:=appT?_inv lZ
  have s1:Hid (news.length=(n - j)*4):=hlen
  have s2:Hid (∀ u∈news,u.oneCell'=true):=by
    intro u hu
    obtain ⟨t,ht⟩:=List.getElem?_of_mem hu
    have ht2:=(List.getElem?_eq_some_iff.1 ht).1
    rw[hlen] at ht2
    rw[hget t ht2] at ht
    exact hone _ _ (by omega) ht
  have s3:Hid (i*4+news.length≤cur.size):=by show i*4+news.length≤cur.size; rw[hlen]; omega
  have s4:Hid (w.drew.heap[b]?=some (.cells cur T (0,0))):=hh'
  obtain ⟨cs1,hcs1⟩:∃ cs1,cs1=(cur.toList.take (i*4)++news++cur.toList.drop (i*4+news.length)).toArray:=⟨_,rfl⟩
  have hc1s:cs1.size=cur.size:=by
    rw[hcs1]; simp only[List.size_toArray,List.length_append,List.length_take,List.length_drop,Array.length_toList,hlen]; omega
  obtain ⟨W1,hW1⟩:∃ W1,W1=w.drew.setRow b cs1:=⟨_,rfl⟩
  have hb1:W1.heap[b]?=some (.cells cs1 T (0,0)):=by rw[hW1]; exact setRow_heap _ b cur cs1 T _ hh'
  have hW:Hid (W1=w.drew.setRow b (cur.toList.take (i*4)++news++cur.toList.drop (i*4+news.length)).toArray):=by rw[← hcs1]; exact hW1
  have hrz:(zeroValue 147).run Tryz.prog W1=.ok z W1:=by simp [zeroValue,typeInfo,hi0,hzz]
  have hz1:∀ u∈z.cells.toList,u.oneCell'=true:=by
    have hz:=oO
    unfold zeros? at hz
    simp [hi0,hzz] at hz
    intro u hu
    rw[hz] at hu
    simp at hu
    rcases hu with rfl | rfl <;> rfl
  have hzl:(Builtin.zeroCells z.cells (n - (i+(n - j)))).toList.length=4:=by rw[Array.length_toList,size_zeroCells,hzc]; omega
  have hst:=run_storeCells_at Tryz.prog b ((i+(n - j))*4) T (Builtin.zeroCells z.cells (n - (i+(n - j)))).toList 0 cs1 W1 hb1 (by rw[hzl,hc1s]; omega) (fun u hu=>hz1 u (uW (by rw[hzc]; exact hk0) hu))
  simp only[Nat.add_zero] at hst
  obtain ⟨cs2,hcs2⟩:∃ cs2,cs2=(cs1.toList.take ((i+(n - j))*4)++(Builtin.zeroCells z.cells (n - (i+(n - j)))).toList++cs1.toList.drop ((i+(n - j))*4+(Builtin.zeroCells z.cells (n - (i+(n - j)))).toList.length)).toArray:=⟨_,rfl⟩
  rw[← hcs2] at hst
  have hcl:∀ ty,(Builtin.clear_ #[36] ty #[.slice (some ⟨b,(i+(n - j))*4,none⟩) (n - (i+(n - j))) (cap - (i+(n - j)))]).run Tryz.prog W1=.ok (.tuple #[]) (W1.setRow b cs2):=fun ty=>by
    have h0:¬ (n - (i+(n - j))=0):=by omega
    simp [Builtin.clear_,run_underlying (elem?_inv he),h0,hrz,hst]
  have hlt:i<j:=by omega
  have hjn:j≤n:=by omega
  have hic:i≤cap:=by omega
  have hjc:j≤cap:=by omega
  have hfin:W1.setRow b cs2=w.drew.setRow b cs2∧cs2.size=cur.size∧∀ q,q<(n - 1)*4→cs2[q]?=if q<i*4 then cur[q]? else cur[q+4]?:=by
    have hnj:(i+(n - j))*4=(n - 1)*4:=by rw[hij]; omega
    refine⟨?_,?_,?_⟩
    · rw[hW1]; exact aFr _ _ _ _
    · rw[hcs2]; simp only[List.size_toArray,List.length_append,List.length_take,List.length_drop,hzl,Array.length_toList,hc1s]; omega
    · intro q hq
      have e2:cs2[q]?=cs1[q]?:=by
        rw[hcs2,List.getElem?_toArray,List.append_assoc,List.getElem?_append_left (by simp only[List.length_take,Array.length_toList]; omega),List.getElem?_take,if_pos (by omega),Array.getElem?_toList]
      rw[e2,hcs1,List.getElem?_toArray,List.append_assoc]
      by_cases h:q<i*4
      · rw[if_pos h,List.getElem?_append_left (by simp only[List.length_take,Array.length_toList]; omega),List.getElem?_take,if_pos h,Array.getElem?_toList]
      · have hlt:(cur.toList.take (i*4)).length=i*4:=by simp only[List.length_take,Array.length_toList]; omega
        rw[if_neg h,List.getElem?_append_right (by omega),hlt,List.getElem?_append_left (by rw[hlen]; omega),hget _ (by omega)]
        congr 1
        omega
  have hfin':=show Hid _ from hfin
  clear hW1 hb1 hcs1 hcs2 hst hnews hget hfin hh' hcell hh hone hc1s hzl
  have hij2:Hid (j=i+1):=hij
  clear hij
  go_enter Tryz.func204,Tryz.ntmps204
  go_wp2_with fail
  go_region_law (refine vX rfl (.tmp 22) (.tmp 25) 36 rfl he hck b i cap (by simp [Act.eval,Act.put]) cur s4.out A (n - j) (cap - j) news (by simp [Act.eval,Act.put]) s1.out hsrc.out s2.out (by omega) s3.out ?_; rw[← hW.out])
  go_wp2
  go_ret
  have h1:j=i+1:=hij2
  refine⟨?_,cs2,hfin'⟩
  rw[show n - 1=i+(n - j) by omega]
  rfl
theorem aJl (xs:List (List AV)) (n i:Nat) (z:Int) (hz:z=((i+1:Nat):Int)) (hn:n=xs.length) (hi:i<n):DenM Tryz.prog 204 [.own E0 4 0 n,.s (.int .i64 (i:Nat)),.s (.int .i64 z)] 4 xs (fun r ys=>r=.own E0 4 0 (n - 1)∧ys=xs.take i++xs.drop (i+1)):=by
  subst hz
  intro A w x vals hA hx hr hb
  obtain ⟨v0,v1,v2,rfl⟩:∃ v0 v1 v2,vals=[v0,v1,v2]:=by
    have:=hr.1
    match vals,this with
    | [a,b,c],_=>exact⟨a,b,c,rfl⟩
  have r0:=hr.2 0 _ v0 rfl rfl
  have r1:=hr.2 1 _ v1 rfl rfl
  have r2:=hr.2 2 _ v2 rfl rfl
  cases r1
  cases r2
  rcases hb with ⟨hb,_⟩ | ⟨b,cur,T,hbE,hh,hcs,hck,hcell⟩
  · rw[hb] at hn; simp at hn; omega
  have hxb:=(fX hbE).2
  subst hxb
  have hbs:b<w.heap.size:=(Array.getElem?_eq_some_iff.1 hh).1
  obtain ⟨cap,hcap,hcm,hsz,rfl⟩:∃ cap,n≤cap∧cap≤9223372036854775807∧cap*4≤cur.size∧v0=.slice (some ⟨b,0,none⟩) n cap:=by
    cases r0 with
    | ownn _ _ _=>omega
    | own _ _ _ _ b' cap cur' T' hg h1 h2 h3 h4 =>
      have:=(fX hg).2; cases this
      rw[hh] at h3; cases h3
      exact⟨cap,h1,by simpa [maxLen] using h2,by omega,by simp⟩
    | own0 _ _ _ _ _ _=>omega
  have hleaf:∀ (j:Nat) (y:List AV) (q:Nat) (a:AV),xs[j]?=some y→y[q]?=some a→a.leaf=true∧q<4:=fun j y q a hy ha =>
    ⟨(hck y (List.mem_of_getElem? hy)).2 a (List.mem_of_getElem? ha),by rw[← (hck y (List.mem_of_getElem? hy)).1]; exact(List.getElem?_eq_some_iff.1 ha).1⟩
  have hone:∀ (j:Nat) (v:Value),j<n*4→cur[j]?=some v→v.oneCell'=true:=fun j v hj hv=>by
    have hj4:j / 4<xs.length:=by rw[← hn]; omega
    have hy:xs[j / 4]?=some xs[j / 4]:=List.getElem?_eq_getElem hj4
    have hl:=(hck _ (List.mem_of_getElem? hy)).1
    obtain ⟨u,hu,hru⟩:=hcell (j / 4) _ (j % 4) _ hy (List.getElem?_eq_getElem (by rw[hl]; omega))
    rw[show j / 4*4+j % 4=j by omega,hv] at hu
    cases hu
    exact hru.one (AV.one_of_leaf (hleaf _ _ (j % 4) _ hy (List.getElem?_eq_getElem (by rw[hl]; omega))).1)
  refine(aGg b cap n i (i+1) cur T w hh hsz hcap hcm rfl hi hone).mono ?_
  rintro e w' ⟨rfl,cs,rfl,hcsz,hget⟩
  have hb':(w.drew.setRow b cs).heap[b]?=some (.cells cs T (0,0)):=setRow_heap _ b cur cs T _ hh
  have hoth:∀ b',b'≠b→(w.drew.setRow b cs).heap[b']?=w.heap[b']?:=fun b' hne=>setRow_other w.drew b b' cs hne
  have hwsz:(w.drew.setRow b cs).heap.size=w.heap.size:=by
    show (w.drew.setRow b cs).heap.size=w.drew.heap.size
    simp [World.setRow]
  have hne:∀ b',Stable w (eL (some b) A) b'→b'≠b:=fun b' hb' h=>hb'.2.1 E0 (by rw[eE,h])
  have hstab:∀ b',Stable w (eL (some b) A) b'→Stable (w.drew.setRow b cs) (eL (some b) A) b':=fun b' hb'=>⟨by rw[hwsz]; exact hb'.1,hb'.2⟩
  have hmv:∀ (a:AV) (v:Value),a.leaf=true→RelV w (eL (some b) A) a v→RelV (w.drew.setRow b cs) (eL (some b) A) a v :=
    fun a v hlf h=>h.move (ok:=fun _=>false) (fun b' hb'=>⟨hstab b' hb',hoth b' (hne b' hb')⟩) (fun _ _ h _=>by cases h) (AV.clean_of_leaf hlf)
  have hl2:(xs.take i++xs.drop (i+1)).length=n - 1:=by simp only[List.length_append,List.length_take,List.length_drop]; omega
  refine⟨_,.own E0 4 0 (n - 1),xs.take i++xs.drop (i+1),rfl,⟨rfl,rfl⟩,?_,?_,?_⟩
  · refine⟨rfl,⟨rfl,Nat.le_add_right _ _⟩,rfl,by rw[hwsz]; omega,rfl,fun b' hb'=>⟨hstab b' hb',hoth b' (hne b' hb')⟩,fun b' hb' hAb=>hoth b' (fun h=>hx b' (by rw[h]) hAb),fun g' x hg'=>?_⟩
    have:=fX hg'
    obtain ⟨rfl,rfl⟩:=this
    refine .inr ⟨eE _ _,fun b' hb' cur' T' hh'=>?_⟩
    cases hb'
    rw[hh] at hh'; cases hh'
    exact⟨_,by assumption,hcsz⟩
  · refine .inr ⟨b,cs,T,eE _ _,hb',?_,?_,?_⟩
    · rw[hl2,hcsz]; omega
    · intro y hy
      rcases List.mem_append.1 hy with hy | hy
      · exact hck y (List.mem_of_mem_take hy)
      · exact hck y (List.mem_of_mem_drop hy)
    · intro j y q a hy ha
      have hj:j<n - 1:=by rw[← hl2]; exact(List.getElem?_eq_some_iff.1 hy).1
      by_cases h:j<i
      · rw[List.getElem?_append_left (by simp only[List.length_take]; omega),List.getElem?_take,if_pos h] at hy
        obtain ⟨hlf,hq⟩:=hleaf j y q a hy ha
        obtain ⟨u,hu,hru⟩:=hcell j y q a hy ha
        refine⟨u,?_,hmv _ _ hlf hru⟩
        rw[hget _ (by omega),if_pos (by omega)]; exact hu
      · have htl:(xs.take i).length=i:=by simp only[List.length_take]; omega
        rw[List.getElem?_append_right (by omega),htl,List.getElem?_drop,show i+1+(j - i)=j+1 by omega] at hy
        obtain ⟨hlf,hq⟩:=hleaf (j+1) y q a hy ha
        obtain ⟨u,hu,hru⟩:=hcell (j+1) y q a hy ha
        refine⟨u,?_,hmv _ _ hlf hru⟩
        rw[hget _ (by omega),if_neg (by omega),← hu]
        congr 1; omega
  · have:=RelV.own (w:=w.drew.setRow b cs) (p:=eL (some b) A) E0 4 0 (n - 1) b cap cs T (eE _ _) (by omega) (by simpa [maxLen] using hcm) hb' (by omega)
    simpa using this
end Go.Proofs.YtijnkglkchhomaaGreat
set_option linter.unusedVariables false
set_option linter.unusedSimpArgs false
namespace Go.Proofs.YtijnkglkchhomaaGreat
open Go Go.Abs
theorem aMe (l:List En) (p:Pr) (t:Int) (hl:l.length*48+48≤140737488355328) :Den Tryz.prog 158 [.sl 4 (l.map enC),.agg (prC p),.s (.int .i64 t)]  (·=.tup [.sl 4 ((if onB l p then jH l p t else []).map enC),.s (.int .i64 (if onB l p then 0 else 91))]):=by
 refine aS Tryz.func158 rfl (Nat.le_of_ble_eq_true rfl) (fun w0 A hf=>(aC (fun K1 hK1=>(aB (aK hf rfl (cL rfl rfl (lf rfl)) (aF rfl (bE) (aE aA 1 rfl (aD (hK1 _ (aC (fun K2 hK2=>(aB (aE aA 2 rfl (aK hf rfl (aR rfl rfl zH rfl (aE7 _ _ (by omega))) (aE aA 1 rfl ?_)))))))))))))))
 refine aD (hK2 _ (aC (fun K3 hK3=>(aC (fun K4 hK4=>(aB (aE aA 2 rfl (aD (hK4 _ (aI rfl (fun hc1=>?_) (fun hc1=>?_)))))))))))
 ·
  simp only[bs] at hc1
  refine aC (fun K5 hK5=>(aB (aF rfl (oZ (k:=4)) (aE aA 1 rfl (aD (hK5 _ (aJ ?_)))))))
  refine⟨_,rfl,?_⟩
  rw[show onB l p=false from aOm (by omega)]; rfl
 ·
  simp only[bs] at hc1
  obtain ⟨k,hk,ek,hk1,hk2⟩:∃ k:Nat,∃ h:k<l.length,kZ (dY p) l=(k:Nat)∧dY p l[k]=true∧∀ (j:Nat) (hj:j<l.length),j<k→dY p l[j]=false:=by
    rcases dE (dY p) l with ⟨e,_⟩ | ⟨k',h1,e,h2,h3⟩
    · exfalso; omega
    · exact⟨k',h1,e,h2,h3⟩
  rw[ek]
  refine aL (hK3 _ (aC (fun K6 hK6=>(aB (aE aA 1 rfl (gW hf rfl rfl rfl rfl rfl pM rfl (pH _ (by omega)) ?_))))))
  rintro _ rfl
  refine aE aA 1 rfl (aD (hK6 _ (aC (fun K7 hK7=>(aB ?_)))))
  have hml:(l.map enC).length=l.length:=List.length_map _
  refine aE aA 3 rfl ?_
  refine aF rfl (bX rfl rfl fZ eR (by omega)) ?_
  refine aE aA 2 rfl (aP hf rfl rfl cB rfl rfl (by simp [AV.cells,AV.one,Value.oneCell']) (by simp [AV.cells,AV.leaf,Value.oneCell']) (gD (c:=4) (k:=k) (f:=3) (enc:=enC) (v:=(l[k].1,(l[k].2.1,t))) (by omega) (by omega) rfl (Nat.le_refl _)) ?_)
  refine aD (hK7 _ (aC (fun K8 hK8=>(aC (fun K9 hK9=>(aB (aE aA 2 rfl ?_)))))))
  refine aF rfl (bX rfl rfl fZ eR (by omega)) ?_
  refine aE aA 1 rfl (aF rfl (bM rfl yI eS rfl (by rw[aB3 (c:=4) (k:=k) (enc:=enC) (by omega) (by rw[List.length_set]; omega),List.getElem_set_self]; rfl) (cs':=spC (l[k].2.1,t)) (by rw[aB3 (c:=4) (k:=k) (enc:=enC) (by omega) (by rw[List.length_set]; omega),List.getElem_set_self]; rfl)) ?_)
  refine aK hf rfl (aR rfl rfl nU rfl (sX _)) (aD (hK9 _ (aI rfl (fun hc2=>?_) (fun hc2=>?_))))
  ·
   simp only[bs] at hc2
   refine aB (aE aA 3 rfl ?_)
   refine aF rfl (bJ rfl rfl (by omega) (by omega)) ?_
   refine gA hf 16 rfl rfl rfl rfl rfl aKn (aJl (List.map enC (l.set k (l[k].1,(l[k].2.1,t)))) _ k _ (by omega) (by simp only[List.length_map,List.length_set] <;> omega) (by simp only[List.length_map] <;> omega)) ?_
   rintro r zs ⟨rfl,rfl⟩
   refine aE aA 1 rfl (aD (hK8 _ (aC (fun K10 hK10=>(aB (aE aA 3 rfl (aD (hK10 _ (aJ ?_)))))))))
   refine⟨_,rfl,?_⟩
   rw[show onB l p=true from aMj hk hk1]
   (refine(congrArg (fun z=>AV.tup [z,.s (.int .i64 0)]) (bV (g:=16) rfl (by first | rfl | (simp only[List.length_map,List.length_append,List.length_take,List.length_drop,List.length_set]; omega)))).trans ?_; rw[if_pos rfl,if_pos rfl,← rev_del (v:=(l[k].1,(l[k].2.1,t))) hk hk2 hk1 (by omega),List.map_append,List.map_take,List.map_drop])
  ·
   simp only[bs] at hc2
   refine aL (hK8 _ (aC (fun K11 hK11=>(aB (aE aA 3 rfl (aD (hK11 _ (aJ ?_))))))))
   refine⟨_,rfl,?_⟩
   rw[show onB l p=true from aMj hk hk1]
   (refine(congrArg (fun z=>AV.tup [z,.s (.int .i64 0)]) (bV (g:=16) rfl (by rw[List.length_map,List.length_map,List.length_set]))).trans ?_; rw[if_pos rfl,if_pos rfl,rev_set hk hk2 hk1 (by omega)])
end Go.Proofs.YtijnkglkchhomaaGreat
set_option linter.unusedVariables false
set_option linter.unusedSimpArgs false
namespace Go.Proofs.YtijnkglkchhomaaGreat
open Go Go.Abs
theorem aQg (s:Sta) (e:Ev) (hz:SzS 140737488355100 s) (hr:cQ cR s.usr) (hr2:cQ dZ s.tmb) (hk:e.kind=1) :DenX Tryz.prog 88 [.agg (eK s E0 E1),.agg (evC e)] [(E0,.buf 2 (s.usr.map usC)),(E1,.buf 2 (s.tmb.map tmC))] (fun r m=>r=.tup [.agg (eK (bG s e).1 E0 E1),.s (.int .i64 (bG s e).2)]∧m=[(E0,.buf 2 ((bG s e).1.usr.map usC)),(E1,.buf 2 ((bG s e).1.tmb.map tmC))]):=by
 have z1:=hz.o
 have z2:=hz.u
 have z3:=hz.b
 have z4:=hz.t
 have q:=aB5 s.opn ((e.n,e.user),(e.st,e.at'))
 have hz2:SzS 140737488355200 ({ s with opn:=lG s.opn ((e.n,e.user),(e.st,e.at')) }):=⟨by show (lG s.opn ((e.n,e.user),(e.st,e.at'))).length*40≤_; omega,by show s.usr.length*40≤_; omega,by show s.sub.length*48≤_; omega,by show s.tmb.length*24≤_; omega,fun x hx=>by have:=hz.y x hx; omega⟩
 have hr3:cQ cR (({ s with opn:=lG s.opn ((e.n,e.user),(e.st,e.at')) })).usr:=hr
 have hd:bG s e=(dQ ({ s with opn:=lG s.opn ((e.n,e.user),(e.st,e.at')) }) e.user (st0),nZ s.opn ((e.n,e.user),(e.st,e.at'))):=by
  rw[bG,if_pos hk]
  rw[iB (show st0.1.2≤st0.1.1 from Int.le_refl _)]
 rw[hd]
 refine iL [(E0,G0),(E1,G1)] Tryz.func88 rfl (Nat.le_of_ble_eq_true rfl) (args':=[.agg (eK s G0 G1),.agg (evC e)]) (m':=[(G0,.buf 2 (s.usr.map usC)),(G1,.buf 2 (s.tmb.map tmC))]) rfl rfl (by decide) (by decide) rfl (fun w0 o0 A hf=>?_)
 refine aC (fun K1 hK1=>(aB (jL hf rfl rfl rfl rfl (l1 rfl) ?_)))
 refine aK hf rfl (cL rfl rfl (lf rfl)) (bQ hf rfl rfl rfl cK (aE aA 1 rfl (aD (hK1 _ (aC (fun K2 hK2=>(aB (aE aA 4 rfl (aF rfl (bO rfl gU lW (l3 rfl) rfl) (cH hf rfl gU rfl pQ rfl rfl rfl rfl (lf rfl) (aD (hK2 _ (aC (fun K3 hK3=>?_))))))))))))))
 refine aB (aE aA 1 rfl (aD (hK3 _ (aC (fun K4 hK4=>(aB (bQ hf rfl rfl rfl fJ (aD (hK4 _ (aC (fun K5 hK5=>(aC (fun K6 hK6=>(aB (aE aA 2 rfl ?_)))))))))))))))
 refine aD (hK6 _ (aO (aC (fun K7 hK7=>(aB (aF rfl (dB rfl rfl (hY (by omega))) (aE aA 1 rfl (aD (hK7 _ (cS rfl (aB (aE aA 10 rfl (aF rfl (bO rfl rH aNd (l3 rfl) rfl) ?_)))))))))))))
 refine aK hf rfl (aR rfl rfl aLf rfl (aMi s.opn ((e.n,e.user),(e.st,e.at')) (by omega))) (aE aA 4 rfl (aP hf rfl rfl nV rfl rfl (l1 rfl) (l4 rfl) rfl (aE aA 1 rfl ?_)))
 refine bB ?_
 refine hK5 _ (aC (fun K8 hK8=>(aB (aE aA 4 rfl (iQ hf [(E0,G0),(E1,G1)] [(E0,G0),(E1,G1)] rfl rfl rfl rfl rfl rfl (by decide) (by decide) (by decide) rfl lK (mX ({ s with opn:=lG s.opn ((e.n,e.user),(e.st,e.at')) }) e.user (st0) hz2 hr3) ?_)))))
 rintro r m1 ⟨rfl,rfl⟩
 rw[lN]
 refine aQ (bT (sl':=[(4,.ref 4 0 0 0),(7,.s (.int .i64 (nZ s.opn ((e.n,e.user),(e.st,e.at'))))),(112,.agg (eK (dQ ({ s with opn:=lG s.opn ((e.n,e.user),(e.st,e.at')) }) e.user (st0)) G0 G1))]) (m':=[(G0,.buf 2 ((dQ ({ s with opn:=lG s.opn ((e.n,e.user),(e.st,e.at')) }) e.user (st0)).usr.map usC)),(G1,.buf 2 ((dQ ({ s with opn:=lG s.opn ((e.n,e.user),(e.st,e.at')) }) e.user (st0)).tmb.map tmC)),(8,.box (stC (st0))),(4,.box [.s (.int .i64 0),.s (.int .i64 0),.s (.slice none 0 0),.s (.slice none 0 0),.s (.slice none 0 0),.s (.slice none 0 0)]),(2,.box [.s (.int .i64 (({ s with opn:=lG s.opn ((e.n,e.user),(e.st,e.at')) })).now),.s (.int .i64 (({ s with opn:=lG s.opn ((e.n,e.user),(e.st,e.at')) })).hor),.sl 4 ((({ s with opn:=lG s.opn ((e.n,e.user),(e.st,e.at')) })).opn.map seC),.bad,.sl 4 ((({ s with opn:=lG s.opn ((e.n,e.user),(e.st,e.at')) })).sub.map enC),.bad])]) ⟨rfl,rfl,rfl,trivial⟩ rfl) ?_
 refine aE aA 1 rfl (aP hf rfl rfl cW rfl rfl (l1 rfl) (l4 rfl) rfl (aE aA 1 rfl (aD (hK8 _ (aJ ?_)))))
 exact⟨_,[(E0,G0),(E1,G1)],_,Le.refl _,by decide,rfl,rfl,⟨rfl,rfl⟩⟩
theorem aQf (s:Sta) (e:Ev) (hz:SzS 140737488355100 s) (hr:cQ cR s.usr) (hr2:cQ dZ s.tmb) (hk:e.kind=2) :DenX Tryz.prog 88 [.agg (eK s E0 E1),.agg (evC e)] [(E0,.buf 2 (s.usr.map usC)),(E1,.buf 2 (s.tmb.map tmC))] (fun r m=>r=.tup [.agg (eK (bG s e).1 E0 E1),.s (.int .i64 (bG s e).2)]∧m=[(E0,.buf 2 ((bG s e).1.usr.map usC)),(E1,.buf 2 ((bG s e).1.tmb.map tmC))]):=by
 have z1:=hz.o
 have z2:=hz.u
 have z3:=hz.b
 have z4:=hz.t
 have q:=aCy s.opn e.n e.user e.st e.at'
 have hz2:SzS 140737488355200 ({ s with opn:=mD s.opn e.n e.user e.st e.at' }):=⟨by show (mD s.opn e.n e.user e.st e.at').length*40≤_; omega,by show s.usr.length*40≤_; omega,by show s.sub.length*48≤_; omega,by show s.tmb.length*24≤_; omega,fun x hx=>by have:=hz.y x hx; omega⟩
 have hr3:cQ cR (({ s with opn:=mD s.opn e.n e.user e.st e.at' })).usr:=hr
 have hd:bG s e=(dQ ({ s with opn:=mD s.opn e.n e.user e.st e.at' }) e.user (stR s.opn e.n e.user e.at'),fM s.opn e.n e.user):=by
  rw[bG,if_neg (by omega),if_pos hk]
  rfl
 rw[hd]
 refine iL [(E0,G0),(E1,G1)] Tryz.func88 rfl (Nat.le_of_ble_eq_true rfl) (args':=[.agg (eK s G0 G1),.agg (evC e)]) (m':=[(G0,.buf 2 (s.usr.map usC)),(G1,.buf 2 (s.tmb.map tmC))]) rfl rfl (by decide) (by decide) rfl (fun w0 o0 A hf=>?_)
 refine aC (fun K1 hK1=>(aB (jL hf rfl rfl rfl rfl (l1 rfl) ?_)))
 refine aK hf rfl (cL rfl rfl (lf rfl)) (bQ hf rfl rfl rfl cK (aE aA 1 rfl (aD (hK1 _ (aC (fun K2 hK2=>(aB (aE aA 4 rfl (aF rfl (bO rfl gU lW (l3 rfl) rfl) (cH hf rfl gU rfl pQ rfl rfl rfl rfl (lf rfl) (aD (hK2 _ (aC (fun K3 hK3=>?_))))))))))))))
 refine aB (aE aA 1 rfl (aD (hK3 _ (aC (fun K4 hK4=>(aB (bQ hf rfl rfl rfl fJ (aD (hK4 _ (aC (fun K5 hK5=>(aC (fun K6 hK6=>(aB (aE aA 2 rfl ?_)))))))))))))))
 refine aD (hK6 _ (aO (aC (fun K7 hK7=>(aB (aF rfl (dB rfl rfl (cT (by omega))) (aE aA 1 rfl (aD (hK7 _ (bD rfl (aC (fun K8 hK8=>(aB (aF rfl (dB rfl rfl (hY (by omega))) ?_))))))))))))))
 refine aE aA 1 rfl (aD (hK8 _ (cS rfl (aB (aE aA 10 rfl (aK hf rfl (aR rfl rfl aLe rfl (aGj s.opn e.n e.user e.st e.at' (by omega))) (aE aA 5 rfl (aP hf rfl rfl nV rfl rfl (l1 rfl) (l4 rfl) rfl (aP hf rfl rfl aX rfl rfl (l1 rfl) (l4 rfl) rfl (aE aA 1 rfl ?_))))))))))
 refine bB ?_
 refine hK5 _ (aC (fun K9 hK9=>(aB (aE aA 4 rfl (iQ hf [(E0,G0),(E1,G1)] [(E0,G0),(E1,G1)] rfl rfl rfl rfl rfl rfl (by decide) (by decide) (by decide) rfl lK (mX ({ s with opn:=mD s.opn e.n e.user e.st e.at' }) e.user (stR s.opn e.n e.user e.at') hz2 hr3) ?_)))))
 rintro r m1 ⟨rfl,rfl⟩
 rw[lN]
 refine aQ (bT (sl':=[(4,.ref 4 0 0 0),(7,.s (.int .i64 (fM s.opn e.n e.user))),(112,.agg (eK (dQ ({ s with opn:=mD s.opn e.n e.user e.st e.at' }) e.user (stR s.opn e.n e.user e.at')) G0 G1))]) (m':=[(G0,.buf 2 ((dQ ({ s with opn:=mD s.opn e.n e.user e.st e.at' }) e.user (stR s.opn e.n e.user e.at')).usr.map usC)),(G1,.buf 2 ((dQ ({ s with opn:=mD s.opn e.n e.user e.st e.at' }) e.user (stR s.opn e.n e.user e.at')).tmb.map tmC)),(8,.box (stC (stR s.opn e.n e.user e.at'))),(4,.box [.s (.int .i64 0),.s (.int .i64 0),.s (.slice none 0 0),.s (.slice none 0 0),.s (.slice none 0 0),.s (.slice none 0 0)]),(2,.box [.s (.int .i64 (({ s with opn:=mD s.opn e.n e.user e.st e.at' })).now),.s (.int .i64 (({ s with opn:=mD s.opn e.n e.user e.st e.at' })).hor),.sl 4 ((({ s with opn:=mD s.opn e.n e.user e.st e.at' })).opn.map seC),.bad,.sl 4 ((({ s with opn:=mD s.opn e.n e.user e.st e.at' })).sub.map enC),.bad])]) ⟨rfl,rfl,rfl,trivial⟩ rfl) ?_
 refine aE aA 1 rfl (aP hf rfl rfl cW rfl rfl (l1 rfl) (l4 rfl) rfl (aE aA 1 rfl (aD (hK9 _ (aJ ?_)))))
 exact⟨_,[(E0,G0),(E1,G1)],_,Le.refl _,by decide,rfl,rfl,⟨rfl,rfl⟩⟩
theorem aQe (s:Sta) (e:Ev) (hz:SzS 140737488355100 s) (hr:cQ cR s.usr) (hr2:cQ dZ s.tmb) (hk:e.kind=3) :DenX Tryz.prog 88 [.agg (eK s E0 E1),.agg (evC e)] [(E0,.buf 2 (s.usr.map usC)),(E1,.buf 2 (s.tmb.map tmC))] (fun r m=>r=.tup [.agg (eK (bG s e).1 E0 E1),.s (.int .i64 (bG s e).2)]∧m=[(E0,.buf 2 ((bG s e).1.usr.map usC)),(E1,.buf 2 ((bG s e).1.tmb.map tmC))]):=by
 have z1:=hz.o
 have z2:=hz.u
 have z3:=hz.b
 have z4:=hz.t
 have q:=aCx s.opn e.n e.user
 have hz2:SzS 140737488355200 ({ s with opn:=mC s.opn e.n e.user }):=⟨by show (mC s.opn e.n e.user).length*40≤_; omega,by show s.usr.length*40≤_; omega,by show s.sub.length*48≤_; omega,by show s.tmb.length*24≤_; omega,fun x hx=>by have:=hz.y x hx; omega⟩
 have hr3:cQ cR (({ s with opn:=mC s.opn e.n e.user })).usr:=hr
 have hd:bG s e=(dQ ({ s with opn:=mC s.opn e.n e.user }) e.user (stR s.opn e.n e.user e.at'),fM s.opn e.n e.user):=by
  rw[bG,if_neg (by omega),if_neg (by omega),if_pos hk]
  rfl
 rw[hd]
 refine iL [(E0,G0),(E1,G1)] Tryz.func88 rfl (Nat.le_of_ble_eq_true rfl) (args':=[.agg (eK s G0 G1),.agg (evC e)]) (m':=[(G0,.buf 2 (s.usr.map usC)),(G1,.buf 2 (s.tmb.map tmC))]) rfl rfl (by decide) (by decide) rfl (fun w0 o0 A hf=>?_)
 refine aC (fun K1 hK1=>(aB (jL hf rfl rfl rfl rfl (l1 rfl) ?_)))
 refine aK hf rfl (cL rfl rfl (lf rfl)) (bQ hf rfl rfl rfl cK (aE aA 1 rfl (aD (hK1 _ (aC (fun K2 hK2=>(aB (aE aA 4 rfl (aF rfl (bO rfl gU lW (l3 rfl) rfl) (cH hf rfl gU rfl pQ rfl rfl rfl rfl (lf rfl) (aD (hK2 _ (aC (fun K3 hK3=>?_))))))))))))))
 refine aB (aE aA 1 rfl (aD (hK3 _ (aC (fun K4 hK4=>(aB (bQ hf rfl rfl rfl fJ (aD (hK4 _ (aC (fun K5 hK5=>(aC (fun K6 hK6=>(aB (aE aA 2 rfl ?_)))))))))))))))
 refine aD (hK6 _ (aO (aC (fun K7 hK7=>(aB (aF rfl (dB rfl rfl (cT (by omega))) (aE aA 1 rfl (aD (hK7 _ (bD rfl (aC (fun K8 hK8=>(aB (aF rfl (dB rfl rfl (cT (by omega))) ?_))))))))))))))
 refine aE aA 1 rfl (aD (hK8 _ (bD rfl (aC (fun K9 hK9=>(aB (aF rfl (dB rfl rfl (hY (by omega))) (aE aA 1 rfl (aD (hK9 _ (cS rfl (aB (aE aA 8 rfl ?_)))))))))))))
 refine aK hf rfl (aR rfl rfl aNi rfl (aJs s.opn e.n e.user e.at' (by omega))) (aE aA 5 rfl (aP hf rfl rfl nV rfl rfl (l1 rfl) (l4 rfl) rfl (aP hf rfl rfl aX rfl rfl (l1 rfl) (l4 rfl) rfl (aE aA 1 rfl ?_))))
 refine bB ?_
 refine hK5 _ (aC (fun K10 hK10=>(aB (aE aA 4 rfl (iQ hf [(E0,G0),(E1,G1)] [(E0,G0),(E1,G1)] rfl rfl rfl rfl rfl rfl (by decide) (by decide) (by decide) rfl lK (mX ({ s with opn:=mC s.opn e.n e.user }) e.user (stR s.opn e.n e.user e.at') hz2 hr3) ?_)))))
 rintro r m1 ⟨rfl,rfl⟩
 rw[lN]
 refine aQ (bT (sl':=[(4,.ref 4 0 0 0),(7,.s (.int .i64 (fM s.opn e.n e.user))),(112,.agg (eK (dQ ({ s with opn:=mC s.opn e.n e.user }) e.user (stR s.opn e.n e.user e.at')) G0 G1))]) (m':=[(G0,.buf 2 ((dQ ({ s with opn:=mC s.opn e.n e.user }) e.user (stR s.opn e.n e.user e.at')).usr.map usC)),(G1,.buf 2 ((dQ ({ s with opn:=mC s.opn e.n e.user }) e.user (stR s.opn e.n e.user e.at')).tmb.map tmC)),(8,.box (stC (stR s.opn e.n e.user e.at'))),(4,.box [.s (.int .i64 0),.s (.int .i64 0),.s (.slice none 0 0),.s (.slice none 0 0),.s (.slice none 0 0),.s (.slice none 0 0)]),(2,.box [.s (.int .i64 (({ s with opn:=mC s.opn e.n e.user })).now),.s (.int .i64 (({ s with opn:=mC s.opn e.n e.user })).hor),.sl 4 ((({ s with opn:=mC s.opn e.n e.user })).opn.map seC),.bad,.sl 4 ((({ s with opn:=mC s.opn e.n e.user })).sub.map enC),.bad])]) ⟨rfl,rfl,rfl,trivial⟩ rfl) ?_
 refine aE aA 1 rfl (aP hf rfl rfl cW rfl rfl (l1 rfl) (l4 rfl) rfl (aE aA 1 rfl (aD (hK10 _ (aJ ?_)))))
 exact⟨_,[(E0,G0),(E1,G1)],_,Le.refl _,by decide,rfl,rfl,⟨rfl,rfl⟩⟩
theorem aQd (s:Sta) (e:Ev) (hz:SzS 140737488355100 s) (hr:cQ cR s.usr) (hr2:cQ dZ s.tmb) (hk:e.kind=4) :DenX Tryz.prog 88 [.agg (eK s E0 E1),.agg (evC e)] [(E0,.buf 2 (s.usr.map usC)),(E1,.buf 2 (s.tmb.map tmC))] (fun r m=>r=.tup [.agg (eK (bG s e).1 E0 E1),.s (.int .i64 (bG s e).2)]∧m=[(E0,.buf 2 ((bG s e).1.usr.map usC)),(E1,.buf 2 ((bG s e).1.tmb.map tmC))]):=by
 have z1:=hz.o
 have z2:=hz.u
 have z3:=hz.b
 have z4:=hz.t
 have q:=aIm s.sub (e.user,e.other) e.at'
 have hz2:SzS 140737488355200 ({ s with sub:=if onB s.sub (e.user,e.other)=true then [] else gN s.sub (e.user,e.other) e.at' }):=⟨by show s.opn.length*40≤_; omega,by show s.usr.length*40≤_; omega,by show (if onB s.sub (e.user,e.other)=true then [] else gN s.sub (e.user,e.other) e.at').length*48≤_; omega,by show s.tmb.length*24≤_; omega,fun x hx=>by have:=hz.y x hx; omega⟩
 have hr3:cQ cR (({ s with sub:=if onB s.sub (e.user,e.other)=true then [] else gN s.sub (e.user,e.other) e.at' })).usr:=hr
 have hd:bG s e=(dQ ({ s with sub:=if onB s.sub (e.user,e.other)=true then [] else gN s.sub (e.user,e.other) e.at' }) e.user (st0),if onB s.sub (e.user,e.other)=true then 90 else 0):=by
  rw[bG,if_neg (by omega),if_neg (by omega),if_neg (by omega),if_pos hk]
  rw[iB (show st0.1.2≤st0.1.1 from Int.le_refl _)]
 rw[hd]
 refine iL [(E0,G0),(E1,G1)] Tryz.func88 rfl (Nat.le_of_ble_eq_true rfl) (args':=[.agg (eK s G0 G1),.agg (evC e)]) (m':=[(G0,.buf 2 (s.usr.map usC)),(G1,.buf 2 (s.tmb.map tmC))]) rfl rfl (by decide) (by decide) rfl (fun w0 o0 A hf=>?_)
 refine aC (fun K1 hK1=>(aB (jL hf rfl rfl rfl rfl (l1 rfl) ?_)))
 refine aK hf rfl (cL rfl rfl (lf rfl)) (bQ hf rfl rfl rfl cK (aE aA 1 rfl (aD (hK1 _ (aC (fun K2 hK2=>(aB (aE aA 4 rfl (aF rfl (bO rfl gU lW (l3 rfl) rfl) (cH hf rfl gU rfl pQ rfl rfl rfl rfl (lf rfl) (aD (hK2 _ (aC (fun K3 hK3=>?_))))))))))))))
 refine aB (aE aA 1 rfl (aD (hK3 _ (aC (fun K4 hK4=>(aB (bQ hf rfl rfl rfl fJ (aD (hK4 _ (aC (fun K5 hK5=>(aC (fun K6 hK6=>(aB (aE aA 2 rfl ?_)))))))))))))))
 refine aD (hK6 _ (aO (aC (fun K7 hK7=>(aB (aF rfl (dB rfl rfl (cT (by omega))) (aE aA 1 rfl (aD (hK7 _ (bD rfl (aC (fun K8 hK8=>(aB (aF rfl (dB rfl rfl (cT (by omega))) ?_))))))))))))))
 refine aE aA 1 rfl (aD (hK8 _ (bD rfl (aC (fun K9 hK9=>(aB (aF rfl (dB rfl rfl (cT (by omega))) (aE aA 1 rfl (aD (hK9 _ (bD rfl (aC (fun K10 hK10=>(aB ?_))))))))))))))
 refine aF rfl (dB rfl rfl (hY (by omega))) (aE aA 1 rfl (aD (hK10 _ (cS rfl (aB (aE aA 5 rfl (aK hf rfl (aR rfl rfl aLd rfl (aPz s.sub (e.user,e.other) e.at' (by omega))) (aE aA 4 rfl (aP hf rfl rfl pR rfl rfl (l1 rfl) (l4 rfl) rfl (aE aA 1 rfl ?_))))))))))
 refine bB ?_
 refine hK5 _ (aC (fun K11 hK11=>(aB (aE aA 4 rfl (iQ hf [(E0,G0),(E1,G1)] [(E0,G0),(E1,G1)] rfl rfl rfl rfl rfl rfl (by decide) (by decide) (by decide) rfl lK (mX ({ s with sub:=if onB s.sub (e.user,e.other)=true then [] else gN s.sub (e.user,e.other) e.at' }) e.user (st0) hz2 hr3) ?_)))))
 rintro r m1 ⟨rfl,rfl⟩
 rw[lN]
 refine aQ (bT (sl':=[(4,.ref 4 0 0 0),(7,.s (.int .i64 (if onB s.sub (e.user,e.other)=true then 90 else 0))),(112,.agg (eK (dQ ({ s with sub:=if onB s.sub (e.user,e.other)=true then [] else gN s.sub (e.user,e.other) e.at' }) e.user (st0)) G0 G1))]) (m':=[(G0,.buf 2 ((dQ ({ s with sub:=if onB s.sub (e.user,e.other)=true then [] else gN s.sub (e.user,e.other) e.at' }) e.user (st0)).usr.map usC)),(G1,.buf 2 ((dQ ({ s with sub:=if onB s.sub (e.user,e.other)=true then [] else gN s.sub (e.user,e.other) e.at' }) e.user (st0)).tmb.map tmC)),(8,.box (stC (st0))),(4,.box [.s (.int .i64 0),.s (.int .i64 0),.s (.slice none 0 0),.s (.slice none 0 0),.s (.slice none 0 0),.s (.slice none 0 0)]),(2,.box [.s (.int .i64 (({ s with sub:=if onB s.sub (e.user,e.other)=true then [] else gN s.sub (e.user,e.other) e.at' })).now),.s (.int .i64 (({ s with sub:=if onB s.sub (e.user,e.other)=true then [] else gN s.sub (e.user,e.other) e.at' })).hor),.sl 4 ((({ s with sub:=if onB s.sub (e.user,e.other)=true then [] else gN s.sub (e.user,e.other) e.at' })).opn.map seC),.bad,.sl 4 ((({ s with sub:=if onB s.sub (e.user,e.other)=true then [] else gN s.sub (e.user,e.other) e.at' })).sub.map enC),.bad])]) ⟨rfl,rfl,rfl,trivial⟩ rfl) ?_
 refine aE aA 1 rfl (aP hf rfl rfl cW rfl rfl (l1 rfl) (l4 rfl) rfl (aE aA 1 rfl (aD (hK11 _ (aJ ?_)))))
 exact⟨_,[(E0,G0),(E1,G1)],_,Le.refl _,by decide,rfl,rfl,⟨rfl,rfl⟩⟩
theorem aQc (s:Sta) (e:Ev) (hz:SzS 140737488355100 s) (hr:cQ cR s.usr) (hr2:cQ dZ s.tmb) (hk:e.kind=5) :DenX Tryz.prog 88 [.agg (eK s E0 E1),.agg (evC e)] [(E0,.buf 2 (s.usr.map usC)),(E1,.buf 2 (s.tmb.map tmC))] (fun r m=>r=.tup [.agg (eK (bG s e).1 E0 E1),.s (.int .i64 (bG s e).2)]∧m=[(E0,.buf 2 ((bG s e).1.usr.map usC)),(E1,.buf 2 ((bG s e).1.tmb.map tmC))]):=by
 have z1:=hz.o
 have z2:=hz.u
 have z3:=hz.b
 have z4:=hz.t
 have q:=aIl s.sub (e.user,e.other) e.at'
 have hz2:SzS 140737488355200 ({ s with sub:=if onB s.sub (e.user,e.other)=true then jH s.sub (e.user,e.other) e.at' else [] }):=⟨by show s.opn.length*40≤_; omega,by show s.usr.length*40≤_; omega,by show (if onB s.sub (e.user,e.other)=true then jH s.sub (e.user,e.other) e.at' else []).length*48≤_; omega,by show s.tmb.length*24≤_; omega,fun x hx=>by have:=hz.y x hx; omega⟩
 have hr3:cQ cR (({ s with sub:=if onB s.sub (e.user,e.other)=true then jH s.sub (e.user,e.other) e.at' else [] })).usr:=hr
 have hd:bG s e=(dQ ({ s with sub:=if onB s.sub (e.user,e.other)=true then jH s.sub (e.user,e.other) e.at' else [] }) e.user (st0),if onB s.sub (e.user,e.other)=true then 0 else 91):=by
  rw[bG,if_neg (by omega),if_neg (by omega),if_neg (by omega),if_neg (by omega),if_pos hk]
  rw[iB (show st0.1.2≤st0.1.1 from Int.le_refl _)]
 rw[hd]
 refine iL [(E0,G0),(E1,G1)] Tryz.func88 rfl (Nat.le_of_ble_eq_true rfl) (args':=[.agg (eK s G0 G1),.agg (evC e)]) (m':=[(G0,.buf 2 (s.usr.map usC)),(G1,.buf 2 (s.tmb.map tmC))]) rfl rfl (by decide) (by decide) rfl (fun w0 o0 A hf=>?_)
 refine aC (fun K1 hK1=>(aB (jL hf rfl rfl rfl rfl (l1 rfl) ?_)))
 refine aK hf rfl (cL rfl rfl (lf rfl)) (bQ hf rfl rfl rfl cK (aE aA 1 rfl (aD (hK1 _ (aC (fun K2 hK2=>(aB (aE aA 4 rfl (aF rfl (bO rfl gU lW (l3 rfl) rfl) (cH hf rfl gU rfl pQ rfl rfl rfl rfl (lf rfl) (aD (hK2 _ (aC (fun K3 hK3=>?_))))))))))))))
 refine aB (aE aA 1 rfl (aD (hK3 _ (aC (fun K4 hK4=>(aB (bQ hf rfl rfl rfl fJ (aD (hK4 _ (aC (fun K5 hK5=>(aC (fun K6 hK6=>(aB (aE aA 2 rfl ?_)))))))))))))))
 refine aD (hK6 _ (aO (aC (fun K7 hK7=>(aB (aF rfl (dB rfl rfl (cT (by omega))) (aE aA 1 rfl (aD (hK7 _ (bD rfl (aC (fun K8 hK8=>(aB (aF rfl (dB rfl rfl (cT (by omega))) ?_))))))))))))))
 refine aE aA 1 rfl (aD (hK8 _ (bD rfl (aC (fun K9 hK9=>(aB (aF rfl (dB rfl rfl (cT (by omega))) (aE aA 1 rfl (aD (hK9 _ (bD rfl (aC (fun K10 hK10=>(aB ?_))))))))))))))
 refine aF rfl (dB rfl rfl (cT (by omega))) (aE aA 1 rfl (aD (hK10 _ (bD rfl (aC (fun K11 hK11=>(aB (aF rfl (dB rfl rfl (hY (by omega))) (aE aA 1 rfl (aD (hK11 _ (cS rfl (aB ?_)))))))))))))
 refine aE aA 5 rfl (aK hf rfl (aR rfl rfl aLc rfl (aMe s.sub (e.user,e.other) e.at' (by omega))) (aE aA 4 rfl (aP hf rfl rfl pR rfl rfl (l1 rfl) (l4 rfl) rfl (aE aA 1 rfl ?_))))
 refine bB ?_
 refine hK5 _ (aC (fun K12 hK12=>(aB (aE aA 4 rfl (iQ hf [(E0,G0),(E1,G1)] [(E0,G0),(E1,G1)] rfl rfl rfl rfl rfl rfl (by decide) (by decide) (by decide) rfl lK (mX ({ s with sub:=if onB s.sub (e.user,e.other)=true then jH s.sub (e.user,e.other) e.at' else [] }) e.user (st0) hz2 hr3) ?_)))))
 rintro r m1 ⟨rfl,rfl⟩
 rw[lN]
 refine aQ (bT (sl':=[(4,.ref 4 0 0 0),(7,.s (.int .i64 (if onB s.sub (e.user,e.other)=true then 0 else 91))),(112,.agg (eK (dQ ({ s with sub:=if onB s.sub (e.user,e.other)=true then jH s.sub (e.user,e.other) e.at' else [] }) e.user (st0)) G0 G1))]) (m':=[(G0,.buf 2 ((dQ ({ s with sub:=if onB s.sub (e.user,e.other)=true then jH s.sub (e.user,e.other) e.at' else [] }) e.user (st0)).usr.map usC)),(G1,.buf 2 ((dQ ({ s with sub:=if onB s.sub (e.user,e.other)=true then jH s.sub (e.user,e.other) e.at' else [] }) e.user (st0)).tmb.map tmC)),(8,.box (stC (st0))),(4,.box [.s (.int .i64 0),.s (.int .i64 0),.s (.slice none 0 0),.s (.slice none 0 0),.s (.slice none 0 0),.s (.slice none 0 0)]),(2,.box [.s (.int .i64 (({ s with sub:=if onB s.sub (e.user,e.other)=true then jH s.sub (e.user,e.other) e.at' else [] })).now),.s (.int .i64 (({ s with sub:=if onB s.sub (e.user,e.other)=true then jH s.sub (e.user,e.other) e.at' else [] })).hor),.sl 4 ((({ s with sub:=if onB s.sub (e.user,e.other)=true then jH s.sub (e.user,e.other) e.at' else [] })).opn.map seC),.bad,.sl 4 ((({ s with sub:=if onB s.sub (e.user,e.other)=true then jH s.sub (e.user,e.other) e.at' else [] })).sub.map enC),.bad])]) ⟨rfl,rfl,rfl,trivial⟩ rfl) ?_
 refine aE aA 1 rfl (aP hf rfl rfl cW rfl rfl (l1 rfl) (l4 rfl) rfl (aE aA 1 rfl (aD (hK12 _ (aJ ?_)))))
 exact⟨_,[(E0,G0),(E1,G1)],_,Le.refl _,by decide,rfl,rfl,⟨rfl,rfl⟩⟩
theorem aQb (s:Sta) (e:Ev) (hz:SzS 140737488355100 s) (hr:cQ cR s.usr) (hr2:cQ dZ s.tmb) (hk:e.kind=6) :DenX Tryz.prog 88 [.agg (eK s E0 E1),.agg (evC e)] [(E0,.buf 2 (s.usr.map usC)),(E1,.buf 2 (s.tmb.map tmC))] (fun r m=>r=.tup [.agg (eK (bG s e).1 E0 E1),.s (.int .i64 (bG s e).2)]∧m=[(E0,.buf 2 ((bG s e).1.usr.map usC)),(E1,.buf 2 ((bG s e).1.tmb.map tmC))]):=by
 have z1:=hz.o
 have z2:=hz.u
 have z3:=hz.b
 have z4:=hz.t
 skip
 have hz2:SzS 140737488355200 ({ s with hor:=max s.hor e.n }):=⟨by show s.opn.length*40≤_; omega,by show s.usr.length*40≤_; omega,by show (s.sub).length*48≤_; omega,by show s.tmb.length*24≤_; omega,fun x hx=>by have:=hz.y x hx; omega⟩
 have hr3:cQ cR (({ s with hor:=max s.hor e.n })).usr:=hr
 have hd:bG s e=(dQ ({ s with hor:=max s.hor e.n }) e.user (st0),0):=by
  rw[bG,if_neg (by omega),if_neg (by omega),if_neg (by omega),if_neg (by omega),if_neg (by omega),if_pos hk]
  rw[iB (show st0.1.2≤st0.1.1 from Int.le_refl _)]
 rw[hd]
 refine iL [(E0,G0),(E1,G1)] Tryz.func88 rfl (Nat.le_of_ble_eq_true rfl) (args':=[.agg (eK s G0 G1),.agg (evC e)]) (m':=[(G0,.buf 2 (s.usr.map usC)),(G1,.buf 2 (s.tmb.map tmC))]) rfl rfl (by decide) (by decide) rfl (fun w0 o0 A hf=>?_)
 refine aC (fun K1 hK1=>(aB (jL hf rfl rfl rfl rfl (l1 rfl) ?_)))
 refine aK hf rfl (cL rfl rfl (lf rfl)) (bQ hf rfl rfl rfl cK (aE aA 1 rfl (aD (hK1 _ (aC (fun K2 hK2=>(aB (aE aA 4 rfl (aF rfl (bO rfl gU lW (l3 rfl) rfl) (cH hf rfl gU rfl pQ rfl rfl rfl rfl (lf rfl) (aD (hK2 _ (aC (fun K3 hK3=>?_))))))))))))))
 refine aB (aE aA 1 rfl (aD (hK3 _ (aC (fun K4 hK4=>(aB (bQ hf rfl rfl rfl fJ (aD (hK4 _ (aC (fun K5 hK5=>(aC (fun K6 hK6=>(aB (aE aA 2 rfl ?_)))))))))))))))
 refine aD (hK6 _ (aO (aC (fun K7 hK7=>(aB (aF rfl (dB rfl rfl (cT (by omega))) (aE aA 1 rfl (aD (hK7 _ (bD rfl (aC (fun K8 hK8=>(aB (aF rfl (dB rfl rfl (cT (by omega))) ?_))))))))))))))
 refine aE aA 1 rfl (aD (hK8 _ (bD rfl (aC (fun K9 hK9=>(aB (aF rfl (dB rfl rfl (cT (by omega))) (aE aA 1 rfl (aD (hK9 _ (bD rfl (aC (fun K10 hK10=>(aB ?_))))))))))))))
 refine aF rfl (dB rfl rfl (cT (by omega))) (aE aA 1 rfl (aD (hK10 _ (bD rfl (aC (fun K11 hK11=>(aB (aF rfl (dB rfl rfl (cT (by omega))) (aE aA 1 rfl (aD (hK11 _ (bD rfl (aC (fun K12 hK12=>?_))))))))))))))
 refine aB (aF rfl (dB rfl rfl (hY (by omega))) (aE aA 1 rfl (aD (hK12 _ (cS rfl (aB (aE aA 4 rfl (aF rfl (aH7 rfl rfl) (aE aA 1 rfl (aP hf rfl rfl cB rfl rfl (l1 rfl) (l4 rfl) rfl ?_))))))))))
 refine bB ?_
 refine hK5 _ (aC (fun K13 hK13=>(aB (aE aA 4 rfl (iQ hf [(E0,G0),(E1,G1)] [(E0,G0),(E1,G1)] rfl rfl rfl rfl rfl rfl (by decide) (by decide) (by decide) rfl lK (mX ({ s with hor:=max s.hor e.n }) e.user (st0) hz2 hr3) ?_)))))
 rintro r m1 ⟨rfl,rfl⟩
 rw[lN]
 refine aQ (bT (sl':=[(4,.ref 4 0 0 0),(7,.s (.int .i64 (0))),(112,.agg (eK (dQ ({ s with hor:=max s.hor e.n }) e.user (st0)) G0 G1))]) (m':=[(G0,.buf 2 ((dQ ({ s with hor:=max s.hor e.n }) e.user (st0)).usr.map usC)),(G1,.buf 2 ((dQ ({ s with hor:=max s.hor e.n }) e.user (st0)).tmb.map tmC)),(8,.box (stC (st0))),(4,.box [.s (.int .i64 0),.s (.int .i64 0),.s (.slice none 0 0),.s (.slice none 0 0),.s (.slice none 0 0),.s (.slice none 0 0)]),(2,.box [.s (.int .i64 (({ s with hor:=max s.hor e.n })).now),.s (.int .i64 (({ s with hor:=max s.hor e.n })).hor),.sl 4 ((({ s with hor:=max s.hor e.n })).opn.map seC),.bad,.sl 4 ((({ s with hor:=max s.hor e.n })).sub.map enC),.bad])]) ⟨rfl,rfl,rfl,trivial⟩ rfl) ?_
 refine aE aA 1 rfl (aP hf rfl rfl cW rfl rfl (l1 rfl) (l4 rfl) rfl (aE aA 1 rfl (aD (hK13 _ (aJ ?_)))))
 exact⟨_,[(E0,G0),(E1,G1)],_,Le.refl _,by decide,rfl,rfl,⟨rfl,rfl⟩⟩
theorem aQa (s:Sta) (e:Ev) (hz:SzS 140737488355100 s) (hr:cQ cR s.usr) (hr2:cQ dZ s.tmb) (hk:e.kind=7) :DenX Tryz.prog 88 [.agg (eK s E0 E1),.agg (evC e)] [(E0,.buf 2 (s.usr.map usC)),(E1,.buf 2 (s.tmb.map tmC))] (fun r m=>r=.tup [.agg (eK (bG s e).1 E0 E1),.s (.int .i64 (bG s e).2)]∧m=[(E0,.buf 2 ((bG s e).1.usr.map usC)),(E1,.buf 2 ((bG s e).1.tmb.map tmC))]):=by
 have z1:=hz.o
 have z2:=hz.u
 have z3:=hz.b
 have z4:=hz.t
 skip
 have hz2:SzS 140737488355200 (gH s e.user e.at'):=erSz hz hr (by omega)
 have hr3:cQ cR ((gH s e.user e.at')).usr:=sM hr
 have hd:bG s e=(dQ (gH s e.user e.at') e.user (st0),0):=by
  rw[bG,if_neg (by omega),if_neg (by omega),if_neg (by omega),if_neg (by omega),if_neg (by omega),if_neg (by omega)]
  rw[iB (show st0.1.2≤st0.1.1 from Int.le_refl _)]
 rw[hd]
 refine iL [(E0,G0),(E1,G1)] Tryz.func88 rfl (Nat.le_of_ble_eq_true rfl) (args':=[.agg (eK s G0 G1),.agg (evC e)]) (m':=[(G0,.buf 2 (s.usr.map usC)),(G1,.buf 2 (s.tmb.map tmC))]) rfl rfl (by decide) (by decide) rfl (fun w0 o0 A hf=>?_)
 refine aC (fun K1 hK1=>(aB (jL hf rfl rfl rfl rfl (l1 rfl) ?_)))
 refine aK hf rfl (cL rfl rfl (lf rfl)) (bQ hf rfl rfl rfl cK (aE aA 1 rfl (aD (hK1 _ (aC (fun K2 hK2=>(aB (aE aA 4 rfl (aF rfl (bO rfl gU lW (l3 rfl) rfl) (cH hf rfl gU rfl pQ rfl rfl rfl rfl (lf rfl) (aD (hK2 _ (aC (fun K3 hK3=>?_))))))))))))))
 refine aB (aE aA 1 rfl (aD (hK3 _ (aC (fun K4 hK4=>(aB (bQ hf rfl rfl rfl fJ (aD (hK4 _ (aC (fun K5 hK5=>(aC (fun K6 hK6=>(aB (aE aA 2 rfl ?_)))))))))))))))
 refine aD (hK6 _ (aO (aC (fun K7 hK7=>(aB (aF rfl (dB rfl rfl (cT (by omega))) (aE aA 1 rfl (aD (hK7 _ (bD rfl (aC (fun K8 hK8=>(aB (aF rfl (dB rfl rfl (cT (by omega))) ?_))))))))))))))
 refine aE aA 1 rfl (aD (hK8 _ (bD rfl (aC (fun K9 hK9=>(aB (aF rfl (dB rfl rfl (cT (by omega))) (aE aA 1 rfl (aD (hK9 _ (bD rfl (aC (fun K10 hK10=>(aB ?_))))))))))))))
 refine aF rfl (dB rfl rfl (cT (by omega))) (aE aA 1 rfl (aD (hK10 _ (bD rfl (aC (fun K11 hK11=>(aB (aF rfl (dB rfl rfl (cT (by omega))) (aE aA 1 rfl (aD (hK11 _ (bD rfl (aC (fun K12 hK12=>?_))))))))))))))
 refine aB (aF rfl (dB rfl rfl (cT (by omega))) (aE aA 1 rfl (aD (hK12 _ (bD rfl (aC (fun K13 hK13=>(aB (aF rfl (dB rfl rfl (hY (by omega))) (aE aA 1 rfl (aD (hK13 _ (cS rfl ?_)))))))))))))
 refine aB (aE aA 5 rfl (iQ hf [(E0,G0),(E1,G1)] [(E0,G0),(E1,G1)] rfl rfl rfl rfl rfl rfl (by decide) (by decide) (by decide) rfl aLb (aMy s e.user e.at' (hz.mono (by omega)) hr hr2) ?_))
 rintro r m1 ⟨rfl,rfl⟩
 rw[lN]
 refine aQ (bT (sl':=[(2,.ref 2 0 0 0),(3,.adr (evC e)),(4,.ref 4 0 0 0),(7,.s (.int .i64 0)),(8,.ref 8 0 0 0),(107,.agg (eK (gH s e.user e.at') G0 G1))]) (m':=[(G0,.buf 2 ((gH s e.user e.at').usr.map usC)),(G1,.buf 2 ((gH s e.user e.at').tmb.map tmC)),(8,.box (stC st0)),(4,.box [.s (.int .i64 0),.s (.int .i64 0),.s (.slice none 0 0),.s (.slice none 0 0),.s (.slice none 0 0),.s (.slice none 0 0)]),(2,.box [.s (.int .i64 s.now),.s (.int .i64 s.hor),.sl 4 (s.opn.map seC),.bad,.sl 4 (s.sub.map enC),.bad])]) ⟨rfl,rfl,rfl,rfl,rfl,rfl,trivial⟩ rfl) ?_
 refine aP hf rfl rfl cW rfl rfl (l1 rfl) (l4 rfl) rfl ?_
 refine bB ?_
 refine hK5 _ (aC (fun K14 hK14=>(aB (aE aA 4 rfl (iQ hf [(E0,G0),(E1,G1)] [(E0,G0),(E1,G1)] rfl rfl rfl rfl rfl rfl (by decide) (by decide) (by decide) rfl lK (mX (gH s e.user e.at') e.user (st0) hz2 hr3) ?_)))))
 rintro r m1 ⟨rfl,rfl⟩
 rw[lN]
 refine aQ (bT (sl':=[(4,.ref 4 0 0 0),(7,.s (.int .i64 (0))),(112,.agg (eK (dQ (gH s e.user e.at') e.user (st0)) G0 G1))]) (m':=[(G0,.buf 2 ((dQ (gH s e.user e.at') e.user (st0)).usr.map usC)),(G1,.buf 2 ((dQ (gH s e.user e.at') e.user (st0)).tmb.map tmC)),(8,.box (stC (st0))),(4,.box [.s (.int .i64 0),.s (.int .i64 0),.s (.slice none 0 0),.s (.slice none 0 0),.s (.slice none 0 0),.s (.slice none 0 0)]),(2,.box [.s (.int .i64 ((gH s e.user e.at')).now),.s (.int .i64 ((gH s e.user e.at')).hor),.sl 4 (((gH s e.user e.at')).opn.map seC),.bad,.sl 4 (((gH s e.user e.at')).sub.map enC),.bad])]) ⟨rfl,rfl,rfl,trivial⟩ rfl) ?_
 refine aE aA 1 rfl (aP hf rfl rfl cW rfl rfl (l1 rfl) (l4 rfl) rfl (aE aA 1 rfl (aD (hK14 _ (aJ ?_)))))
 exact⟨_,[(E0,G0),(E1,G1)],_,Le.refl _,by decide,rfl,rfl,⟨rfl,rfl⟩⟩
end Go.Proofs.YtijnkglkchhomaaGreat
set_option linter.unusedVariables false
set_option linter.unusedSimpArgs false
namespace Go.Proofs.YtijnkglkchhomaaGreat
open Go Go.Abs
theorem aHp (e:Ev) (hu:TS e.user) (ho:TS e.other) :Den Tryz.prog 87 [.agg (evC e)]  (·=.s (.bool (bH e))):=by
 refine aS Tryz.func87 rfl (Nat.le_of_ble_eq_true rfl) (fun w0 A hf=>(aC (fun K1 hK1=>(aB (aK hf rfl (cL rfl rfl (lf rfl)) (aE aA 1 rfl (aD (hK1 _ (aC (fun K2 hK2=>(aB (aE aA 4 rfl (aF rfl (bO rfl lA uL (l3 rfl) rfl) (bQ hf rfl rfl rfl lA (aP hf rfl rfl dC rfl rfl (l1 rfl) (l4 rfl) rfl ?_)))))))))))))))
 refine aD (hK2 _ (aC (fun K3 hK3=>(aB (aE aA 2 rfl (aK hf rfl (aR rfl rfl kG rfl (jZ _ _ _)) (aE aA 1 rfl (aD (hK3 _ (aC (fun K4 hK4=>(aC (fun K5 hK5=>(aB (aE aA 2 rfl ?_)))))))))))))))
 refine aD (hK5 _ (aO (aC (fun K6 hK6=>(aO (aC (fun K7 hK7=>(aO (aC (fun K8 hK8=>(aO (aC (fun K9 hK9=>(aO (aC (fun K10 hK10=>(aO ?_)))))))))))))))))
 refine aC (fun K11 hK11=>(aO (aC (fun K12 hK12=>(aC (fun K13 hK13=>(aC (fun K14 hK14=>(aC (fun K15 hK15=>(aB (aE aA 2 rfl (aD (hK15 _ (cM rfl rfl (fun hc1=>?_) (fun hc1=>?_))))))))))))))))
 ·
  simp only[bs] at hc1
  refine aL (hK14 _ (cS rfl (bA (hK11 _ (aC (fun K16 hK16=>(aB (aE aA 3 rfl (aP hf rfl rfl cB rfl rfl (l1 rfl) (l4 rfl) rfl (aD (hK16 _ (aB (aE aA 2 rfl ?_)))))))))))))
  refine aY rfl rfl rfl (fun hg3=>?_) (fun hg3=>?_)
  ·
   simp only[bs] at hg3
   refine aF rfl (bZ rfl zD cB rfl) ?_
   refine aE aA 1 rfl (bK rfl rfl rfl (aK hf rfl (aR rfl rfl kG rfl (jZ _ _ _)) (aE aA 2 rfl ?_)))
   refine bB ?_
   refine hK10 _ (aC (fun K17 hK17=>(aB (aE aA 3 rfl (aP hf rfl rfl cB rfl rfl (l1 rfl) (l4 rfl) rfl (aD (hK17 _ (aB (aE aA 2 rfl (aY rfl rfl rfl (fun hg4=>?_) (fun hg4=>?_)))))))))))
   ·
    simp only[bs] at hg4
    refine aF rfl (bZ rfl qE cB rfl) ?_
    refine aE aA 1 rfl (bK rfl rfl rfl (aK hf rfl (aR rfl rfl kG rfl (jZ _ _ _)) (aE aA 2 rfl ?_)))
    refine bB ?_
    refine hK9 _ (aC (fun K18 hK18=>(aC (fun K19 hK19=>(aB (aE aA 3 rfl (aP hf rfl rfl cJ rfl rfl (l1 rfl) (l4 rfl) rfl (aD (hK19 _ (aB (aE aA 2 rfl (aY rfl rfl rfl (fun hg5=>?_) (fun hg5=>?_)))))))))))))
    ·
     simp only[bs] at hg5
     refine aF rfl (bZ rfl eX cJ rfl) ?_
     refine aE aA 1 rfl (bK rfl rfl rfl (aK hf rfl (aR rfl rfl nT rfl (Nm.right_den e.user hu)) (aE aA 2 rfl (aD (hK18 _ (bA (hK4 _ (aC (fun K20 hK20=>(aB (aE aA 2 rfl (aY rfl rfl rfl (fun hg6=>?_) (fun hg6=>?_)))))))))))))
     ·
      refine aF rfl (bM rfl iE dC rfl rfl rfl) ?_
      refine aE aA 1 rfl (bK rfl rfl rfl (aF rfl (iR rfl rfl iD rfl) (aE aA 2 rfl (aD (hK20 _ (aJ ?_))))))
      refine⟨_,rfl,?_⟩
      refine aV ?_
      rw[Bool.eq_iff_iff]
      simp only[bH,dV]
      (have hlt:e.at'<1099511627776:=(by omega); simp_all[toList_inj,aZ,eq_comm (a:=(0:Int)) (b:=e.st),eq_comm (a:=(0:Int)) (b:=e.n)]; done)
     ·
      simp only[bs] at hg6
      refine aE aA 4 rfl (aD (hK20 _ (aJ ?_)))
      refine⟨_,rfl,?_⟩
      refine aV ?_
      rw[Bool.eq_iff_iff]
      simp only[bH,dV]
      (simp_all[toList_inj,aZ]; done)
    ·
     simp only[bs] at hg5
     refine aE aA 4 rfl (aD (hK18 _ (bA (hK4 _ (aC (fun K21 hK21=>(aB (aE aA 7 rfl (aD (hK21 _ (aJ ?_)))))))))))
     refine⟨_,rfl,?_⟩
     refine aV ?_
     rw[Bool.eq_iff_iff]
     simp only[bH,dV]
     (simp_all[toList_inj,aZ]; omega)
   ·
    simp only[bs] at hg4
    refine aE aA 4 rfl ?_
    refine bB ?_
    refine hK9 _ (aC (fun K22 hK22=>(aC (fun K23 hK23=>(aB (aE aA 3 rfl (aP hf rfl rfl cJ rfl rfl (l1 rfl) (l4 rfl) rfl (aD (hK23 _ (aB (aE aA 7 rfl (aD (hK22 _ (bA ?_))))))))))))))
    refine hK4 _ (aC (fun K24 hK24=>(aB (aE aA 7 rfl (aD (hK24 _ (aJ ?_)))))))
    refine⟨_,rfl,?_⟩
    refine aV ?_
    rw[Bool.eq_iff_iff]
    simp only[bH,dV]
    (simp_all[toList_inj,aZ]; done)
  ·
   simp only[bs] at hg3
   refine aE aA 4 rfl ?_
   refine bB ?_
   refine hK10 _ (aC (fun K25 hK25=>(aB (aE aA 3 rfl (aP hf rfl rfl cB rfl rfl (l1 rfl) (l4 rfl) rfl (aD (hK25 _ (aB (aE aA 7 rfl ?_)))))))))
   refine bB ?_
   refine hK9 _ (aC (fun K26 hK26=>(aC (fun K27 hK27=>(aB (aE aA 3 rfl (aP hf rfl rfl cJ rfl rfl (l1 rfl) (l4 rfl) rfl (aD (hK27 _ (aB (aE aA 7 rfl (aD (hK26 _ (bA ?_))))))))))))))
   refine hK4 _ (aC (fun K28 hK28=>(aB (aE aA 7 rfl (aD (hK28 _ (aJ ?_)))))))
   refine⟨_,rfl,?_⟩
   refine aV ?_
   rw[Bool.eq_iff_iff]
   simp only[bH,dV]
   (simp_all[toList_inj,aZ]; omega)
 ·
  simp only[bs] at hc1
  refine aB (aE aA 2 rfl (aD (hK14 _ (cM rfl rfl (fun hc7=>?_) (fun hc7=>?_)))))
  ·
   simp only[bs] at hc7
   refine bA (hK11 _ (aC (fun K29 hK29=>(aB (aE aA 3 rfl (aP hf rfl rfl cB rfl rfl (l1 rfl) (l4 rfl) rfl (aD (hK29 _ (aB (aE aA 2 rfl (aY rfl rfl rfl (fun hg8=>?_) (fun hg8=>?_))))))))))))
   ·
    simp only[bs] at hg8
    refine aF rfl (bZ rfl zD cB rfl) ?_
    refine aE aA 1 rfl (bK rfl rfl rfl (aK hf rfl (aR rfl rfl kG rfl (jZ _ _ _)) (aE aA 2 rfl ?_)))
    refine bB ?_
    refine hK10 _ (aC (fun K30 hK30=>(aB (aE aA 3 rfl (aP hf rfl rfl cB rfl rfl (l1 rfl) (l4 rfl) rfl (aD (hK30 _ (aB (aE aA 2 rfl (aY rfl rfl rfl (fun hg9=>?_) (fun hg9=>?_)))))))))))
    ·
     simp only[bs] at hg9
     refine aF rfl (bZ rfl qE cB rfl) ?_
     refine aE aA 1 rfl (bK rfl rfl rfl (aK hf rfl (aR rfl rfl kG rfl (jZ _ _ _)) (aE aA 2 rfl ?_)))
     refine bB ?_
     refine hK9 _ (aC (fun K31 hK31=>(aC (fun K32 hK32=>(aB (aE aA 3 rfl (aP hf rfl rfl cJ rfl rfl (l1 rfl) (l4 rfl) rfl (aD (hK32 _ (aB (aE aA 2 rfl (aY rfl rfl rfl (fun hg10=>?_) (fun hg10=>?_)))))))))))))
     ·
      simp only[bs] at hg10
      refine aF rfl (bZ rfl eX cJ rfl) ?_
      refine aE aA 1 rfl (bK rfl rfl rfl (aK hf rfl (aR rfl rfl nT rfl (Nm.right_den e.user hu)) (aE aA 2 rfl (aD (hK31 _ (bA (hK4 _ (aC (fun K33 hK33=>(aB (aE aA 2 rfl (aY rfl rfl rfl (fun hg11=>?_) (fun hg11=>?_)))))))))))))
      ·
       refine aF rfl (bM rfl iE dC rfl rfl rfl) ?_
       refine aE aA 1 rfl (bK rfl rfl rfl (aF rfl (iR rfl rfl iD rfl) (aE aA 2 rfl (aD (hK33 _ (aJ ?_))))))
       refine⟨_,rfl,?_⟩
       refine aV ?_
       rw[Bool.eq_iff_iff]
       simp only[bH,dV]
       (have hlt:e.at'<1099511627776:=(by omega); simp_all[toList_inj,aZ,eq_comm (a:=(0:Int)) (b:=e.st),eq_comm (a:=(0:Int)) (b:=e.n)]; done)
      ·
       simp only[bs] at hg11
       refine aE aA 4 rfl (aD (hK33 _ (aJ ?_)))
       refine⟨_,rfl,?_⟩
       refine aV ?_
       rw[Bool.eq_iff_iff]
       simp only[bH,dV]
       (simp_all[toList_inj,aZ]; done)
     ·
      simp only[bs] at hg10
      refine aE aA 4 rfl (aD (hK31 _ (bA (hK4 _ (aC (fun K34 hK34=>(aB (aE aA 7 rfl (aD (hK34 _ (aJ ?_)))))))))))
      refine⟨_,rfl,?_⟩
      refine aV ?_
      rw[Bool.eq_iff_iff]
      simp only[bH,dV]
      (simp_all[toList_inj,aZ]; omega)
    ·
     simp only[bs] at hg9
     refine aE aA 4 rfl ?_
     refine bB ?_
     refine hK9 _ (aC (fun K35 hK35=>(aC (fun K36 hK36=>(aB (aE aA 3 rfl (aP hf rfl rfl cJ rfl rfl (l1 rfl) (l4 rfl) rfl (aD (hK36 _ (aB (aE aA 7 rfl (aD (hK35 _ (bA ?_))))))))))))))
     refine hK4 _ (aC (fun K37 hK37=>(aB (aE aA 7 rfl (aD (hK37 _ (aJ ?_)))))))
     refine⟨_,rfl,?_⟩
     refine aV ?_
     rw[Bool.eq_iff_iff]
     simp only[bH,dV]
     (simp_all[toList_inj,aZ]; done)
   ·
    simp only[bs] at hg8
    refine aE aA 4 rfl ?_
    refine bB ?_
    refine hK10 _ (aC (fun K38 hK38=>(aB (aE aA 3 rfl (aP hf rfl rfl cB rfl rfl (l1 rfl) (l4 rfl) rfl (aD (hK38 _ (aB (aE aA 7 rfl ?_)))))))))
    refine bB ?_
    refine hK9 _ (aC (fun K39 hK39=>(aC (fun K40 hK40=>(aB (aE aA 3 rfl (aP hf rfl rfl cJ rfl rfl (l1 rfl) (l4 rfl) rfl (aD (hK40 _ (aB (aE aA 7 rfl (aD (hK39 _ (bA ?_))))))))))))))
    refine hK4 _ (aC (fun K41 hK41=>(aB (aE aA 7 rfl (aD (hK41 _ (aJ ?_)))))))
    refine⟨_,rfl,?_⟩
    refine aV ?_
    rw[Bool.eq_iff_iff]
    simp only[bH,dV]
    (simp_all[toList_inj,aZ]; omega)
  ·
   simp only[bs] at hc7
   refine aL (hK13 _ (aC (fun K42 hK42=>(aC (fun K43 hK43=>(aB (aE aA 2 rfl (aD (hK43 _ (cM rfl rfl (fun hc12=>?_) (fun hc12=>?_)))))))))))
   ·
    simp only[bs] at hc12
    refine bA (hK10 _ (aC (fun K44 hK44=>(aB (aE aA 3 rfl (aP hf rfl rfl cB rfl rfl (l1 rfl) (l4 rfl) rfl (aD (hK44 _ (aB (aE aA 2 rfl (aY rfl rfl rfl (fun hg13=>?_) (fun hg13=>?_))))))))))))
    ·
     simp only[bs] at hg13
     refine aF rfl (bZ rfl qE cB rfl) ?_
     refine aE aA 1 rfl (bK rfl rfl rfl (aK hf rfl (aR rfl rfl kG rfl (jZ _ _ _)) (aE aA 2 rfl ?_)))
     refine bB ?_
     refine hK9 _ (aC (fun K45 hK45=>(aC (fun K46 hK46=>(aB (aE aA 3 rfl (aP hf rfl rfl cJ rfl rfl (l1 rfl) (l4 rfl) rfl (aD (hK46 _ (aB (aE aA 2 rfl (aY rfl rfl rfl (fun hg14=>?_) (fun hg14=>?_)))))))))))))
     ·
      simp only[bs] at hg14
      refine aF rfl (bZ rfl eX cJ rfl) ?_
      refine aE aA 1 rfl (bK rfl rfl rfl (aK hf rfl (aR rfl rfl nT rfl (Nm.right_den e.user hu)) (aE aA 2 rfl (aD (hK45 _ (bA (hK4 _ (aC (fun K47 hK47=>(aB (aE aA 2 rfl (aY rfl rfl rfl (fun hg15=>?_) (fun hg15=>?_)))))))))))))
      ·
       refine aF rfl (bM rfl iE dC rfl rfl rfl) ?_
       refine aE aA 1 rfl (bK rfl rfl rfl (aF rfl (iR rfl rfl iD rfl) (aE aA 2 rfl (aD (hK47 _ (aJ ?_))))))
       refine⟨_,rfl,?_⟩
       refine aV ?_
       rw[Bool.eq_iff_iff]
       simp only[bH,dV]
       (have hlt:e.at'<1099511627776:=(by omega); simp_all[toList_inj,aZ,eq_comm (a:=(0:Int)) (b:=e.st),eq_comm (a:=(0:Int)) (b:=e.n)]; done)
      ·
       simp only[bs] at hg15
       refine aE aA 4 rfl (aD (hK47 _ (aJ ?_)))
       refine⟨_,rfl,?_⟩
       refine aV ?_
       rw[Bool.eq_iff_iff]
       simp only[bH,dV]
       (simp_all[toList_inj,aZ]; done)
     ·
      simp only[bs] at hg14
      refine aE aA 4 rfl (aD (hK45 _ (bA (hK4 _ (aC (fun K48 hK48=>(aB (aE aA 7 rfl (aD (hK48 _ (aJ ?_)))))))))))
      refine⟨_,rfl,?_⟩
      refine aV ?_
      rw[Bool.eq_iff_iff]
      simp only[bH,dV]
      (simp_all[toList_inj,aZ]; omega)
    ·
     simp only[bs] at hg13
     refine aE aA 4 rfl ?_
     refine bB ?_
     refine hK9 _ (aC (fun K49 hK49=>(aC (fun K50 hK50=>(aB (aE aA 3 rfl (aP hf rfl rfl cJ rfl rfl (l1 rfl) (l4 rfl) rfl (aD (hK50 _ (aB (aE aA 7 rfl (aD (hK49 _ (bA ?_))))))))))))))
     refine hK4 _ (aC (fun K51 hK51=>(aB (aE aA 7 rfl (aD (hK51 _ (aJ ?_)))))))
     refine⟨_,rfl,?_⟩
     refine aV ?_
     rw[Bool.eq_iff_iff]
     simp only[bH,dV]
     (simp_all[toList_inj,aZ]; omega)
   ·
    simp only[bs] at hc12
    refine aL (hK42 _ (aC (fun K52 hK52=>(aC (fun K53 hK53=>(aB (aE aA 2 rfl (aD (hK53 _ (cM rfl rfl (fun hc16=>?_) (fun hc16=>?_)))))))))))
    ·
     simp only[bs] at hc16
     refine bA (hK9 _ (aC (fun K54 hK54=>(aC (fun K55 hK55=>(aB (aE aA 3 rfl (aP hf rfl rfl cJ rfl rfl (l1 rfl) (l4 rfl) rfl (aD (hK55 _ (aB (aE aA 2 rfl (aY rfl rfl rfl (fun hg17=>?_) (fun hg17=>?_))))))))))))))
     ·
      simp only[bs] at hg17
      refine aF rfl (bZ rfl eX cJ rfl) ?_
      refine aE aA 1 rfl (bK rfl rfl rfl (aK hf rfl (aR rfl rfl nT rfl (Nm.right_den e.user hu)) (aE aA 2 rfl (aD (hK54 _ (bA (hK4 _ (aC (fun K56 hK56=>(aB (aE aA 2 rfl (aY rfl rfl rfl (fun hg18=>?_) (fun hg18=>?_)))))))))))))
      ·
       refine aF rfl (bM rfl iE dC rfl rfl rfl) ?_
       refine aE aA 1 rfl (bK rfl rfl rfl (aF rfl (iR rfl rfl iD rfl) (aE aA 2 rfl (aD (hK56 _ (aJ ?_))))))
       refine⟨_,rfl,?_⟩
       refine aV ?_
       rw[Bool.eq_iff_iff]
       simp only[bH,dV]
       (have hlt:e.at'<1099511627776:=(by omega); simp_all[toList_inj,aZ,eq_comm (a:=(0:Int)) (b:=e.st),eq_comm (a:=(0:Int)) (b:=e.n)]; done)
      ·
       simp only[bs] at hg18
       refine aE aA 4 rfl (aD (hK56 _ (aJ ?_)))
       refine⟨_,rfl,?_⟩
       refine aV ?_
       rw[Bool.eq_iff_iff]
       simp only[bH,dV]
       (simp_all[toList_inj,aZ]; done)
     ·
      simp only[bs] at hg17
      refine aE aA 4 rfl (aD (hK54 _ (bA (hK4 _ (aC (fun K57 hK57=>(aB (aE aA 7 rfl (aD (hK57 _ (aJ ?_)))))))))))
      refine⟨_,rfl,?_⟩
      refine aV ?_
      rw[Bool.eq_iff_iff]
      simp only[bH,dV]
      (simp_all[toList_inj,aZ]; omega)
    ·
     simp only[bs] at hc16
     refine aL (hK52 _ (aC (fun K58 hK58=>(aC (fun K59 hK59=>(aC (fun K60 hK60=>(aB (aE aA 2 rfl (aD (hK60 _ (cM rfl rfl (fun hc19=>?_) (fun hc19=>?_)))))))))))))
     ·
      simp only[bs] at hc19
      refine aL (hK59 _ (cS rfl (bA (hK8 _ (aC (fun K61 hK61=>(aC (fun K62 hK62=>(eY bN ?_)))))))))
      refine bR (listed':=#[true,false,false,false,false,false,false,false]) 0 rfl (by kernel_rfl) (by kernel_rfl) (by kernel_rfl) rfl (fun _ _ h=>h) (qP rfl eX cJ rfl) ?_
      refine bR (listed':=#[true,false,true,false,false,false,false,false]) 2 rfl (by kernel_rfl) (by kernel_rfl) (by kernel_rfl) rfl (fun _ _ h=>h) (qP rfl tI cJ rfl) ?_
      refine lD (cD [1,3,4,54,56] rfl) (aH 1 [3] (by kernel_rfl) ⟨?_,?_,trivial⟩)
      ·
       refine⟨_,rfl,rfl,(ao rfl (aE aA 1 rfl (aG (aH 3 [4] (by kernel_rfl) ⟨?_,?_,trivial⟩))))⟩
       ·
        refine⟨_,rfl,rfl,(ao rfl (aE aA 1 rfl (aG (aH 4 [] (by kernel_rfl) ⟨?_,trivial⟩))))⟩
        ·
         refine⟨_,rfl,rfl,(ao rfl (aE aA 1 rfl (aG (aH 5 [] (by kernel_rfl) ⟨?_,trivial⟩))))⟩
         ·
          refine⟨_,rfl,rfl,(ao rfl (aP hf rfl rfl cJ rfl rfl (l1 rfl) (l4 rfl) rfl (aG (aH 6 [] (by kernel_rfl) ⟨?_,trivial⟩))))⟩
          ·
           refine⟨_,rfl,rfl,(ao rfl (aE aA 1 rfl (aG (aH 7 [] (by kernel_rfl) ⟨?_,trivial⟩))))⟩
           ·
            refine⟨_,rfl,rfl,(ao rfl (aP hf rfl rfl cJ rfl rfl (l1 rfl) (l4 rfl) rfl (aG (bW (by kernel_rfl) ?_))))⟩
            refine hK62 _ (aB (aE aA 2 rfl (aY rfl rfl rfl (fun hg21=>?_) (fun hg21=>?_))))
            ·
             simp only[bs] at hg21
             refine aF rfl (bZ rfl eX cJ rfl) ?_
             refine aE aA 3 rfl (bK rfl rfl rfl (aK hf rfl (aN kK rfl rfl rfl rfl (l2 rfl)) (bK rfl rfl rfl (aK hf rfl (aR rfl rfl jF rfl (Nm.all_den [e.user,e.other] (by refine⟨by simp,fun x hx=>?_⟩; simp at hx; rcases hx with rfl | rfl <;> assumption))) ?_))))
             refine aE aA 2 rfl (aD (hK61 _ (bA (hK4 _ (aC (fun K63 hK63=>(aB (aE aA 2 rfl (aY rfl rfl rfl (fun hg22=>?_) (fun hg22=>?_))))))))))
             ·
              refine aF rfl (bM rfl iE dC rfl rfl rfl) ?_
              refine aE aA 1 rfl (bK rfl rfl rfl (aF rfl (iR rfl rfl iD rfl) (aE aA 2 rfl (aD (hK63 _ (aJ ?_))))))
              refine⟨_,rfl,?_⟩
              refine aV ?_
              rw[Bool.eq_iff_iff]
              simp only[bH,dV]
              (have hlt:e.at'<1099511627776:=(by omega); simp_all[toList_inj,aZ,eq_comm (a:=(0:Int)) (b:=e.st),eq_comm (a:=(0:Int)) (b:=e.n)]; done)
             ·
              simp only[bs] at hg22
              refine aE aA 4 rfl (aD (hK63 _ (aJ ?_)))
              refine⟨_,rfl,?_⟩
              refine aV ?_
              rw[Bool.eq_iff_iff]
              simp only[bH,dV]
              (simp_all[toList_inj,aZ]; done)
            ·
             simp only[bs] at hg21
             refine aE aA 7 rfl (aD (hK61 _ (bA (hK4 _ (aC (fun K64 hK64=>(aB (aE aA 7 rfl (aD (hK64 _ (aJ ?_)))))))))))
             refine⟨_,rfl,?_⟩
             refine aV ?_
             rw[Bool.eq_iff_iff]
             simp only[bH,dV]
             (simp_all[toList_inj,aZ]; omega)
       ·
        refine⟨_,rfl,rfl,(ao rfl (aE aA 1 rfl (aG (aH 3 [5] (by kernel_rfl) ⟨?_,?_,trivial⟩))))⟩
        ·
         refine⟨_,rfl,rfl,(ao rfl (aE aA 1 rfl (aG (aH 5 [] (by kernel_rfl) ⟨?_,trivial⟩))))⟩
         ·
          refine⟨_,rfl,rfl,(ao rfl (aP hf rfl rfl cJ rfl rfl (l1 rfl) (l4 rfl) rfl (aG (aH 6 [] (by kernel_rfl) ⟨?_,trivial⟩))))⟩
          ·
           refine⟨_,rfl,rfl,(ao rfl (aE aA 1 rfl (aG (aH 7 [] (by kernel_rfl) ⟨?_,trivial⟩))))⟩
           ·
            refine⟨_,rfl,rfl,(ao rfl (aP hf rfl rfl cJ rfl rfl (l1 rfl) (l4 rfl) rfl (aG (bW (by kernel_rfl) ?_))))⟩
            refine hK62 _ (aB (aE aA 2 rfl (aY rfl rfl rfl (fun hg23=>?_) (fun hg23=>?_))))
            ·
             simp only[bs] at hg23
             refine aF rfl (bZ rfl eX cJ rfl) ?_
             refine aE aA 3 rfl (bK rfl rfl rfl (aK hf rfl (aN kK rfl rfl rfl rfl (l2 rfl)) (bK rfl rfl rfl (aK hf rfl (aR rfl rfl jF rfl (Nm.all_den [e.user,e.other] (by refine⟨by simp,fun x hx=>?_⟩; simp at hx; rcases hx with rfl | rfl <;> assumption))) ?_))))
             refine aE aA 2 rfl (aD (hK61 _ (bA (hK4 _ (aC (fun K65 hK65=>(aB (aE aA 2 rfl (aY rfl rfl rfl (fun hg24=>?_) (fun hg24=>?_))))))))))
             ·
              refine aF rfl (bM rfl iE dC rfl rfl rfl) ?_
              refine aE aA 1 rfl (bK rfl rfl rfl (aF rfl (iR rfl rfl iD rfl) (aE aA 2 rfl (aD (hK65 _ (aJ ?_))))))
              refine⟨_,rfl,?_⟩
              refine aV ?_
              rw[Bool.eq_iff_iff]
              simp only[bH,dV]
              (have hlt:e.at'<1099511627776:=(by omega); simp_all[toList_inj,aZ,eq_comm (a:=(0:Int)) (b:=e.st),eq_comm (a:=(0:Int)) (b:=e.n)]; done)
             ·
              simp only[bs] at hg24
              refine aE aA 4 rfl (aD (hK65 _ (aJ ?_)))
              refine⟨_,rfl,?_⟩
              refine aV ?_
              rw[Bool.eq_iff_iff]
              simp only[bH,dV]
              (simp_all[toList_inj,aZ]; done)
            ·
             simp only[bs] at hg23
             refine aE aA 7 rfl (aD (hK61 _ (bA (hK4 _ (aC (fun K66 hK66=>(aB (aE aA 7 rfl (aD (hK66 _ (aJ ?_)))))))))))
             refine⟨_,rfl,?_⟩
             refine aV ?_
             rw[Bool.eq_iff_iff]
             simp only[bH,dV]
             (simp_all[toList_inj,aZ]; omega)
        ·
         refine⟨_,rfl,rfl,(ao rfl (aP hf rfl rfl cJ rfl rfl (l1 rfl) (l4 rfl) rfl (aG (aH 3 [] (by kernel_rfl) ⟨?_,trivial⟩))))⟩
         ·
          refine⟨_,rfl,rfl,(ao rfl (aE aA 1 rfl (aG (aH 6 [] (by kernel_rfl) ⟨?_,trivial⟩))))⟩
          ·
           refine⟨_,rfl,rfl,(ao rfl (aE aA 1 rfl (aG (aH 7 [] (by kernel_rfl) ⟨?_,trivial⟩))))⟩
           ·
            refine⟨_,rfl,rfl,(ao rfl (aP hf rfl rfl cJ rfl rfl (l1 rfl) (l4 rfl) rfl (aG (bW (by kernel_rfl) ?_))))⟩
            refine hK62 _ (aB (aE aA 2 rfl (aY rfl rfl rfl (fun hg25=>?_) (fun hg25=>?_))))
            ·
             simp only[bs] at hg25
             refine aF rfl (bZ rfl eX cJ rfl) ?_
             refine aE aA 3 rfl (bK rfl rfl rfl (aK hf rfl (aN kK rfl rfl rfl rfl (l2 rfl)) (bK rfl rfl rfl (aK hf rfl (aR rfl rfl jF rfl (Nm.all_den [e.user,e.other] (by refine⟨by simp,fun x hx=>?_⟩; simp at hx; rcases hx with rfl | rfl <;> assumption))) ?_))))
             refine aE aA 2 rfl (aD (hK61 _ (bA (hK4 _ (aC (fun K67 hK67=>(aB (aE aA 2 rfl (aY rfl rfl rfl (fun hg26=>?_) (fun hg26=>?_))))))))))
             ·
              refine aF rfl (bM rfl iE dC rfl rfl rfl) ?_
              refine aE aA 1 rfl (bK rfl rfl rfl (aF rfl (iR rfl rfl iD rfl) (aE aA 2 rfl (aD (hK67 _ (aJ ?_))))))
              refine⟨_,rfl,?_⟩
              refine aV ?_
              rw[Bool.eq_iff_iff]
              simp only[bH,dV]
              (have hlt:e.at'<1099511627776:=(by omega); simp_all[toList_inj,aZ,eq_comm (a:=(0:Int)) (b:=e.st),eq_comm (a:=(0:Int)) (b:=e.n)]; done)
             ·
              simp only[bs] at hg26
              refine aE aA 4 rfl (aD (hK67 _ (aJ ?_)))
              refine⟨_,rfl,?_⟩
              refine aV ?_
              rw[Bool.eq_iff_iff]
              simp only[bH,dV]
              (simp_all[toList_inj,aZ]; done)
            ·
             simp only[bs] at hg25
             refine aE aA 7 rfl (aD (hK61 _ (bA (hK4 _ (aC (fun K68 hK68=>(aB (aE aA 7 rfl (aD (hK68 _ (aJ ?_)))))))))))
             refine⟨_,rfl,?_⟩
             refine aV ?_
             rw[Bool.eq_iff_iff]
             simp only[bH,dV]
             (simp_all[toList_inj,aZ]; omega)
      ·
       refine⟨_,rfl,rfl,(ao rfl (aE aA 1 rfl (aG (aH 1 [] (by kernel_rfl) ⟨?_,trivial⟩))))⟩
       ·
        refine⟨_,rfl,rfl,(ao rfl (aE aA 1 rfl (aG (aH 4 [] (by kernel_rfl) ⟨?_,trivial⟩))))⟩
        ·
         refine⟨_,rfl,rfl,(ao rfl (aE aA 1 rfl (aG (aH 5 [] (by kernel_rfl) ⟨?_,trivial⟩))))⟩
         ·
          refine⟨_,rfl,rfl,(ao rfl (aP hf rfl rfl cJ rfl rfl (l1 rfl) (l4 rfl) rfl (aG (aH 6 [] (by kernel_rfl) ⟨?_,trivial⟩))))⟩
          ·
           refine⟨_,rfl,rfl,(ao rfl (aE aA 1 rfl (aG (aH 7 [] (by kernel_rfl) ⟨?_,trivial⟩))))⟩
           ·
            refine⟨_,rfl,rfl,(ao rfl (aP hf rfl rfl cJ rfl rfl (l1 rfl) (l4 rfl) rfl (aG (bW (by kernel_rfl) ?_))))⟩
            refine hK62 _ (aB (aE aA 2 rfl (aY rfl rfl rfl (fun hg27=>?_) (fun hg27=>?_))))
            ·
             simp only[bs] at hg27
             refine aF rfl (bZ rfl eX cJ rfl) ?_
             refine aE aA 3 rfl (bK rfl rfl rfl (aK hf rfl (aN kK rfl rfl rfl rfl (l2 rfl)) (bK rfl rfl rfl (aK hf rfl (aR rfl rfl jF rfl (Nm.all_den [e.user,e.other] (by refine⟨by simp,fun x hx=>?_⟩; simp at hx; rcases hx with rfl | rfl <;> assumption))) ?_))))
             refine aE aA 2 rfl (aD (hK61 _ (bA (hK4 _ (aC (fun K69 hK69=>(aB (aE aA 2 rfl (aY rfl rfl rfl (fun hg28=>?_) (fun hg28=>?_))))))))))
             ·
              refine aF rfl (bM rfl iE dC rfl rfl rfl) ?_
              refine aE aA 1 rfl (bK rfl rfl rfl (aF rfl (iR rfl rfl iD rfl) (aE aA 2 rfl (aD (hK69 _ (aJ ?_))))))
              refine⟨_,rfl,?_⟩
              refine aV ?_
              rw[Bool.eq_iff_iff]
              simp only[bH,dV]
              (have hlt:e.at'<1099511627776:=(by omega); simp_all[toList_inj,aZ,eq_comm (a:=(0:Int)) (b:=e.st),eq_comm (a:=(0:Int)) (b:=e.n)]; done)
             ·
              simp only[bs] at hg28
              refine aE aA 4 rfl (aD (hK69 _ (aJ ?_)))
              refine⟨_,rfl,?_⟩
              refine aV ?_
              rw[Bool.eq_iff_iff]
              simp only[bH,dV]
              (simp_all[toList_inj,aZ]; done)
            ·
             simp only[bs] at hg27
             refine aE aA 7 rfl (aD (hK61 _ (bA (hK4 _ (aC (fun K70 hK70=>(aB (aE aA 7 rfl (aD (hK70 _ (aJ ?_)))))))))))
             refine⟨_,rfl,?_⟩
             refine aV ?_
             rw[Bool.eq_iff_iff]
             simp only[bH,dV]
             (simp_all[toList_inj,aZ]; omega)
     ·
      simp only[bs] at hc19
      refine aB (aE aA 2 rfl (aD (hK59 _ (cM rfl rfl (fun hc29=>?_) (fun hc29=>?_)))))
      ·
       simp only[bs] at hc29
       refine bA (hK8 _ (aC (fun K71 hK71=>(aC (fun K72 hK72=>(eY bN ?_))))))
       refine bR (listed':=#[true,false,false,false,false,false,false,false]) 0 rfl (by kernel_rfl) (by kernel_rfl) (by kernel_rfl) rfl (fun _ _ h=>h) (qP rfl eX cJ rfl) ?_
       refine bR (listed':=#[true,false,true,false,false,false,false,false]) 2 rfl (by kernel_rfl) (by kernel_rfl) (by kernel_rfl) rfl (fun _ _ h=>h) (qP rfl tI cJ rfl) ?_
       refine lD (cD [1,3,4,54,56] rfl) (aH 1 [3] (by kernel_rfl) ⟨?_,?_,trivial⟩)
       ·
        refine⟨_,rfl,rfl,(ao rfl (aE aA 1 rfl (aG (aH 3 [4] (by kernel_rfl) ⟨?_,?_,trivial⟩))))⟩
        ·
         refine⟨_,rfl,rfl,(ao rfl (aE aA 1 rfl (aG (aH 4 [] (by kernel_rfl) ⟨?_,trivial⟩))))⟩
         ·
          refine⟨_,rfl,rfl,(ao rfl (aE aA 1 rfl (aG (aH 5 [] (by kernel_rfl) ⟨?_,trivial⟩))))⟩
          ·
           refine⟨_,rfl,rfl,(ao rfl (aP hf rfl rfl cJ rfl rfl (l1 rfl) (l4 rfl) rfl (aG (aH 6 [] (by kernel_rfl) ⟨?_,trivial⟩))))⟩
           ·
            refine⟨_,rfl,rfl,(ao rfl (aE aA 1 rfl (aG (aH 7 [] (by kernel_rfl) ⟨?_,trivial⟩))))⟩
            ·
             refine⟨_,rfl,rfl,(ao rfl (aP hf rfl rfl cJ rfl rfl (l1 rfl) (l4 rfl) rfl (aG (bW (by kernel_rfl) ?_))))⟩
             refine hK72 _ (aB (aE aA 2 rfl (aY rfl rfl rfl (fun hg30=>?_) (fun hg30=>?_))))
             ·
              simp only[bs] at hg30
              refine aF rfl (bZ rfl eX cJ rfl) ?_
              refine aE aA 3 rfl (bK rfl rfl rfl (aK hf rfl (aN kK rfl rfl rfl rfl (l2 rfl)) (bK rfl rfl rfl (aK hf rfl (aR rfl rfl jF rfl (Nm.all_den [e.user,e.other] (by refine⟨by simp,fun x hx=>?_⟩; simp at hx; rcases hx with rfl | rfl <;> assumption))) ?_))))
              refine aE aA 2 rfl (aD (hK71 _ (bA (hK4 _ (aC (fun K73 hK73=>(aB (aE aA 2 rfl (aY rfl rfl rfl (fun hg31=>?_) (fun hg31=>?_))))))))))
              ·
               refine aF rfl (bM rfl iE dC rfl rfl rfl) ?_
               refine aE aA 1 rfl (bK rfl rfl rfl (aF rfl (iR rfl rfl iD rfl) (aE aA 2 rfl (aD (hK73 _ (aJ ?_))))))
               refine⟨_,rfl,?_⟩
               refine aV ?_
               rw[Bool.eq_iff_iff]
               simp only[bH,dV]
               (have hlt:e.at'<1099511627776:=(by omega); simp_all[toList_inj,aZ,eq_comm (a:=(0:Int)) (b:=e.st),eq_comm (a:=(0:Int)) (b:=e.n)]; done)
              ·
               simp only[bs] at hg31
               refine aE aA 4 rfl (aD (hK73 _ (aJ ?_)))
               refine⟨_,rfl,?_⟩
               refine aV ?_
               rw[Bool.eq_iff_iff]
               simp only[bH,dV]
               (simp_all[toList_inj,aZ]; done)
             ·
              simp only[bs] at hg30
              refine aE aA 7 rfl (aD (hK71 _ (bA (hK4 _ (aC (fun K74 hK74=>(aB (aE aA 7 rfl (aD (hK74 _ (aJ ?_)))))))))))
              refine⟨_,rfl,?_⟩
              refine aV ?_
              rw[Bool.eq_iff_iff]
              simp only[bH,dV]
              (simp_all[toList_inj,aZ]; omega)
        ·
         refine⟨_,rfl,rfl,(ao rfl (aE aA 1 rfl (aG (aH 3 [5] (by kernel_rfl) ⟨?_,?_,trivial⟩))))⟩
         ·
          refine⟨_,rfl,rfl,(ao rfl (aE aA 1 rfl (aG (aH 5 [] (by kernel_rfl) ⟨?_,trivial⟩))))⟩
          ·
           refine⟨_,rfl,rfl,(ao rfl (aP hf rfl rfl cJ rfl rfl (l1 rfl) (l4 rfl) rfl (aG (aH 6 [] (by kernel_rfl) ⟨?_,trivial⟩))))⟩
           ·
            refine⟨_,rfl,rfl,(ao rfl (aE aA 1 rfl (aG (aH 7 [] (by kernel_rfl) ⟨?_,trivial⟩))))⟩
            ·
             refine⟨_,rfl,rfl,(ao rfl (aP hf rfl rfl cJ rfl rfl (l1 rfl) (l4 rfl) rfl (aG (bW (by kernel_rfl) ?_))))⟩
             refine hK72 _ (aB (aE aA 2 rfl (aY rfl rfl rfl (fun hg32=>?_) (fun hg32=>?_))))
             ·
              simp only[bs] at hg32
              refine aF rfl (bZ rfl eX cJ rfl) ?_
              refine aE aA 3 rfl (bK rfl rfl rfl (aK hf rfl (aN kK rfl rfl rfl rfl (l2 rfl)) (bK rfl rfl rfl (aK hf rfl (aR rfl rfl jF rfl (Nm.all_den [e.user,e.other] (by refine⟨by simp,fun x hx=>?_⟩; simp at hx; rcases hx with rfl | rfl <;> assumption))) ?_))))
              refine aE aA 2 rfl (aD (hK71 _ (bA (hK4 _ (aC (fun K75 hK75=>(aB (aE aA 2 rfl (aY rfl rfl rfl (fun hg33=>?_) (fun hg33=>?_))))))))))
              ·
               refine aF rfl (bM rfl iE dC rfl rfl rfl) ?_
               refine aE aA 1 rfl (bK rfl rfl rfl (aF rfl (iR rfl rfl iD rfl) (aE aA 2 rfl (aD (hK75 _ (aJ ?_))))))
               refine⟨_,rfl,?_⟩
               refine aV ?_
               rw[Bool.eq_iff_iff]
               simp only[bH,dV]
               (have hlt:e.at'<1099511627776:=(by omega); simp_all[toList_inj,aZ,eq_comm (a:=(0:Int)) (b:=e.st),eq_comm (a:=(0:Int)) (b:=e.n)]; done)
              ·
               simp only[bs] at hg33
               refine aE aA 4 rfl (aD (hK75 _ (aJ ?_)))
               refine⟨_,rfl,?_⟩
               refine aV ?_
               rw[Bool.eq_iff_iff]
               simp only[bH,dV]
               (simp_all[toList_inj,aZ]; done)
             ·
              simp only[bs] at hg32
              refine aE aA 7 rfl (aD (hK71 _ (bA (hK4 _ (aC (fun K76 hK76=>(aB (aE aA 7 rfl (aD (hK76 _ (aJ ?_)))))))))))
              refine⟨_,rfl,?_⟩
              refine aV ?_
              rw[Bool.eq_iff_iff]
              simp only[bH,dV]
              (simp_all[toList_inj,aZ]; omega)
         ·
          refine⟨_,rfl,rfl,(ao rfl (aP hf rfl rfl cJ rfl rfl (l1 rfl) (l4 rfl) rfl (aG (aH 3 [] (by kernel_rfl) ⟨?_,trivial⟩))))⟩
          ·
           refine⟨_,rfl,rfl,(ao rfl (aE aA 1 rfl (aG (aH 6 [] (by kernel_rfl) ⟨?_,trivial⟩))))⟩
           ·
            refine⟨_,rfl,rfl,(ao rfl (aE aA 1 rfl (aG (aH 7 [] (by kernel_rfl) ⟨?_,trivial⟩))))⟩
            ·
             refine⟨_,rfl,rfl,(ao rfl (aP hf rfl rfl cJ rfl rfl (l1 rfl) (l4 rfl) rfl (aG (bW (by kernel_rfl) ?_))))⟩
             refine hK72 _ (aB (aE aA 2 rfl (aY rfl rfl rfl (fun hg34=>?_) (fun hg34=>?_))))
             ·
              simp only[bs] at hg34
              refine aF rfl (bZ rfl eX cJ rfl) ?_
              refine aE aA 3 rfl (bK rfl rfl rfl (aK hf rfl (aN kK rfl rfl rfl rfl (l2 rfl)) (bK rfl rfl rfl (aK hf rfl (aR rfl rfl jF rfl (Nm.all_den [e.user,e.other] (by refine⟨by simp,fun x hx=>?_⟩; simp at hx; rcases hx with rfl | rfl <;> assumption))) ?_))))
              refine aE aA 2 rfl (aD (hK71 _ (bA (hK4 _ (aC (fun K77 hK77=>(aB (aE aA 2 rfl (aY rfl rfl rfl (fun hg35=>?_) (fun hg35=>?_))))))))))
              ·
               refine aF rfl (bM rfl iE dC rfl rfl rfl) ?_
               refine aE aA 1 rfl (bK rfl rfl rfl (aF rfl (iR rfl rfl iD rfl) (aE aA 2 rfl (aD (hK77 _ (aJ ?_))))))
               refine⟨_,rfl,?_⟩
               refine aV ?_
               rw[Bool.eq_iff_iff]
               simp only[bH,dV]
               (have hlt:e.at'<1099511627776:=(by omega); simp_all[toList_inj,aZ,eq_comm (a:=(0:Int)) (b:=e.st),eq_comm (a:=(0:Int)) (b:=e.n)]; done)
              ·
               simp only[bs] at hg35
               refine aE aA 4 rfl (aD (hK77 _ (aJ ?_)))
               refine⟨_,rfl,?_⟩
               refine aV ?_
               rw[Bool.eq_iff_iff]
               simp only[bH,dV]
               (simp_all[toList_inj,aZ]; done)
             ·
              simp only[bs] at hg34
              refine aE aA 7 rfl (aD (hK71 _ (bA (hK4 _ (aC (fun K78 hK78=>(aB (aE aA 7 rfl (aD (hK78 _ (aJ ?_)))))))))))
              refine⟨_,rfl,?_⟩
              refine aV ?_
              rw[Bool.eq_iff_iff]
              simp only[bH,dV]
              (simp_all[toList_inj,aZ]; omega)
       ·
        refine⟨_,rfl,rfl,(ao rfl (aE aA 1 rfl (aG (aH 1 [] (by kernel_rfl) ⟨?_,trivial⟩))))⟩
        ·
         refine⟨_,rfl,rfl,(ao rfl (aE aA 1 rfl (aG (aH 4 [] (by kernel_rfl) ⟨?_,trivial⟩))))⟩
         ·
          refine⟨_,rfl,rfl,(ao rfl (aE aA 1 rfl (aG (aH 5 [] (by kernel_rfl) ⟨?_,trivial⟩))))⟩
          ·
           refine⟨_,rfl,rfl,(ao rfl (aP hf rfl rfl cJ rfl rfl (l1 rfl) (l4 rfl) rfl (aG (aH 6 [] (by kernel_rfl) ⟨?_,trivial⟩))))⟩
           ·
            refine⟨_,rfl,rfl,(ao rfl (aE aA 1 rfl (aG (aH 7 [] (by kernel_rfl) ⟨?_,trivial⟩))))⟩
            ·
             refine⟨_,rfl,rfl,(ao rfl (aP hf rfl rfl cJ rfl rfl (l1 rfl) (l4 rfl) rfl (aG (bW (by kernel_rfl) ?_))))⟩
             refine hK72 _ (aB (aE aA 2 rfl (aY rfl rfl rfl (fun hg36=>?_) (fun hg36=>?_))))
             ·
              simp only[bs] at hg36
              refine aF rfl (bZ rfl eX cJ rfl) ?_
              refine aE aA 3 rfl (bK rfl rfl rfl (aK hf rfl (aN kK rfl rfl rfl rfl (l2 rfl)) (bK rfl rfl rfl (aK hf rfl (aR rfl rfl jF rfl (Nm.all_den [e.user,e.other] (by refine⟨by simp,fun x hx=>?_⟩; simp at hx; rcases hx with rfl | rfl <;> assumption))) ?_))))
              refine aE aA 2 rfl (aD (hK71 _ (bA (hK4 _ (aC (fun K79 hK79=>(aB (aE aA 2 rfl (aY rfl rfl rfl (fun hg37=>?_) (fun hg37=>?_))))))))))
              ·
               refine aF rfl (bM rfl iE dC rfl rfl rfl) ?_
               refine aE aA 1 rfl (bK rfl rfl rfl (aF rfl (iR rfl rfl iD rfl) (aE aA 2 rfl (aD (hK79 _ (aJ ?_))))))
               refine⟨_,rfl,?_⟩
               refine aV ?_
               rw[Bool.eq_iff_iff]
               simp only[bH,dV]
               (have hlt:e.at'<1099511627776:=(by omega); simp_all[toList_inj,aZ,eq_comm (a:=(0:Int)) (b:=e.st),eq_comm (a:=(0:Int)) (b:=e.n)]; done)
              ·
               simp only[bs] at hg37
               refine aE aA 4 rfl (aD (hK79 _ (aJ ?_)))
               refine⟨_,rfl,?_⟩
               refine aV ?_
               rw[Bool.eq_iff_iff]
               simp only[bH,dV]
               (simp_all[toList_inj,aZ]; done)
             ·
              simp only[bs] at hg36
              refine aE aA 7 rfl (aD (hK71 _ (bA (hK4 _ (aC (fun K80 hK80=>(aB (aE aA 7 rfl (aD (hK80 _ (aJ ?_)))))))))))
              refine⟨_,rfl,?_⟩
              refine aV ?_
              rw[Bool.eq_iff_iff]
              simp only[bH,dV]
              (simp_all[toList_inj,aZ]; omega)
      ·
       simp only[bs] at hc29
       refine aL (hK58 _ (aC (fun K81 hK81=>(aB (aE aA 2 rfl (aD (hK81 _ (cM rfl rfl (fun hc38=>?_) (fun hc38=>?_)))))))))
       ·
        simp only[bs] at hc38
        refine bA (hK7 _ (aC (fun K82 hK82=>(aC (fun K83 hK83=>(aB (aE aA 3 rfl (aP hf rfl rfl cB rfl rfl (l1 rfl) (l4 rfl) rfl (aD (hK83 _ (aB (aE aA 2 rfl (aY rfl rfl rfl (fun hg39=>?_) (fun hg39=>?_))))))))))))))
        ·
         simp only[bs] at hg39
         refine aF rfl (bZ rfl qE cB rfl) ?_
         refine aE aA 1 rfl (bK rfl rfl rfl (aK hf rfl (aR rfl rfl kG rfl (jZ _ _ _)) (aE aA 2 rfl (aD (hK82 _ (bA (hK4 _ (aC (fun K84 hK84=>(aB (aE aA 2 rfl (aY rfl rfl rfl (fun hg40=>?_) (fun hg40=>?_)))))))))))))
         ·
          simp only[bs] at hg40
          refine aF rfl (bM rfl iE dC rfl rfl rfl) ?_
          refine aE aA 1 rfl (bK rfl rfl rfl (aF rfl (iR rfl rfl iD rfl) (aE aA 2 rfl (aD (hK84 _ (aJ ?_))))))
          refine⟨_,rfl,?_⟩
          refine aV ?_
          rw[Bool.eq_iff_iff]
          simp only[bH,dV]
          (have hlt:e.at'<1099511627776:=(by omega); have hln:e.n<1099511627776:=(by omega); simp_all[toList_inj,aZ,eq_comm (a:=(0:Int)) (b:=e.st),eq_comm (a:=(0:Int)) (b:=e.n)]; done)
         ·
          simp only[bs] at hg40
          refine aE aA 4 rfl (aD (hK84 _ (aJ ?_)))
          refine⟨_,rfl,?_⟩
          refine aV ?_
          rw[Bool.eq_iff_iff]
          simp only[bH,dV]
          (simp_all[toList_inj,aZ]; omega)
        ·
         simp only[bs] at hg39
         refine aE aA 4 rfl (aD (hK82 _ (bA (hK4 _ (aC (fun K85 hK85=>(aB (aE aA 7 rfl (aD (hK85 _ (aJ ?_)))))))))))
         refine⟨_,rfl,?_⟩
         refine aV ?_
         rw[Bool.eq_iff_iff]
         simp only[bH,dV]
         (simp_all[toList_inj,aZ]; omega)
       ·
        simp only[bs] at hc38
        refine aL (hK12 _ (bA (hK6 _ (aC (fun K86 hK86=>(aC (fun K87 hK87=>(aB (aE aA 1 rfl (aD (hK87 _ (aJ ?_))))))))))))
        refine⟨_,rfl,?_⟩
        refine aV ?_
        rw[Bool.eq_iff_iff]
        simp only[bH,dV]
        (simp_all[toList_inj,aZ]; done)
theorem rT (e:Ev) (hu:TS e.user) (ho:TS e.other) :Den Tryz.prog 168 [.agg (evC e)]  (·=.s (.bool (dV e))):=by
 refine aS Tryz.func168 rfl (Nat.le_of_ble_eq_true rfl) (fun w0 A hf=>(aC (fun K1 hK1=>(aB (aK hf rfl (cL rfl rfl (lf rfl)) (aE aA 1 rfl (aD (hK1 _ (aC (fun K2 hK2=>(aB (aE aA 4 rfl (aY rfl rfl rfl (fun hg1=>?_) (fun hg1=>?_))))))))))))))
 ·
  simp only[bs] at hg1
  refine aF rfl (bZ rfl lX cB rfl) ?_
  refine aE aA 4 rfl (aY rfl rfl rfl (fun hg2=>?_) (fun hg2=>?_))
  ·
   simp only[bs] at hg2
   refine aF rfl (bZ rfl aJ4 cJ rfl) ?_
   refine aE aA 1 rfl (bK rfl rfl rfl (aK hf rfl (aR rfl rfl mY rfl (Nm.refRight_den _ (by assumption))) (aE aA 2 rfl (aY rfl rfl rfl (fun hg3=>?_) (fun hg3=>?_)))))
   ·
    refine aF rfl (bZ rfl nS cJ rfl) ?_
    refine aE aA 4 rfl (aD (hK2 _ (aJ ?_)))
    refine⟨_,rfl,?_⟩
    refine aV ?_
    rw[Bool.eq_iff_iff]
    simp only[bH,dV]
    (simp_all[toList_inj,aZ]; done)
   ·
    simp only[bs] at hg3
    refine aE aA 4 rfl (aD (hK2 _ (aJ ?_)))
    refine⟨_,rfl,?_⟩
    refine aV ?_
    rw[Bool.eq_iff_iff]
    simp only[bH,dV]
    (simp_all[toList_inj,aZ]; done)
  ·
   simp only[bs] at hg2
   refine aE aA 9 rfl (aD (hK2 _ (aJ ?_)))
   refine⟨_,rfl,?_⟩
   refine aV ?_
   rw[Bool.eq_iff_iff]
   simp only[bH,dV]
   (simp_all[toList_inj,aZ]; omega)
 ·
  simp only[bs] at hg1
  refine aE aA 14 rfl (aD (hK2 _ (aJ ?_)))
  refine⟨_,rfl,?_⟩
  refine aV ?_
  rw[Bool.eq_iff_iff]
  simp only[bH,dV]
  (simp_all[toList_inj,aZ]; omega)
theorem fF (e:Ev) (hu:TS e.user) (ho:TS e.other) :Den Tryz.prog 101 [.agg (evC e)]  (·=.s (.bool (bH e))):=by
 refine aS Tryz.func101 rfl (Nat.le_of_ble_eq_true rfl) (fun w0 A hf=>(aC (fun K1 hK1=>(aB (aK hf rfl (cL rfl rfl (lf rfl)) (aE aA 1 rfl (aD (hK1 _ (aC (fun K2 hK2=>(aC (fun K3 hK3=>(aB (aE aA 4 rfl (aY rfl rfl rfl (fun hg1=>?_) (fun hg1=>?_))))))))))))))))
 ·
  simp only[bs] at hg1
  refine aF rfl (bZ rfl aJ5 cB rfl) ?_
  refine aE aA 3 rfl (aD (hK3 _ (cM rfl rfl (fun hc2=>?_) (fun hc2=>?_))))
  ·
   simp only[bs] at hc2
   refine aC (fun K4 hK4=>(aB (aE aA 1 rfl (aD (hK4 _ (aJ ?_))))))
   refine⟨_,rfl,?_⟩
   refine aV ?_
   rw[Bool.eq_iff_iff]
   simp only[bH]
   (simp_all[toList_inj,aZ]; omega)
  ·
   simp only[bs] at hc2
   refine aL (hK2 _ (aC (fun K5 hK5=>(aC (fun K6 hK6=>(aB (aE aA 2 rfl (aD (hK6 _ (aO (aC (fun K7 hK7=>(aC (fun K8 hK8=>(aB (aE aA 2 rfl ?_))))))))))))))))
   refine aD (hK8 _ (cM rfl rfl (fun hc3=>?_) (fun hc3=>?_)))
   ·
    simp only[bs] at hc3
    refine aL (hK7 _ (cS rfl (aC (fun K9 hK9=>(aB (aE aA 1 rfl (aK hf rfl (aR rfl rfl tM rfl (rT e hu ho)) (aE aA 1 rfl (aY rfl rfl rfl (fun hg5=>?_) (fun hg5=>?_))))))))))
    ·
     refine aF rfl (bZ rfl iG cB rfl) ?_
     refine aE aA 4 rfl (aY rfl rfl rfl (fun hg6=>?_) (fun hg6=>?_))
     ·
      simp only[bs] at hg6
      refine aF rfl (bZ rfl iG cB rfl) ?_
      refine aE aA 4 rfl (aD (hK9 _ (aJ ?_)))
      refine⟨_,rfl,?_⟩
      refine aV ?_
      rw[Bool.eq_iff_iff]
      simp only[bH]
      (simp_all[toList_inj,aZ]; done)
     ·
      simp only[bs] at hg6
      refine aE aA 4 rfl (aD (hK9 _ (aJ ?_)))
      refine⟨_,rfl,?_⟩
      refine aV ?_
      rw[Bool.eq_iff_iff]
      simp only[bH]
      (simp_all[toList_inj,aZ]; omega)
    ·
     simp only[bs] at hg5
     refine aE aA 9 rfl (aD (hK9 _ (aJ ?_)))
     refine⟨_,rfl,?_⟩
     refine aV ?_
     rw[Bool.eq_iff_iff]
     simp only[bH]
     (simp_all[toList_inj,aZ]; done)
   ·
    simp only[bs] at hc3
    refine aB (aE aA 2 rfl (aD (hK7 _ (cM rfl rfl (fun hc7=>?_) (fun hc7=>?_)))))
    ·
     simp only[bs] at hc7
     refine aC (fun K10 hK10=>(aB (aE aA 1 rfl (aK hf rfl (aR rfl rfl tM rfl (rT e hu ho)) (aE aA 1 rfl (aY rfl rfl rfl (fun hg8=>?_) (fun hg8=>?_)))))))
     ·
      refine aF rfl (bZ rfl iG cB rfl) ?_
      refine aE aA 4 rfl (aY rfl rfl rfl (fun hg9=>?_) (fun hg9=>?_))
      ·
       simp only[bs] at hg9
       refine aF rfl (bZ rfl iG cB rfl) ?_
       refine aE aA 4 rfl (aD (hK10 _ (aJ ?_)))
       refine⟨_,rfl,?_⟩
       refine aV ?_
       rw[Bool.eq_iff_iff]
       simp only[bH]
       (simp_all[toList_inj,aZ]; done)
      ·
       simp only[bs] at hg9
       refine aE aA 4 rfl (aD (hK10 _ (aJ ?_)))
       refine⟨_,rfl,?_⟩
       refine aV ?_
       rw[Bool.eq_iff_iff]
       simp only[bH]
       (simp_all[toList_inj,aZ]; omega)
     ·
      simp only[bs] at hg8
      refine aE aA 9 rfl (aD (hK10 _ (aJ ?_)))
      refine⟨_,rfl,?_⟩
      refine aV ?_
      rw[Bool.eq_iff_iff]
      simp only[bH]
      (simp_all[toList_inj,aZ]; done)
    ·
     simp only[bs] at hc7
     refine aC (fun K11 hK11=>(aB (aE aA 2 rfl (aD (hK11 _ (cM rfl rfl (fun hc10=>?_) (fun hc10=>?_)))))))
     ·
      simp only[bs] at hc10
      refine aC (fun K12 hK12=>(aB (aE aA 1 rfl (aK hf rfl (aR rfl rfl tM rfl (rT e hu ho)) (aE aA 1 rfl (aY rfl rfl rfl (fun hg11=>?_) (fun hg11=>?_)))))))
      ·
       refine aF rfl (bZ rfl iG cB rfl) ?_
       refine aE aA 4 rfl (aD (hK12 _ (aJ ?_)))
       refine⟨_,rfl,?_⟩
       refine aV ?_
       rw[Bool.eq_iff_iff]
       simp only[bH]
       (simp_all[toList_inj,aZ]; done)
      ·
       simp only[bs] at hg11
       refine aE aA 4 rfl (aD (hK12 _ (aJ ?_)))
       refine⟨_,rfl,?_⟩
       refine aV ?_
       rw[Bool.eq_iff_iff]
       simp only[bH]
       (simp_all[toList_inj,aZ]; done)
     ·
      simp only[bs] at hc10
      refine aC (fun K13 hK13=>(aC (fun K14 hK14=>(aB (aE aA 2 rfl (aD (hK14 _ (cM rfl rfl (fun hc12=>?_) (fun hc12=>?_)))))))))
      ·
       simp only[bs] at hc12
       refine aL (hK13 _ (cS rfl (aC (fun K15 hK15=>(aB (aE aA 2 rfl (aK hf rfl (aR rfl rfl mY rfl (Nm.refRight_den _ (by assumption))) (aE aA 1 rfl (aY rfl rfl rfl (fun hg14=>?_) (fun hg14=>?_))))))))))
       ·
        refine aF rfl (bZ rfl nS cJ rfl) ?_
        refine aE aA 1 rfl (bK rfl rfl rfl (aK hf rfl (aR rfl rfl mY rfl (Nm.refRight_den _ (by assumption))) (aE aA 2 rfl (aY rfl rfl rfl (fun hg15=>?_) (fun hg15=>?_)))))
        ·
         refine aF rfl (bZ rfl lX cB rfl) ?_
         refine aE aA 4 rfl (aY rfl rfl rfl (fun hg16=>?_) (fun hg16=>?_))
         ·
          simp only[bs] at hg16
          refine aF rfl (bZ rfl iG cB rfl) ?_
          refine aE aA 4 rfl (aD (hK15 _ (aJ ?_)))
          refine⟨_,rfl,?_⟩
          refine aV ?_
          rw[Bool.eq_iff_iff]
          simp only[bH]
          (simp_all[toList_inj,aZ]; done)
         ·
          simp only[bs] at hg16
          refine aE aA 4 rfl (aD (hK15 _ (aJ ?_)))
          refine⟨_,rfl,?_⟩
          refine aV ?_
          rw[Bool.eq_iff_iff]
          simp only[bH]
          (simp_all[toList_inj,aZ]; done)
        ·
         simp only[bs] at hg15
         refine aE aA 9 rfl (aD (hK15 _ (aJ ?_)))
         refine⟨_,rfl,?_⟩
         refine aV ?_
         rw[Bool.eq_iff_iff]
         simp only[bH]
         (simp_all[toList_inj,aZ]; done)
       ·
        simp only[bs] at hg14
        refine aE aA 14 rfl (aD (hK15 _ (aJ ?_)))
        refine⟨_,rfl,?_⟩
        refine aV ?_
        rw[Bool.eq_iff_iff]
        simp only[bH]
        (simp_all[toList_inj,aZ]; done)
      ·
       simp only[bs] at hc12
       refine aB (aE aA 2 rfl (aD (hK13 _ (cM rfl rfl (fun hc17=>?_) (fun hc17=>?_)))))
       ·
        simp only[bs] at hc17
        refine aC (fun K16 hK16=>(aB (aE aA 2 rfl (aK hf rfl (aR rfl rfl mY rfl (Nm.refRight_den _ (by assumption))) (aE aA 1 rfl (aY rfl rfl rfl (fun hg18=>?_) (fun hg18=>?_)))))))
        ·
         refine aF rfl (bZ rfl nS cJ rfl) ?_
         refine aE aA 1 rfl (bK rfl rfl rfl (aK hf rfl (aR rfl rfl mY rfl (Nm.refRight_den _ (by assumption))) (aE aA 2 rfl (aY rfl rfl rfl (fun hg19=>?_) (fun hg19=>?_)))))
         ·
          refine aF rfl (bZ rfl lX cB rfl) ?_
          refine aE aA 4 rfl (aY rfl rfl rfl (fun hg20=>?_) (fun hg20=>?_))
          ·
           simp only[bs] at hg20
           refine aF rfl (bZ rfl iG cB rfl) ?_
           refine aE aA 4 rfl (aD (hK16 _ (aJ ?_)))
           refine⟨_,rfl,?_⟩
           refine aV ?_
           rw[Bool.eq_iff_iff]
           simp only[bH]
           (simp_all[toList_inj,aZ]; done)
          ·
           simp only[bs] at hg20
           refine aE aA 4 rfl (aD (hK16 _ (aJ ?_)))
           refine⟨_,rfl,?_⟩
           refine aV ?_
           rw[Bool.eq_iff_iff]
           simp only[bH]
           (simp_all[toList_inj,aZ]; done)
         ·
          simp only[bs] at hg19
          refine aE aA 9 rfl (aD (hK16 _ (aJ ?_)))
          refine⟨_,rfl,?_⟩
          refine aV ?_
          rw[Bool.eq_iff_iff]
          simp only[bH]
          (simp_all[toList_inj,aZ]; done)
        ·
         simp only[bs] at hg18
         refine aE aA 14 rfl (aD (hK16 _ (aJ ?_)))
         refine⟨_,rfl,?_⟩
         refine aV ?_
         rw[Bool.eq_iff_iff]
         simp only[bH]
         (simp_all[toList_inj,aZ]; done)
       ·
        simp only[bs] at hc17
        refine aC (fun K17 hK17=>(aB (aE aA 2 rfl (aD (hK17 _ (cM rfl rfl (fun hc21=>?_) (fun hc21=>?_)))))))
        ·
         simp only[bs] at hc21
         refine aC (fun K18 hK18=>(aB (aE aA 4 rfl (aY rfl rfl rfl (fun hg22=>?_) (fun hg22=>?_)))))
         ·
          simp only[bs] at hg22
          refine aF rfl (bZ rfl nS cJ rfl) ?_
          refine aE aA 4 rfl (aY rfl rfl rfl (fun hg23=>?_) (fun hg23=>?_))
          ·
           simp only[bs] at hg23
           refine aF rfl (bZ rfl iG cB rfl) ?_
           refine aE aA 4 rfl (aY rfl rfl rfl (fun hg24=>?_) (fun hg24=>?_))
           ·
            simp only[bs] at hg24
            refine aF rfl (bZ rfl lX cB rfl) ?_
            refine aE aA 4 rfl (aY rfl rfl rfl (fun hg25=>?_) (fun hg25=>?_))
            ·
             simp only[bs] at hg25
             refine aF rfl (bZ rfl lX cB rfl) ?_
             refine aE aA 4 rfl (aD (hK18 _ (aJ ?_)))
             refine⟨_,rfl,?_⟩
             refine aV ?_
             rw[Bool.eq_iff_iff]
             simp only[bH]
             (simp_all[toList_inj,aZ]; done)
            ·
             simp only[bs] at hg25
             refine aE aA 4 rfl (aD (hK18 _ (aJ ?_)))
             refine⟨_,rfl,?_⟩
             refine aV ?_
             rw[Bool.eq_iff_iff]
             simp only[bH]
             (have hlt:e.at'<1099511627776:=(by omega); have hln:e.n<1099511627776:=(by omega); simp_all[toList_inj,aZ,eq_comm (a:=(0:Int)) (b:=e.st),eq_comm (a:=(0:Int)) (b:=e.n)]; done)
           ·
            simp only[bs] at hg24
            refine aE aA 9 rfl (aD (hK18 _ (aJ ?_)))
            refine⟨_,rfl,?_⟩
            refine aV ?_
            rw[Bool.eq_iff_iff]
            simp only[bH]
            (simp_all[toList_inj,aZ]; done)
          ·
           simp only[bs] at hg23
           refine aE aA 14 rfl (aD (hK18 _ (aJ ?_)))
           refine⟨_,rfl,?_⟩
           refine aV ?_
           rw[Bool.eq_iff_iff]
           simp only[bH]
           (simp_all[toList_inj,aZ]; done)
         ·
          simp only[bs] at hg22
          refine aE aA 19 rfl (aD (hK18 _ (aJ ?_)))
          refine⟨_,rfl,?_⟩
          refine aV ?_
          rw[Bool.eq_iff_iff]
          simp only[bH]
          (simp_all[toList_inj,aZ]; done)
        ·
         simp only[bs] at hc21
         refine aC (fun K19 hK19=>(aB (aE aA 2 rfl (aD (hK19 _ (cM rfl rfl (fun hc26=>?_) (fun hc26=>?_)))))))
         ·
          simp only[bs] at hc26
          refine aC (fun K20 hK20=>(aB (aE aA 2 rfl (aK hf rfl (aR rfl rfl mY rfl (Nm.refRight_den _ (by assumption))) (aE aA 1 rfl (aY rfl rfl rfl (fun hg27=>?_) (fun hg27=>?_)))))))
          ·
           refine aF rfl (bZ rfl nS cJ rfl) ?_
           refine aE aA 4 rfl (aY rfl rfl rfl (fun hg28=>?_) (fun hg28=>?_))
           ·
            simp only[bs] at hg28
            refine aF rfl (bZ rfl lX cB rfl) ?_
            refine aE aA 4 rfl (aY rfl rfl rfl (fun hg29=>?_) (fun hg29=>?_))
            ·
             simp only[bs] at hg29
             refine aF rfl (bZ rfl iG cB rfl) ?_
             refine aE aA 4 rfl (aD (hK20 _ (aJ ?_)))
             refine⟨_,rfl,?_⟩
             refine aV ?_
             rw[Bool.eq_iff_iff]
             simp only[bH]
             (simp_all[toList_inj,aZ]; done)
            ·
             simp only[bs] at hg29
             refine aE aA 4 rfl (aD (hK20 _ (aJ ?_)))
             refine⟨_,rfl,?_⟩
             refine aV ?_
             rw[Bool.eq_iff_iff]
             simp only[bH]
             (simp_all[toList_inj,aZ]; done)
           ·
            simp only[bs] at hg28
            refine aE aA 9 rfl (aD (hK20 _ (aJ ?_)))
            refine⟨_,rfl,?_⟩
            refine aV ?_
            rw[Bool.eq_iff_iff]
            simp only[bH]
            (simp_all[toList_inj,aZ]; done)
          ·
           simp only[bs] at hg27
           refine aE aA 14 rfl (aD (hK20 _ (aJ ?_)))
           refine⟨_,rfl,?_⟩
           refine aV ?_
           rw[Bool.eq_iff_iff]
           simp only[bH]
           (simp_all[toList_inj,aZ]; done)
         ·
          simp only[bs] at hc26
          refine aL (hK5 _ (aC (fun K21 hK21=>(aB (aE aA 1 rfl (aD (hK21 _ (aJ ?_))))))))
          refine⟨_,rfl,?_⟩
          refine aV ?_
          rw[Bool.eq_iff_iff]
          simp only[bH]
          (simp_all[toList_inj,aZ]; done)
 ·
  simp only[bs] at hg1
  refine aE aA 3 rfl (aD (hK3 _ (cS rfl (aC (fun K22 hK22=>(aB (aE aA 1 rfl (aD (hK22 _ (aJ ?_))))))))))
  refine⟨_,rfl,?_⟩
  refine aV ?_
  rw[Bool.eq_iff_iff]
  simp only[bH]
  (simp_all[toList_inj,aZ]; omega)
end Go.Proofs.YtijnkglkchhomaaGreat
set_option linter.unusedVariables false
set_option linter.unusedSimpArgs false
namespace Go.Proofs.YtijnkglkchhomaaGreat
open Go Go.Abs
theorem aJj (s:Sta) (e:Ev) (hz:SzS 140737488355100 s) (hr:cQ cR s.usr) (hr2:cQ dZ s.tmb) (he:bH e=true):DenX Tryz.prog 88 [.agg (eK s E0 E1),.agg (evC e)] [(E0,.buf 2 (s.usr.map usC)),(E1,.buf 2 (s.tmb.map tmC))] (fun r m=>r=.tup [.agg (eK (bG s e).1 E0 E1),.s (.int .i64 (bG s e).2)]∧m=[(E0,.buf 2 ((bG s e).1.usr.map usC)),(E1,.buf 2 ((bG s e).1.tmb.map tmC))]):=by
  rcases rG he with ⟨hk,_⟩ | ⟨hk,_⟩ | ⟨hk,_⟩ | ⟨hk,_⟩ | ⟨hk,_⟩ | ⟨hk,_⟩ | ⟨hk,_⟩
  · exact aQg s e hz hr hr2 hk
  · exact aQf s e hz hr hr2 hk
  · exact aQe s e hz hr hr2 hk
  · exact aQd s e hz hr hr2 hk
  · exact aQc s e hz hr hr2 hk
  · exact aQb s e hz hr hr2 hk
  · exact aQa s e hz hr hr2 hk
theorem fW:∀ (w:World) (p:Hp) (v:Value),RelV w p (.agg [.s (.int .i64 0),.s (.int .i64 0),.s (.slice none 0 0),.s (.slice none 0 0),.s (.slice none 0 0),.s (.slice none 0 0)]) v→RelV w p (.agg (bU cU)) v:=by
  intro w p v h
  cases h with
  | agg _ vs hl h =>
    refine .agg _ _ hl fun i c v hc hv=>?_
    match i,hc with
    | 0,hc=>cases hc; exact h 0 _ v rfl hv
    | 1,hc=>cases hc; exact h 1 _ v rfl hv
    | 2,hc=>cases hc; have:=h 2 _ v rfl hv; cases this; exact .sln 4 none 0 (by simp [maxLen])
    | 3,hc=>cases hc; have:=h 3 _ v rfl hv; cases this; exact .sln 2 none 0 (by simp [maxLen])
    | 4,hc=>cases hc; have:=h 4 _ v rfl hv; cases this; exact .sln 4 none 0 (by simp [maxLen])
    | 5,hc=>cases hc; have:=h 5 _ v rfl hv; cases this; exact .sln 2 none 0 (by simp [maxLen])
theorem sP (s:Sta):(AV.agg (eK s E0 E1)).ren [(E0,222),(E1,223)]=.agg (eK s 222 223):=rfl
theorem aHs (s:Sta) (z:Int):(AV.tup [.agg (eK s E0 E1),.s (.int .i64 z)]).ren [(E0,222),(E1,223)]=.tup [.agg (eK s 222 223),.s (.int .i64 z)]:=rfl
theorem aJw (s:Sta) (e:Ev) (hz:SzS 140737488355100 s) (hr:cQ cR s.usr) (hr2:cQ dZ s.tmb) (hu:TS e.user) (ho:TS e.other) :Den Tryz.prog 42 [.agg (bU s),.agg (evC e)]  (·=.tup [.agg (bU (bI s e).1),.s (.int .i64 (bI s e).2)]):=by
 refine aS Tryz.func42 rfl (Nat.le_of_ble_eq_true rfl) (fun w0 A hf=>(aC (fun K1 hK1=>(aB (aK hf rfl (cL rfl rfl (lf rfl)) (aK hf rfl (cL rfl rfl (lf rfl)) (bQ hf rfl rfl rfl cK (aE aA 1 rfl (aD (hK1 _ (aC (fun K2 hK2=>(aO (aC (fun K3 hK3=>(aB ?_))))))))))))))))
 refine aE aA 1 rfl (aK hf rfl (aR rfl rfl aNj rfl (aHp e hu ho)) (aE aA 2 rfl (aD (hK3 _ (cM rfl rfl (fun hc1=>?_) (fun hc1=>?_))))))
 ·
  simp only[bs] at hc1
  refine aC (fun K4 hK4=>(aB (aF rfl (bO rfl cK oQ (l3 rfl) rfl) (aQ (iS fW) (aP hf rfl rfl cW rfl rfl (l1 rfl) (l4 rfl) rfl (aE aA 1 rfl (aD (hK4 _ (aJ ?_)))))))))
  refine⟨_,rfl,?_⟩
  rw[show bI s e=(cU,110) from by rw[bI,if_neg (by simp_all)]]; rfl
 ·
  simp only[bs] at hc1
  refine aC (fun K5 hK5=>(aB (aE aA 6 rfl (aD (hK5 _ (cM rfl rfl (fun hc2=>?_) (fun hc2=>?_)))))))
  ·
   simp only[bs] at hc2
   refine aC (fun K6 hK6=>(aB (aF rfl (bO rfl cK oQ (l3 rfl) rfl) (aQ (iS fW) (aP hf rfl rfl cW rfl rfl (l1 rfl) (l4 rfl) rfl (aE aA 1 rfl (aD (hK6 _ (aJ ?_)))))))))
   refine⟨_,rfl,?_⟩
   rw[show bI s e=(cU,111) from by rw[bI,if_pos (by simp_all),if_pos (by first | assumption | omega)]]; rfl
  ·
   simp only[bs] at hc2
   refine aL (hK2 _ (aC (fun K7 hK7=>(eY bN ?_))))
   refine bC 1 #[true,true,true,true,true,true,true,true,true,false] ⟨35,[(3,.adr (evC e)),(4,.ref 4 0 0 0),(6,.ref 6 0 0 0),(26,.s (.int .i64 (bG s e).2))],[(6,.box (eK (bG s e).1 222 223)),(222,.buf 2 ((bG s e).1.usr.map usC)),(223,.buf 2 ((bG s e).1.tmb.map tmC)),(4,.box [.s (.int .i64 0),.s (.int .i64 0),.s (.slice none 0 0),.s (.slice none 0 0),.s (.slice none 0 0),.s (.slice none 0 0)])]⟩ ?_ (fun hD0=>?_)
   ·
    refine aH 9 [] (by kernel_rfl) ⟨?_,trivial⟩
    ·
     refine⟨_,rfl,rfl,(ao rfl (aE aA 1 rfl (aG (bW (by kernel_rfl) ?_))))⟩
     refine hK7 _ (aC (fun K8 hK8=>(aC (fun K9 hK9=>(aB (aE aA 2 rfl (aD (hK9 _ (cM rfl rfl (fun hc3=>?_) (fun hc3=>?_))))))))))
     ·
      simp only[bs] at hc3
      refine aC (fun K10 hK10=>(aB (aF rfl (bO rfl cK oQ (l3 rfl) rfl) (aQ (iS fW) (aE aA 1 rfl (aP hf rfl rfl cW rfl rfl (l1 rfl) (l4 rfl) rfl (aE aA 1 rfl (aD (hK10 _ (aJ ?_))))))))))
      refine⟨_,rfl,?_⟩
      rw[show bI s e=(cU,(bG s e).2) from by rw[bI,if_pos (by simp_all),if_neg (by omega),if_neg (by first | assumption | simp_all)]]; rfl
     ·
      simp only[bs] at hc3
      refine aL (hK8 _ (aC (fun K11 hK11=>(aB (aE aA 3 rfl (aP hf rfl rfl cB rfl rfl (l1 rfl) (l4 rfl) rfl (aD (hK11 _ (aC (fun K12 hK12=>(aB (aF rfl (bM (cs':=[.s (.int .i64 e.at'),.s (.int .i64 (bG s e).1.hor),.sl 4 ((bG s e).1.opn.map seC),.own 222 2 0 ((bG s e).1.usr.map usC).length,.sl 4 ((bG s e).1.sub.map enC),.own 223 2 0 ((bG s e).1.tmb.map tmC).length]) rfl pL cW rfl rfl rfl) (aP hf rfl rfl cW rfl rfl (l1 rfl) (l4 rfl) rfl (aE aA 1 rfl ?_))))))))))))))
      refine aD (hK12 _ (aJ ?_))
      refine⟨_,rfl,?_⟩
      rw[show bI s e=({ (bG s e).1 with now:=e.at' },0) from by rw[bI,if_pos (by simp_all),if_neg (by omega),if_pos (by first | assumption | simp_all)]]
      show AV.tup [.agg [_,_,_,AV.conv _ (.own 222 2 0 ((bG s e).1.usr.map usC).length),_,AV.conv _ (.own 223 2 0 ((bG s e).1.tmb.map tmC).length)],_]=_
      rw[bV (g:=222) rfl rfl,bV (g:=223) rfl rfl]; rfl
   refine bC 2 #[true,true,true,true,true,true,true,true,false,false] ⟨35,[(3,.adr (evC e)),(4,.ref 4 0 0 0),(6,.ref 6 0 0 0),(25,.agg (eK (bG s e).1 222 223)),(26,.s (.int .i64 (bG s e).2))],[(6,.box [.s (.int .i64 0),.s (.int .i64 0),.s (.slice none 0 0),.s (.slice none 0 0),.s (.slice none 0 0),.s (.slice none 0 0)]),(222,.buf 2 ((bG s e).1.usr.map usC)),(223,.buf 2 ((bG s e).1.tmb.map tmC)),(4,.box [.s (.int .i64 0),.s (.int .i64 0),.s (.slice none 0 0),.s (.slice none 0 0),.s (.slice none 0 0),.s (.slice none 0 0)])]⟩ ?_ (fun hD1=>?_)
   ·
    refine aH 8 [] (by kernel_rfl) ⟨?_,trivial⟩
    ·
     refine⟨_,rfl,rfl,(ao rfl (aP hf rfl rfl cW rfl rfl (l1 rfl) (l4 rfl) rfl (aG (aH 9 [] (by kernel_rfl) ⟨?_,trivial⟩))))⟩
     ·
      refine⟨_,rfl,rfl,(ao rfl (aE aA 1 rfl (aG (bW (by kernel_rfl) ?_))))⟩
      refine hK7 _ (aC (fun K13 hK13=>(aC (fun K14 hK14=>(aB (aE aA 2 rfl (aD (hK14 _ (cM rfl rfl (fun hc4=>?_) (fun hc4=>?_))))))))))
      ·
       simp only[bs] at hc4
       refine aC (fun K15 hK15=>(aB (aF rfl (bO rfl cK oQ (l3 rfl) rfl) (aQ (iS fW) (aE aA 1 rfl (aP hf rfl rfl cW rfl rfl (l1 rfl) (l4 rfl) rfl (aE aA 1 rfl (aD (hK15 _ (aJ ?_))))))))))
       refine⟨_,rfl,?_⟩
       rw[show bI s e=(cU,(bG s e).2) from by rw[bI,if_pos (by simp_all),if_neg (by omega),if_neg (by first | assumption | simp_all)]]; rfl
      ·
       simp only[bs] at hc4
       refine aL (hK13 _ (aC (fun K16 hK16=>(aB (aE aA 3 rfl (aP hf rfl rfl cB rfl rfl (l1 rfl) (l4 rfl) rfl (aD (hK16 _ (aC (fun K17 hK17=>(aB (aF rfl (bM (cs':=[.s (.int .i64 e.at'),.s (.int .i64 (bG s e).1.hor),.sl 4 ((bG s e).1.opn.map seC),.own 222 2 0 ((bG s e).1.usr.map usC).length,.sl 4 ((bG s e).1.sub.map enC),.own 223 2 0 ((bG s e).1.tmb.map tmC).length]) rfl pL cW rfl rfl rfl) (aP hf rfl rfl cW rfl rfl (l1 rfl) (l4 rfl) rfl (aE aA 1 rfl ?_))))))))))))))
       refine aD (hK17 _ (aJ ?_))
       refine⟨_,rfl,?_⟩
       rw[show bI s e=({ (bG s e).1 with now:=e.at' },0) from by rw[bI,if_pos (by simp_all),if_neg (by omega),if_pos (by first | assumption | simp_all)]]
       show AV.tup [.agg [_,_,_,AV.conv _ (.own 222 2 0 ((bG s e).1.usr.map usC).length),_,AV.conv _ (.own 223 2 0 ((bG s e).1.tmb.map tmC).length)],_]=_
       rw[bV (g:=222) rfl rfl,bV (g:=223) rfl rfl]; rfl
   refine bC 2 #[true,true,true,true,true,true,false,true,true,false] ⟨35,[(3,.adr (evC e)),(4,.ref 4 0 0 0),(6,.ref 6 0 0 0),(20,.tup [.agg (eK (bG s e).1 222 223),.s (.int .i64 (bG s e).2)])],[(6,.box (eK (bG s e).1 222 223)),(222,.buf 2 ((bG s e).1.usr.map usC)),(223,.buf 2 ((bG s e).1.tmb.map tmC)),(4,.box [.s (.int .i64 0),.s (.int .i64 0),.s (.slice none 0 0),.s (.slice none 0 0),.s (.slice none 0 0),.s (.slice none 0 0)])]⟩ ?_ (fun hD2=>?_)
   ·
    refine aH 6 [] (by kernel_rfl) ⟨?_,trivial⟩
    ·
     refine⟨_,rfl,rfl,(ao rfl (aE aA 1 rfl (aG (ag hD0 rfl rfl rfl))))⟩
   refine bC 3 #[true,true,true,true,true,true,true,false,false,false] ⟨35,[(3,.adr (evC e)),(4,.ref 4 0 0 0),(25,.agg (eK (bG s e).1 222 223)),(26,.s (.int .i64 (bG s e).2))],[(222,.buf 2 ((bG s e).1.usr.map usC)),(223,.buf 2 ((bG s e).1.tmb.map tmC)),(4,.box [.s (.int .i64 0),.s (.int .i64 0),.s (.slice none 0 0),.s (.slice none 0 0),.s (.slice none 0 0),.s (.slice none 0 0)])]⟩ ?_ (fun hD3=>?_)
   ·
    refine aH 7 [] (by kernel_rfl) ⟨?_,trivial⟩
    ·
     refine⟨_,rfl,rfl,(ao rfl (bQ hf rfl rfl rfl cK (aG (ag hD1 rfl rfl rfl))))⟩
   refine bC 3 #[true,true,true,true,true,true,false,true,false,false] ⟨35,[(3,.adr (evC e)),(4,.ref 4 0 0 0),(6,.ref 6 0 0 0),(20,.tup [.agg (eK (bG s e).1 222 223),.s (.int .i64 (bG s e).2)]),(25,.agg (eK (bG s e).1 222 223))],[(6,.box [.s (.int .i64 0),.s (.int .i64 0),.s (.slice none 0 0),.s (.slice none 0 0),.s (.slice none 0 0),.s (.slice none 0 0)]),(222,.buf 2 ((bG s e).1.usr.map usC)),(223,.buf 2 ((bG s e).1.tmb.map tmC)),(4,.box [.s (.int .i64 0),.s (.int .i64 0),.s (.slice none 0 0),.s (.slice none 0 0),.s (.slice none 0 0),.s (.slice none 0 0)])]⟩ ?_ (fun hD4=>?_)
   ·
    refine aH 6 [8] (by kernel_rfl) ⟨?_,?_,trivial⟩
    ·
     refine⟨_,rfl,rfl,(ao rfl (aE aA 1 rfl (aG (ag hD1 rfl rfl rfl))))⟩
    ·
     refine⟨_,rfl,rfl,(ao rfl (aP hf rfl rfl cW rfl rfl (l1 rfl) (l4 rfl) rfl (aG (ag hD2 rfl rfl rfl))))⟩
   refine bC 3 #[true,true,true,true,true,false,true,true,false,false] ⟨35,[(3,.adr (evC e)),(4,.ref 4 0 0 0),(6,.ref 6 0 0 0),(20,.tup [.agg (eK (bG s e).1 222 223),.s (.int .i64 (bG s e).2)]),(26,.s (.int .i64 (bG s e).2))],[(6,.box [.s (.int .i64 0),.s (.int .i64 0),.s (.slice none 0 0),.s (.slice none 0 0),.s (.slice none 0 0),.s (.slice none 0 0)]),(222,.buf 2 ((bG s e).1.usr.map usC)),(223,.buf 2 ((bG s e).1.tmb.map tmC)),(4,.box [.s (.int .i64 0),.s (.int .i64 0),.s (.slice none 0 0),.s (.slice none 0 0),.s (.slice none 0 0),.s (.slice none 0 0)])]⟩ ?_ (fun hD5=>?_)
   ·
    refine aH 5 [] (by kernel_rfl) ⟨?_,trivial⟩
    ·
     refine⟨_,rfl,rfl,(ao rfl (aE aA 1 rfl (aG (ag hD1 rfl rfl rfl))))⟩
   refine bC 4 #[true,true,true,true,true,true,false,false,false,false] ⟨35,[(3,.adr (evC e)),(4,.ref 4 0 0 0),(20,.tup [.agg (eK (bG s e).1 222 223),.s (.int .i64 (bG s e).2)]),(25,.agg (eK (bG s e).1 222 223))],[(222,.buf 2 ((bG s e).1.usr.map usC)),(223,.buf 2 ((bG s e).1.tmb.map tmC)),(4,.box [.s (.int .i64 0),.s (.int .i64 0),.s (.slice none 0 0),.s (.slice none 0 0),.s (.slice none 0 0),.s (.slice none 0 0)])]⟩ ?_ (fun hD6=>?_)
   ·
    refine aH 6 [7] (by kernel_rfl) ⟨?_,?_,trivial⟩
    ·
     refine⟨_,rfl,rfl,(ao rfl (aE aA 1 rfl (aG (ag hD3 rfl rfl rfl))))⟩
    ·
     refine⟨_,rfl,rfl,(ao rfl (bQ hf rfl rfl rfl cK (aG (ag hD4 rfl rfl rfl))))⟩
   refine bC 4 #[true,true,true,true,true,false,true,false,false,false] ⟨35,[(3,.adr (evC e)),(4,.ref 4 0 0 0),(20,.tup [.agg (eK (bG s e).1 222 223),.s (.int .i64 (bG s e).2)]),(26,.s (.int .i64 (bG s e).2))],[(222,.buf 2 ((bG s e).1.usr.map usC)),(223,.buf 2 ((bG s e).1.tmb.map tmC)),(4,.box [.s (.int .i64 0),.s (.int .i64 0),.s (.slice none 0 0),.s (.slice none 0 0),.s (.slice none 0 0),.s (.slice none 0 0)])]⟩ ?_ (fun hD7=>?_)
   ·
    refine aH 5 [7] (by kernel_rfl) ⟨?_,?_,trivial⟩
    ·
     refine⟨_,rfl,rfl,(ao rfl (aE aA 1 rfl (aG (ag hD3 rfl rfl rfl))))⟩
    ·
     refine⟨_,rfl,rfl,(ao rfl (bQ hf rfl rfl rfl cK (aG (ag hD5 rfl rfl rfl))))⟩
   refine bC 4 #[true,true,true,true,true,false,false,true,false,false] ⟨35,[(3,.adr (evC e)),(4,.ref 4 0 0 0),(6,.ref 6 0 0 0),(20,.tup [.agg (eK (bG s e).1 222 223),.s (.int .i64 (bG s e).2)])],[(6,.box [.s (.int .i64 0),.s (.int .i64 0),.s (.slice none 0 0),.s (.slice none 0 0),.s (.slice none 0 0),.s (.slice none 0 0)]),(222,.buf 2 ((bG s e).1.usr.map usC)),(223,.buf 2 ((bG s e).1.tmb.map tmC)),(4,.box [.s (.int .i64 0),.s (.int .i64 0),.s (.slice none 0 0),.s (.slice none 0 0),.s (.slice none 0 0),.s (.slice none 0 0)])]⟩ ?_ (fun hD8=>?_)
   ·
    refine aH 5 [6] (by kernel_rfl) ⟨?_,?_,trivial⟩
    ·
     refine⟨_,rfl,rfl,(ao rfl (aE aA 1 rfl (aG (ag hD4 rfl rfl rfl))))⟩
    ·
     refine⟨_,rfl,rfl,(ao rfl (aE aA 1 rfl (aG (ag hD5 rfl rfl rfl))))⟩
   refine bC 5 #[true,true,true,true,true,false,false,false,false,false] ⟨35,[(3,.adr (evC e)),(4,.ref 4 0 0 0),(20,.tup [.agg (eK (bG s e).1 222 223),.s (.int .i64 (bG s e).2)])],[(222,.buf 2 ((bG s e).1.usr.map usC)),(223,.buf 2 ((bG s e).1.tmb.map tmC)),(4,.box [.s (.int .i64 0),.s (.int .i64 0),.s (.slice none 0 0),.s (.slice none 0 0),.s (.slice none 0 0),.s (.slice none 0 0)])]⟩ ?_ (fun hD9=>?_)
   ·
    refine aH 5 [6,7] (by kernel_rfl) ⟨?_,?_,?_,trivial⟩
    ·
     refine⟨_,rfl,rfl,(ao rfl (aE aA 1 rfl (aG (ag hD6 rfl rfl rfl))))⟩
    ·
     refine⟨_,rfl,rfl,(ao rfl (aE aA 1 rfl (aG (ag hD7 rfl rfl rfl))))⟩
    ·
     refine⟨_,rfl,rfl,(ao rfl (bQ hf rfl rfl rfl cK (aG (ag hD8 rfl rfl rfl))))⟩
   refine bC 5 #[true,true,true,true,false,false,false,true,false,false] ⟨35,[(3,.adr (evC e)),(4,.ref 4 0 0 0),(6,.ref 6 0 0 0),(24,.tup [.agg (eK (bG s e).1 222 223),.s (.int .i64 (bG s e).2)])],[(6,.box [.s (.int .i64 0),.s (.int .i64 0),.s (.slice none 0 0),.s (.slice none 0 0),.s (.slice none 0 0),.s (.slice none 0 0)]),(222,.buf 2 ((bG s e).1.usr.map usC)),(223,.buf 2 ((bG s e).1.tmb.map tmC)),(4,.box [.s (.int .i64 0),.s (.int .i64 0),.s (.slice none 0 0),.s (.slice none 0 0),.s (.slice none 0 0),.s (.slice none 0 0)])]⟩ ?_ (fun hD10=>?_)
   ·
    refine aH 4 [] (by kernel_rfl) ⟨?_,trivial⟩
    ·
     refine⟨_,rfl,rfl,(ao rfl (aE aA 1 rfl (aG (ag hD8 rfl rfl rfl))))⟩
   refine bC 6 #[true,true,true,true,false,false,false,false,false,false] ⟨35,[(3,.adr (evC e)),(4,.ref 4 0 0 0),(24,.tup [.agg (eK (bG s e).1 222 223),.s (.int .i64 (bG s e).2)])],[(222,.buf 2 ((bG s e).1.usr.map usC)),(223,.buf 2 ((bG s e).1.tmb.map tmC)),(4,.box [.s (.int .i64 0),.s (.int .i64 0),.s (.slice none 0 0),.s (.slice none 0 0),.s (.slice none 0 0),.s (.slice none 0 0)])]⟩ ?_ (fun hD11=>?_)
   ·
    refine aH 4 [7] (by kernel_rfl) ⟨?_,?_,trivial⟩
    ·
     refine⟨_,rfl,rfl,(ao rfl (aE aA 1 rfl (aG (ag hD9 rfl rfl rfl))))⟩
    ·
     refine⟨_,rfl,rfl,(ao rfl (bQ hf rfl rfl rfl cK (aG (ag hD10 rfl rfl rfl))))⟩
   refine bC 6 #[true,true,true,false,false,false,false,true,false,false] ⟨35,[(3,.adr (evC e)),(4,.ref 4 0 0 0),(6,.ref 6 0 0 0),(22,.agg (eK s 222 223)),(23,.agg (evC e))],[(6,.box [.s (.int .i64 0),.s (.int .i64 0),.s (.slice none 0 0),.s (.slice none 0 0),.s (.slice none 0 0),.s (.slice none 0 0)]),(222,.buf 2 (s.usr.map usC)),(223,.buf 2 (s.tmb.map tmC)),(4,.box [.s (.int .i64 0),.s (.int .i64 0),.s (.slice none 0 0),.s (.slice none 0 0),.s (.slice none 0 0),.s (.slice none 0 0)])]⟩ ?_ (fun hD12=>?_)
   ·
    refine aH 3 [] (by kernel_rfl) ⟨?_,trivial⟩
    ·
     refine⟨_,rfl,rfl,(ao rfl (iQ hf [(E0,222),(E1,223)] [(E0,222),(E1,223)] rfl rfl rfl rfl rfl rfl (by decide) (by decide) (by decide) rfl aDb (aJj s e hz hr hr2 (by simp_all)) ?_))⟩
     rintro r m1 ⟨rfl,rfl⟩
     rw[aHs]
     refine aQ (cD [3,4,6,24] rfl) (aG (ag hD10 rfl rfl rfl))
   refine bC 7 #[true,true,true,false,false,false,false,false,false,false] ⟨35,[(3,.adr (evC e)),(4,.ref 4 0 0 0),(22,.agg (eK s 222 223)),(23,.agg (evC e))],[(222,.buf 2 (s.usr.map usC)),(223,.buf 2 (s.tmb.map tmC)),(4,.box [.s (.int .i64 0),.s (.int .i64 0),.s (.slice none 0 0),.s (.slice none 0 0),.s (.slice none 0 0),.s (.slice none 0 0)])]⟩ ?_ (fun hD13=>?_)
   ·
    refine aH 3 [7] (by kernel_rfl) ⟨?_,?_,trivial⟩
    ·
     refine⟨_,rfl,rfl,(ao rfl (iQ hf [(E0,222),(E1,223)] [(E0,222),(E1,223)] rfl rfl rfl rfl rfl rfl (by decide) (by decide) (by decide) rfl aDb (aJj s e hz hr hr2 (by simp_all)) ?_))⟩
     rintro r m1 ⟨rfl,rfl⟩
     rw[aHs]
     refine aQ (cD [3,4,24] rfl) (aG (ag hD11 rfl rfl rfl))
    ·
     refine⟨_,rfl,rfl,(ao rfl (bQ hf rfl rfl rfl cK (aG (ag hD12 rfl rfl rfl))))⟩
   refine bC 7 #[true,true,false,false,false,false,false,true,false,false] ⟨35,[(3,.adr (evC e)),(4,.ref 4 0 0 0),(6,.ref 6 0 0 0),(22,.agg (eK s 222 223))],[(6,.box [.s (.int .i64 0),.s (.int .i64 0),.s (.slice none 0 0),.s (.slice none 0 0),.s (.slice none 0 0),.s (.slice none 0 0)]),(222,.buf 2 (s.usr.map usC)),(223,.buf 2 (s.tmb.map tmC)),(4,.box [.s (.int .i64 0),.s (.int .i64 0),.s (.slice none 0 0),.s (.slice none 0 0),.s (.slice none 0 0),.s (.slice none 0 0)])]⟩ ?_ (fun hD14=>?_)
   ·
    refine aH 2 [] (by kernel_rfl) ⟨?_,trivial⟩
    ·
     refine⟨_,rfl,rfl,(ao rfl (aE aA 1 rfl (aG (ag hD12 rfl rfl rfl))))⟩
   refine bC 7 #[true,false,true,false,false,false,false,true,false,false] ⟨35,[(3,.adr (evC e)),(4,.ref 4 0 0 0),(6,.ref 6 0 0 0),(21,.agg (bU s)),(23,.agg (evC e))],[(6,.box [.s (.int .i64 0),.s (.int .i64 0),.s (.slice none 0 0),.s (.slice none 0 0),.s (.slice none 0 0),.s (.slice none 0 0)]),(4,.box [.s (.int .i64 0),.s (.int .i64 0),.s (.slice none 0 0),.s (.slice none 0 0),.s (.slice none 0 0),.s (.slice none 0 0)])]⟩ ?_ (fun hD15=>?_)
   ·
    refine aH 1 [] (by kernel_rfl) ⟨?_,trivial⟩
    ·
     refine⟨_,rfl,rfl,(ao rfl (iQ hf [] [(E0,222),(E1,223)] rfl rfl rfl rfl rfl rfl (by decide) (by decide) (by decide) rfl pO (nR s (hz.mono (by omega))) ?_))⟩
     rintro r m1 ⟨rfl,rfl⟩
     rw[sP]
     refine aQ (cD [3,4,6,22,23] rfl) (aG (ag hD12 rfl rfl rfl))
   refine bC 8 #[true,true,false,false,false,false,false,false,false,false] ⟨35,[(3,.adr (evC e)),(4,.ref 4 0 0 0),(22,.agg (eK s 222 223))],[(222,.buf 2 (s.usr.map usC)),(223,.buf 2 (s.tmb.map tmC)),(4,.box [.s (.int .i64 0),.s (.int .i64 0),.s (.slice none 0 0),.s (.slice none 0 0),.s (.slice none 0 0),.s (.slice none 0 0)])]⟩ ?_ (fun hD16=>?_)
   ·
    refine aH 2 [7] (by kernel_rfl) ⟨?_,?_,trivial⟩
    ·
     refine⟨_,rfl,rfl,(ao rfl (aE aA 1 rfl (aG (ag hD13 rfl rfl rfl))))⟩
    ·
     refine⟨_,rfl,rfl,(ao rfl (bQ hf rfl rfl rfl cK (aG (ag hD14 rfl rfl rfl))))⟩
   refine bC 8 #[true,false,true,false,false,false,false,false,false,false] ⟨35,[(3,.adr (evC e)),(4,.ref 4 0 0 0),(21,.agg (bU s)),(23,.agg (evC e))],[(4,.box [.s (.int .i64 0),.s (.int .i64 0),.s (.slice none 0 0),.s (.slice none 0 0),.s (.slice none 0 0),.s (.slice none 0 0)])]⟩ ?_ (fun hD17=>?_)
   ·
    refine aH 1 [7] (by kernel_rfl) ⟨?_,?_,trivial⟩
    ·
     refine⟨_,rfl,rfl,(ao rfl (iQ hf [] [(E0,222),(E1,223)] rfl rfl rfl rfl rfl rfl (by decide) (by decide) (by decide) rfl pO (nR s (hz.mono (by omega))) ?_))⟩
     rintro r m1 ⟨rfl,rfl⟩
     rw[sP]
     refine aQ (cD [3,4,22,23] rfl) (aG (ag hD13 rfl rfl rfl))
    ·
     refine⟨_,rfl,rfl,(ao rfl (bQ hf rfl rfl rfl cK (aG (ag hD15 rfl rfl rfl))))⟩
   refine bC 8 #[true,false,false,false,false,false,false,true,false,false] ⟨35,[(3,.adr (evC e)),(4,.ref 4 0 0 0),(6,.ref 6 0 0 0),(21,.agg (bU s))],[(6,.box [.s (.int .i64 0),.s (.int .i64 0),.s (.slice none 0 0),.s (.slice none 0 0),.s (.slice none 0 0),.s (.slice none 0 0)]),(4,.box [.s (.int .i64 0),.s (.int .i64 0),.s (.slice none 0 0),.s (.slice none 0 0),.s (.slice none 0 0),.s (.slice none 0 0)])]⟩ ?_ (fun hD18=>?_)
   ·
    refine aH 1 [2] (by kernel_rfl) ⟨?_,?_,trivial⟩
    ·
     refine⟨_,rfl,rfl,(ao rfl (iQ hf [] [(E0,222),(E1,223)] rfl rfl rfl rfl rfl rfl (by decide) (by decide) (by decide) rfl pO (nR s (hz.mono (by omega))) ?_))⟩
     rintro r m1 ⟨rfl,rfl⟩
     rw[sP]
     refine aQ (cD [3,4,6,22] rfl) (aG (ag hD14 rfl rfl rfl))
    ·
     refine⟨_,rfl,rfl,(ao rfl (aE aA 1 rfl (aG (ag hD15 rfl rfl rfl))))⟩
   refine bC 8 #[false,false,true,false,false,false,false,true,false,false] ⟨35,[(2,.adr (bU s)),(3,.adr (evC e)),(4,.ref 4 0 0 0),(6,.ref 6 0 0 0),(23,.agg (evC e))],[(6,.box [.s (.int .i64 0),.s (.int .i64 0),.s (.slice none 0 0),.s (.slice none 0 0),.s (.slice none 0 0),.s (.slice none 0 0)]),(4,.box [.s (.int .i64 0),.s (.int .i64 0),.s (.slice none 0 0),.s (.slice none 0 0),.s (.slice none 0 0),.s (.slice none 0 0)])]⟩ ?_ (fun hD19=>?_)
   ·
    refine aH 0 [] (by kernel_rfl) ⟨?_,trivial⟩
    ·
     refine⟨_,rfl,rfl,(ao rfl (aE aA 1 rfl (aG (ag hD15 rfl rfl rfl))))⟩
   refine bC 9 #[true,false,false,false,false,false,false,false,false,false] ⟨35,[(3,.adr (evC e)),(4,.ref 4 0 0 0),(21,.agg (bU s))],[(4,.box [.s (.int .i64 0),.s (.int .i64 0),.s (.slice none 0 0),.s (.slice none 0 0),.s (.slice none 0 0),.s (.slice none 0 0)])]⟩ ?_ (fun hD20=>?_)
   ·
    refine aH 1 [2,7] (by kernel_rfl) ⟨?_,?_,?_,trivial⟩
    ·
     refine⟨_,rfl,rfl,(ao rfl (iQ hf [] [(E0,222),(E1,223)] rfl rfl rfl rfl rfl rfl (by decide) (by decide) (by decide) rfl pO (nR s (hz.mono (by omega))) ?_))⟩
     rintro r m1 ⟨rfl,rfl⟩
     rw[sP]
     refine aQ (cD [3,4,22] rfl) (aG (ag hD16 rfl rfl rfl))
    ·
     refine⟨_,rfl,rfl,(ao rfl (aE aA 1 rfl (aG (ag hD17 rfl rfl rfl))))⟩
    ·
     refine⟨_,rfl,rfl,(ao rfl (bQ hf rfl rfl rfl cK (aG (ag hD18 rfl rfl rfl))))⟩
   refine bC 9 #[false,false,true,false,false,false,false,false,false,false] ⟨35,[(2,.adr (bU s)),(3,.adr (evC e)),(4,.ref 4 0 0 0),(23,.agg (evC e))],[(4,.box [.s (.int .i64 0),.s (.int .i64 0),.s (.slice none 0 0),.s (.slice none 0 0),.s (.slice none 0 0),.s (.slice none 0 0)])]⟩ ?_ (fun hD21=>?_)
   ·
    refine aH 0 [7] (by kernel_rfl) ⟨?_,?_,trivial⟩
    ·
     refine⟨_,rfl,rfl,(ao rfl (aE aA 1 rfl (aG (ag hD17 rfl rfl rfl))))⟩
    ·
     refine⟨_,rfl,rfl,(ao rfl (bQ hf rfl rfl rfl cK (aG (ag hD19 rfl rfl rfl))))⟩
   refine bC 9 #[false,false,false,false,false,false,false,true,false,false] ⟨35,[(2,.adr (bU s)),(3,.adr (evC e)),(4,.ref 4 0 0 0),(6,.ref 6 0 0 0)],[(6,.box [.s (.int .i64 0),.s (.int .i64 0),.s (.slice none 0 0),.s (.slice none 0 0),.s (.slice none 0 0),.s (.slice none 0 0)]),(4,.box [.s (.int .i64 0),.s (.int .i64 0),.s (.slice none 0 0),.s (.slice none 0 0),.s (.slice none 0 0),.s (.slice none 0 0)])]⟩ ?_ (fun hD22=>?_)
   ·
    refine aH 0 [2] (by kernel_rfl) ⟨?_,?_,trivial⟩
    ·
     refine⟨_,rfl,rfl,(ao rfl (aE aA 1 rfl (aG (ag hD18 rfl rfl rfl))))⟩
    ·
     refine⟨_,rfl,rfl,(ao rfl (aE aA 1 rfl (aG (ag hD19 rfl rfl rfl))))⟩
   refine lD (aCc (sl':=[(2,.adr (bU s)),(3,.adr (evC e)),(4,.ref 4 0 0 0)]) (m':=[(4,.box [.s (.int .i64 0),.s (.int .i64 0),.s (.slice none 0 0),.s (.slice none 0 0),.s (.slice none 0 0),.s (.slice none 0 0)])]) rfl rfl rfl) (aH 0 [2,7] (by kernel_rfl) ⟨?_,?_,?_,trivial⟩)
   ·
    refine⟨_,rfl,rfl,(ao rfl (aE aA 1 rfl (aG (ag hD20 rfl rfl rfl))))⟩
   ·
    refine⟨_,rfl,rfl,(ao rfl (aE aA 1 rfl (aG (ag hD21 rfl rfl rfl))))⟩
   ·
    refine⟨_,rfl,rfl,(ao rfl (bQ hf rfl rfl rfl cK (aG (ag hD22 rfl rfl rfl))))⟩
end Go.Proofs.YtijnkglkchhomaaGreat
set_option linter.unusedVariables false
set_option linter.unusedSimpArgs false
namespace Go.Abs
open Go
section
variable {α:Type} {key:α→ByteArray}
def jD (key:α→ByteArray) (u:ByteArray) (y:α):Bool→List α→List α
  | d,[]=>if d=true then [] else [y]
  | d,x::l=>if d=false∧eA u (key x)≤0 then y::(if key x=u then jD key u y true l else x::jD key u y true l) else (if key x=u then jD key u y d l else x::jD key u y d l)
theorem rD (u:ByteArray) (y:α):∀ (l:List α),jD key u y true l=l.filter fun x=>!isK key u x
  | []=>by simp [jD]
  | x::l=>by
    rw[jD,if_neg (by simp),rD u y l,List.filter_cons]
    by_cases h:key x=u
    · simp [isK,h]
    · simp [isK,h]
theorem aCg (u:ByteArray) (y:α) (hy:key y=u):∀ (l:List α) (z:α),z∈jD key u y false l↔(z∈l∧key z≠u)∨z=y
  | [],z=>by simp [jD]
  | x::l,z=>by
    have ht:z∈jD key u y true l↔z∈l∧key z≠u:=by rw[rD,List.mem_filter]; simp [isK]
    have ih:=aCg u y hy l z
    rw[jD]
    split
    · split
      · rename_i h
        rw[List.mem_cons,ht,List.mem_cons]
        constructor
        · rintro (e | ⟨a,b⟩)
          · exact .inr e
          · exact .inl ⟨.inr a,b⟩
        · rintro (⟨a | a,b⟩ | e)
          · subst a; exact absurd h b
          · exact .inr ⟨a,b⟩
          · exact .inl e
      · rename_i h
        rw[List.mem_cons,List.mem_cons,ht,List.mem_cons]
        constructor
        · rintro (e | e | ⟨a,b⟩)
          · exact .inr e
          · subst e; exact .inl ⟨.inl rfl,h⟩
          · exact .inl ⟨.inr a,b⟩
        · rintro (⟨a | a,b⟩ | e)
          · exact .inr (.inl a)
          · exact .inr (.inr ⟨a,b⟩)
          · exact .inl e
    · split
      · rename_i h
        rw[ih,List.mem_cons]
        constructor
        · rintro (⟨a,b⟩ | e)
          · exact .inl ⟨.inr a,b⟩
          · exact .inr e
        · rintro (⟨a | a,b⟩ | e)
          · subst a; exact absurd h b
          · exact .inl ⟨a,b⟩
          · exact .inr e
      · rename_i h
        rw[List.mem_cons,ih,List.mem_cons]
        constructor
        · rintro (e | ⟨a,b⟩ | e)
          · subst e; exact .inl ⟨.inl rfl,h⟩
          · exact .inl ⟨.inr a,b⟩
          · exact .inr e
        · rintro (⟨a | a,b⟩ | e)
          · exact .inl a
          · exact .inr (.inl ⟨a,b⟩)
          · exact .inr (.inr e)
theorem aIu (u:ByteArray) (y:α) (hy:key y=u):∀ (l:List α),cQ key l→cQ key (jD key u y false l)
  | [],_=>by simp [jD,cQ]
  | x::l,h=>by
    obtain ⟨h1,h2⟩:=List.pairwise_cons.1 h
    have ih:=aIu u y hy l h2
    have hf:cQ key (jD key u y true l):=by rw[rD]; exact lH h2 _
    have hm:∀ z∈jD key u y true l,z∈l:=fun z hz=>by rw[rD] at hz; exact(List.mem_filter.1 hz).1
    rw[jD]
    split
    · rename_i hc
      split
      · rename_i he
        exact List.pairwise_cons.2 ⟨fun z hz=>by rw[hy,← he]; exact h1 z (hm z hz),hf⟩
      · rename_i hne
        have hlt:eA u (key x)<0:=by
          have:eA u (key x)≠0:=fun e=>hne ((kQ _ _).1 e).symm
          omega
        refine List.pairwise_cons.2 ⟨fun z hz=>?_,List.pairwise_cons.2 ⟨fun z hz=>h1 z (hm z hz),hf⟩⟩
        rw[hy]
        rcases List.mem_cons.1 hz with rfl | hz
        · exact hlt
        · exact fV hlt (h1 z (hm z hz))
    · rename_i hc
      split
      · exact ih
      · rename_i hne
        refine List.pairwise_cons.2 ⟨fun z hz=>?_,ih⟩
        rcases (aCg u y hy l z).1 hz with ⟨a,_⟩ | rfl
        · exact h1 z a
        · rw[hy]
          have:=mW u (key x)
          have:eA u (key x)≠0:=fun e=>hne ((kQ _ _).1 e).symm
          simp only[true_and] at hc
          omega
theorem aIt {u:ByteArray} {y:α} (hy:key y=u) {l:List α} (h:cQ key l):jD key u y false l=vZ key l u [y] :=
  rR (key:=key) (aIu u y hy l h) (uA h (by simpa using hy) (by simp)) fun z=>by
    rw[aCg u y hy,lB,List.mem_singleton]
theorem aPv {u:ByteArray} {y:α} {l:List α} (h:cQ key l):jD key u y true l=vZ key l u []:=by
  rw[rD,aBl h]
variable {u:ByteArray} {y:α} {l:List α} {k:Nat}
theorem aRy {out:List α} {X:List α} (e:X=out++jD key u y false (l.drop k)) (hk:k<l.length) (h:eA u (key l[k])<0):X=(out++[y]++[l[k]])++jD key u y true (l.drop (k+1)):=by
  rw[e,List.drop_eq_getElem_cons hk,jD,if_pos ⟨rfl,by omega⟩,if_neg (fun e=>by rw[e,mM] at h; omega)]
  simp
theorem aMo {out:List α} {X:List α} (e:X=out++jD key u y false (l.drop k)) (hk:k<l.length) (h:key l[k]=u):X=(out++[y])++jD key u y true (l.drop (k+1)):=by
  rw[e,List.drop_eq_getElem_cons hk,jD,if_pos ⟨rfl,by rw[h,mM]; omega⟩,if_pos h]
  simp
theorem aIr {out:List α} {X:List α} (e:X=out++jD key u y true (l.drop k)) (hk:k<l.length) (h:key l[k]=u):X=out++jD key u y true (l.drop (k+1)):=by
  rw[e,List.drop_eq_getElem_cons hk,jD,if_neg (by simp),if_pos h]
theorem wP {out:List α} {X:List α} {d:Bool} (e:X=out++jD key u y d (l.drop k)) (hk:k<l.length) (h:key l[k]≠u) (h2:d=false→¬ eA u (key l[k])<0):X=(out++[l[k]])++jD key u y d (l.drop (k+1)):=by
  rw[e,List.drop_eq_getElem_cons hk,jD,if_neg (fun⟨a,b⟩=>by
    have:=h2 a
    have:eA u (key l[k])≠0:=fun e=>h ((kQ _ _).1 e).symm
    omega),if_neg h]
  simp
theorem aAv {out:List α} {X:List α} {d:Bool} (e:X=out++jD key u y d (l.drop k)) (hk:l.length≤k):X=out++(if d=true then [] else [y]):=by
  rw[e,List.drop_eq_nil_of_le hk]; simp [jD]
end
theorem put_set {l:List Us} {u:ByteArray} {ys:List bP} (h:cQ cR l):jD cR u (u,ys) (decide (ys=[])) l=nW l u ys:=by
  unfold nW sH
  by_cases e:ys=[]
  · rw[if_pos e,decide_eq_true e,aPv h]
  · rw[if_neg e,decide_eq_false e,aIt (u:=u) (y:=(u,ys)) rfl h]
theorem aO3 {l:List Tm} {u:ByteArray} {t:Int} (h:cQ dZ l):jD dZ u (u,t) false l=pT l u t:=aIt (u:=u) (y:=(u,t)) rfl h
theorem aPr {l:List Us} {u:ByteArray} {k:Nat} (hk:k<l.length) (h:∀ (j:Nat) (hj:j<l.length),j<k→isK cR u l[j]=false) (he:l[k].1=u):ofU l u=l[k].2:=by
  rw[ofU,List.find?_eq_some_iff_getElem.2 ⟨by simp [isK,he],k,hk,rfl,fun j hj=>by have:=h j (by omega) hj; simpa using this⟩]; rfl
theorem ofU_no {l:List Us} {u:ByteArray} (h:∀ (j:Nat) (hj:j<l.length),isK cR u l[j]=false):ofU l u=[]:=by
  rw[ofU,List.find?_eq_none.2 fun x hx=>by obtain ⟨j,hj,rfl⟩:=List.getElem_of_mem hx; have:=h j hj; simpa using this]; rfl
theorem len_nil {ys:List bP}:((((ys.map stC).length:Nat):Int) == 0)=decide (ys=[]):=by
  cases ys <;> simp <;> omega
structure TsS (s:Sta):Prop where
  o:∀ e∈s.opn,TS e.1.2
  u:∀ x∈s.usr,TS x.1
  b:∀ e∈s.sub,TS e.1.1∧TS e.1.2
  t:∀ x∈s.tmb,TS x.1
theorem aHn {s:Sta} (h:RightP s):TsS s:=⟨fun e he=>kA (aEr h he).1,fun x hx=>kA (h.unm x hx),fun e he=>by
  have:=((oU _).1 h.sub).1 e he
  simp only[okE,Bool.and_eq_true,decide_eq_true_eq] at this
  exact⟨kA this.2.1,kA this.2.2⟩,fun x hx=>kA (h.tnm x hx)⟩
theorem aOg {α:Type} {key:α→ByteArray}:∀ {l:List α},(∀ (k:Nat) (h0:0<k) (hk:k<l.length),eA (key (l[k - 1]'(by omega))) (key l[k])<0)→cQ key l
  | [],_=>List.Pairwise.nil
  | [x],_=>List.pairwise_singleton _ _
  | x::y::l,h=>by
    have ih:cQ key (y::l):=aOg fun k h0 hk=>by
      have:=h (k+1) (by omega) (by simp only[List.length_cons] at hk ⊢; omega)
      obtain ⟨j,rfl⟩:∃ j,k=j+1:=⟨k - 1,by omega⟩
      simpa using this
    have h1:eA (key x) (key y)<0:=by have:=h 1 (by omega) (by simp); simpa using this
    refine List.pairwise_cons.2 ⟨fun z hz=>?_,ih⟩
    rcases List.mem_cons.1 hz with rfl | hz
    · exact h1
    · exact fV h1 ((List.pairwise_cons.1 ih).1 z hz)
theorem aEh {n:Nat} {p:(j:Nat)→j<n→Prop} {k:Nat} (h:∀ (j:Nat) (hj:j<n),j<k→p j hj) (hk:k<n) (hp:p k hk):∀ (j:Nat) (hj:j<n),j<k+1→p j hj:=fun j hj hjk=>by
  by_cases e:j=k
  · subst e; exact hp
  · exact h j hj (by omega)
end Go.Abs
set_option linter.unusedVariables false
set_option linter.unusedSimpArgs false
namespace Go.Proofs.YtijnkglkchhomaaGreat
open Go Go.Abs
theorem aPf (s:Sta) (u:ByteArray) (hl:s.usr.length≤9223372036854775807) :Den Tryz.prog 75 [.agg (bU s),.s (.string u)]  (·=.sl 4 ((ofU s.usr u).map stC)):=by
 refine aS Tryz.func75 rfl (Nat.le_of_ble_eq_true rfl) (fun w0 A hf=>(aC (fun K1 hK1=>(aB (aK hf rfl (cL rfl rfl (lf rfl)) (aF rfl (bE) (aD (hK1 _ (aC (fun K2 hK2=>(aC (fun K3 hK3=>(aB (aE aA 1 rfl (aD (hK3 _ ?_))))))))))))))))
 refine aO (bS (ι:=Nat) (fun k=>⟨27,[(1,.s (.string u)),(2,.adr (bU s)),(5,.s (.int .i64 (k:Nat)))],[]⟩) (fun k=>k≤s.usr.length∧∀ (j:Nat) (hj:j<s.usr.length),j<k→isK cR u s.usr[j]=false) (fun k=>s.usr.length - k) 0 ?_ ?_ ?_)
 · exact⟨Nat.zero_le _,by omega⟩
 · exact dN rfl
 ·
  rintro k hC
  obtain ⟨h1,h2⟩:=hC
  refine aC (fun K4 hK4=>(aC (fun K5 hK5=>(aB (aE aA 5 rfl (aD (hK5 _ (aI rfl (fun hc1=>?_) (fun hc1=>?_)))))))))
  ·
   simp only[bs] at hc1
   refine aL (hK4 _ (aC (fun K6 hK6=>(aO (aC (fun K7 hK7=>(aB (aE aA 3 rfl ?_))))))))
   refine aF rfl (aW rfl rfl fQ fR (by first | exact ixm (by omega) | assumption | exact⟨by decide,rfl⟩)) ?_
   refine aE aA 4 rfl (aD (hK7 _ (aI rfl (fun hc2=>?_) (fun hc2=>?_))))
   ·
    simp only[bs] at hc2
    refine aC (fun K8 hK8=>(aB (aE aA 3 rfl ?_)))
    refine aF rfl (aW rfl rfl fQ fR (by first | exact ixm (by omega) | assumption | exact⟨by decide,rfl⟩)) ?_
    refine aE aA 3 rfl (aD (hK8 _ (aJ ?_)))
    refine⟨_,rfl,?_⟩
    rw[aPr (by omega) h2 (by simp_all[toList_inj])]; rfl
   ·
    simp only[bs] at hc2
    refine aL (hK6 _ (aB (aE aA 1 rfl ?_)))
    refine aF rfl (bJ rfl rfl (by omega) (by omega)) ?_
    refine aE aA 1 rfl (aD ?_)
    exact⟨k+1,⟨by omega,aEh h2 (by omega) (by simp_all[isK,toList_inj])⟩,by omega,dN rfl⟩
  ·
   simp only[bs] at hc1
   refine bA (hK2 _ (aC (fun K9 hK9=>(aB (aF rfl (oZ (k:=4)) (aD (hK9 _ (aJ ?_))))))))
   refine⟨_,rfl,?_⟩
   rw[ofU_no fun j hj=>h2 j hj (by omega)]; rfl
theorem aMf (l:List Us) (u:ByteArray) (ys:List bP) (hl:l.length*40+40≤140737488355328) (hu:TS u) (ht:∀ x∈l,TS x.1) :Den Tryz.prog 107 [.sl 2 (l.map usC),.s (.string u),.sl 4 (ys.map stC)]  (·=.sl 2 ((jD cR u (u,ys) (decide (ys=[])) l).map usC)):=by
 refine aS Tryz.func107 rfl (Nat.le_of_ble_eq_true rfl) (fun w0 A hf=>(aC (fun K1 hK1=>(aB (aF rfl (bE) (aD (hK1 _ (aC (fun K2 hK2=>(aB (jK hf 2 rfl rfl rfl (aD (hK2 _ (aC (fun K3 hK3=>(aB ?_))))))))))))))))
 refine aE aA 4 rfl (aD (hK3 _ (aC (fun K4 hK4=>(aC (fun K5 hK5=>(aB (aE aA 1 rfl (aD (hK5 _ (aO (bS (ι:=Nat×Bool×List Us) (fun(⟨k,d,out⟩:Nat×Bool×List Us)=>⟨77,[(0,.sl 2 (l.map usC)),(1,.s (.string u)),(2,.sl 4 (ys.map stC)),(7,.own 7 2 0 out.length),(8,.s (.bool d)),(9,.s (.int .i64 (k:Nat)))],[(7,.buf 2 (out.map usC))]⟩) (fun(⟨k,d,out⟩:Nat×Bool×List Us)=>k≤l.length∧jD cR u (u,ys) (decide (ys=[])) l=out++jD cR u (u,ys) d (l.drop k)∧out.length≤k+d.toNat) (fun(⟨k,d,out⟩:Nat×Bool×List Us)=>l.length - k) (0,(decide (ys=[])),[]) ?_ ?_ ?_))))))))))))
 · exact⟨Nat.zero_le _,rfl,Nat.zero_le _⟩
 · exact bT ⟨rfl,rfl,rfl,rfl,(by show some (AV.s (.bool ((((ys.map stC).length:Nat):Int) == 0)))=_; rw[len_nil]),rfl,trivial⟩ rfl
 ·
  rintro ⟨k,d,out⟩ hC
  obtain ⟨h1,h2,h3⟩:=hC
  have hdn:d.toNat≤1:=Bool.toNat_le d
  refine aC (fun K6 hK6=>(aC (fun K7 hK7=>(aB (aE aA 4 rfl (aD (hK7 _ (aI rfl (fun hc1=>?_) (fun hc1=>?_)))))))))
  ·
   simp only[bs] at hc1
   refine aL (hK6 _ (aC (fun K8 hK8=>(aO (aC (fun K9 hK9=>(aC (fun K10 hK10=>(aB (aE aA 3 rfl (aY rfl rfl rfl (fun hg2=>?_) (fun hg2=>?_))))))))))))
   ·
    simp only[bs] at hg2
    refine aF rfl (fA rfl) (aE aA 2 rfl (bK rfl rfl rfl ?_))
    refine aF rfl (aW rfl rfl fQ fR (by first | exact ixm (by omega) | assumption | exact⟨by decide,rfl⟩)) ?_
    refine aE aA 2 rfl (bK rfl rfl rfl (aK hf rfl (aR rfl rfl sC rfl (Nm.refCmp_den u _ hu (ht _ (List.getElem_mem (by omega))))) (aE aA 2 rfl (aD (hK10 _ (aI rfl (fun hc3=>?_) (fun hc3=>?_)))))))
    ·
     simp only[bs] at hc3
     try (have hd:d=false:=by simp_all)
     try subst hd
     simp only[Bool.toNat_false,Nat.add_zero] at h3
     refine aC (fun K11 hK11=>(aB (aE aA 3 rfl (aF rfl (bO rfl xD uJ (l3 rfl) rfl) (aK hf rfl (aN eP rfl rfl rfl rfl (l2 rfl)) (aT hf rfl eP rfl rfl rfl (.inl rfl) (by simp only[List.length_append,List.length_map,List.length_cons,List.length_nil]) rfl (by first | rfl | simp [cV,bF]) (by first | (simp only[maxLen,List.length_map,List.length_append,List.length_cons,List.length_nil]; omega) | (simp [maxLen] <;> omega)) (by first | (simp only[List.length_map,List.length_append,List.length_cons,List.length_nil]; omega) | (simp <;> omega)) ?_))))))
     refine aQ (cD [0,1,2,9,36] rfl) (aE aA 1 rfl (aD (hK11 _ (aB (aE aA 1 rfl (aD (hK9 _ (aC (fun K12 hK12=>(aB (aE aA 2 rfl ?_)))))))))))
     refine aF rfl (aW rfl rfl fQ fR (by first | exact ixm (by omega) | assumption | exact⟨by decide,rfl⟩)) ?_
     refine aE aA 5 rfl (aY rfl rfl rfl (fun hg4=>?_) (fun hg4=>?_))
     ·
      simp only[bs] at hg4
      refine aF rfl (fA rfl) (aE aA 2 rfl (aD (hK12 _ (bD rfl (aC (fun K13 hK13=>(aB (aE aA 2 rfl ?_))))))))
      refine aF rfl (aW rfl rfl fQ fR (by first | exact ixm (by omega) | assumption | exact⟨by decide,rfl⟩)) ?_
      refine aE aA 4 rfl (aD (hK13 _ (aI rfl (fun hc6=>?_) (fun hc6=>?_))))
      ·
       simp only[bs] at hc6
       refine aB (aE aA 3 rfl ?_)
       refine aF rfl (aW rfl rfl fQ fR (by first | exact ixm (by omega) | assumption | exact⟨by decide,rfl⟩)) ?_
       refine aE aA 1 rfl (aK hf rfl (aN eP rfl rfl rfl rfl (l2 rfl)) (aT hf rfl eP rfl rfl rfl (.inl rfl) (by simp only[List.length_append,List.length_map,List.length_cons,List.length_nil]) rfl (by first | rfl | simp [cV,bF]) (by first | (simp only[maxLen,List.length_map,List.length_append,List.length_cons,List.length_nil]; omega) | (simp [maxLen] <;> omega)) (by first | (simp only[List.length_map,List.length_append,List.length_cons,List.length_nil]; omega) | (simp <;> omega)) ?_))
       refine aQ (cD [0,1,2,8,9,67] rfl) (aE aA 1 rfl ?_)
       refine bB ?_
       refine hK8 _ (aB (aE aA 1 rfl ?_))
       refine aF rfl (bJ rfl rfl (by omega) (by omega)) ?_
       refine aE aA 1 rfl (aD ?_)
       contradiction
      ·
       simp only[bs] at hc6
       refine aL (hK8 _ (aB (aE aA 1 rfl ?_)))
       refine aF rfl (bJ rfl rfl (by omega) (by omega)) ?_
       refine aE aA 1 rfl (aD ?_)
       exact⟨(k+1,true,out++[(u,ys)]),⟨by omega,aMo h2 (by assumption) (toList_inj.1 (by assumption)),by simp only[List.length_append,List.length_cons,List.length_nil,Bool.toNat_true,Bool.toNat_false]; omega⟩,by simp only; omega,bT ⟨rfl,rfl,rfl,(by first | rfl | (simp only[List.length_append]; rfl)),rfl,rfl,trivial⟩ (by simp only[List.map_append]; rfl)⟩
     ·
      simp only[bs] at hg4
      refine aE aA 2 rfl (aD (hK12 _ (bD rfl (aC (fun K14 hK14=>(aB (aE aA 2 rfl ?_)))))))
      refine aF rfl (aW rfl rfl fQ fR (by first | exact ixm (by omega) | assumption | exact⟨by decide,rfl⟩)) ?_
      refine aE aA 4 rfl (aD (hK14 _ (aI rfl (fun hc8=>?_) (fun hc8=>?_))))
      ·
       simp only[bs] at hc8
       refine aB (aE aA 3 rfl ?_)
       refine aF rfl (aW rfl rfl fQ fR (by first | exact ixm (by omega) | assumption | exact⟨by decide,rfl⟩)) ?_
       refine aE aA 1 rfl (aK hf rfl (aN eP rfl rfl rfl rfl (l2 rfl)) (aT hf rfl eP rfl rfl rfl (.inl rfl) (by simp only[List.length_append,List.length_map,List.length_cons,List.length_nil]) rfl (by first | rfl | simp [cV,bF]) (by first | (simp only[maxLen,List.length_map,List.length_append,List.length_cons,List.length_nil]; omega) | (simp [maxLen] <;> omega)) (by first | (simp only[List.length_map,List.length_append,List.length_cons,List.length_nil]; omega) | (simp <;> omega)) ?_))
       refine aQ (cD [0,1,2,8,9,67] rfl) (aE aA 1 rfl ?_)
       refine bB ?_
       refine hK8 _ (aB (aE aA 1 rfl ?_))
       refine aF rfl (bJ rfl rfl (by omega) (by omega)) ?_
       refine aE aA 1 rfl (aD ?_)
       exact⟨(k+1,true,out++[(u,ys)]++[l[k]]),⟨by omega,aRy h2 (by assumption) (by first | assumption | (have hne:u≠l[k].1:=fun e=>(by assumption:¬ _=_) (by rw[e]); have hq:eA u l[k].1≠0:=(fun e=>hne ((kQ _ _).1 e)); show eA u l[k].1<0; omega)),by simp only[List.length_append,List.length_cons,List.length_nil,Bool.toNat_true,Bool.toNat_false]; omega⟩,by simp only; omega,bT ⟨rfl,rfl,rfl,(by first | rfl | (simp only[List.length_append]; rfl)),rfl,rfl,trivial⟩ (by simp only[List.map_append]; rfl)⟩
      ·
       simp only[bs] at hc8
       refine aL (hK8 _ (aB (aE aA 1 rfl ?_)))
       refine aF rfl (bJ rfl rfl (by omega) (by omega)) ?_
       refine aE aA 1 rfl (aD ?_)
       contradiction
    ·
     simp only[bs] at hc3
     try (have hd:d=false:=by simp_all)
     try subst hd
     simp only[Bool.toNat_false,Nat.add_zero] at h3
     refine aL (hK9 _ (aC (fun K15 hK15=>(aB (aE aA 2 rfl ?_)))))
     refine aF rfl (aW rfl rfl fQ fR (by first | exact ixm (by omega) | assumption | exact⟨by decide,rfl⟩)) ?_
     refine aE aA 5 rfl (aY rfl rfl rfl (fun hg9=>?_) (fun hg9=>?_))
     ·
      simp only[bs] at hg9
      refine aF rfl (fA rfl) (aE aA 2 rfl (aD (hK15 _ (aI rfl (fun hc10=>?_) (fun hc10=>?_)))))
      ·
       simp only[bs] at hc10
       try (have hd:d=false:=by simp_all)
       try subst hd
       refine aC (fun K16 hK16=>(aB (aE aA 3 rfl (aF rfl (bO rfl xD uJ (l3 rfl) rfl) (aK hf rfl (aN eP rfl rfl rfl rfl (l2 rfl)) (aT hf rfl eP rfl rfl rfl (.inl rfl) (by simp only[List.length_append,List.length_map,List.length_cons,List.length_nil]) rfl (by first | rfl | simp [cV,bF]) (by first | (simp only[maxLen,List.length_map,List.length_append,List.length_cons,List.length_nil]; omega) | (simp [maxLen] <;> omega)) (by first | (simp only[List.length_map,List.length_append,List.length_cons,List.length_nil]; omega) | (simp <;> omega)) ?_))))))
       refine aQ (cD [0,1,2,9,53] rfl) (aE aA 1 rfl (aD (hK16 _ (aB (aE aA 1 rfl ?_)))))
       refine bB ?_
       refine hK8 _ (aB (aE aA 1 rfl ?_))
       refine aF rfl (bJ rfl rfl (by omega) (by omega)) ?_
       refine aE aA 1 rfl (aD ?_)
       exact⟨(k+1,true,out++[(u,ys)]),⟨by omega,aMo h2 (by assumption) (toList_inj.1 (by assumption)),by simp only[List.length_append,List.length_cons,List.length_nil,Bool.toNat_true,Bool.toNat_false]; omega⟩,by simp only; omega,bT ⟨rfl,rfl,rfl,(by first | rfl | (simp only[List.length_append]; rfl)),rfl,rfl,trivial⟩ (by simp only[List.map_append]; rfl)⟩
      ·
       simp only[bs] at hc10
       refine aC (fun K17 hK17=>(aB (aE aA 2 rfl ?_)))
       refine aF rfl (aW rfl rfl fQ fR (by first | exact ixm (by omega) | assumption | exact⟨by decide,rfl⟩)) ?_
       refine aE aA 4 rfl (aD (hK17 _ (aI rfl (fun hc11=>?_) (fun hc11=>?_))))
       ·
        simp only[bs] at hc11
        refine aB (aE aA 3 rfl ?_)
        refine aF rfl (aW rfl rfl fQ fR (by first | exact ixm (by omega) | assumption | exact⟨by decide,rfl⟩)) ?_
        refine aE aA 1 rfl (aK hf rfl (aN eP rfl rfl rfl rfl (l2 rfl)) (aT hf rfl eP rfl rfl rfl (.inl rfl) (by simp only[List.length_append,List.length_map,List.length_cons,List.length_nil]) rfl (by first | rfl | simp [cV,bF]) (by first | (simp only[maxLen,List.length_map,List.length_append,List.length_cons,List.length_nil]; omega) | (simp [maxLen] <;> omega)) (by first | (simp only[List.length_map,List.length_append,List.length_cons,List.length_nil]; omega) | (simp <;> omega)) ?_))
        refine aQ (cD [0,1,2,8,9,67] rfl) (aE aA 1 rfl ?_)
        refine bB ?_
        refine hK8 _ (aB (aE aA 1 rfl ?_))
        refine aF rfl (bJ rfl rfl (by omega) (by omega)) ?_
        refine aE aA 1 rfl (aD ?_)
        contradiction
       ·
        simp only[bs] at hc11
        refine aL (hK8 _ (aB (aE aA 1 rfl ?_)))
        refine aF rfl (bJ rfl rfl (by omega) (by omega)) ?_
        refine aE aA 1 rfl (aD ?_)
        contradiction
     ·
      simp only[bs] at hg9
      refine aE aA 2 rfl (aD (hK15 _ (bD rfl (aC (fun K18 hK18=>(aB (aE aA 2 rfl ?_)))))))
      refine aF rfl (aW rfl rfl fQ fR (by first | exact ixm (by omega) | assumption | exact⟨by decide,rfl⟩)) ?_
      refine aE aA 4 rfl (aD (hK18 _ (aI rfl (fun hc13=>?_) (fun hc13=>?_))))
      ·
       simp only[bs] at hc13
       refine aB (aE aA 3 rfl ?_)
       refine aF rfl (aW rfl rfl fQ fR (by first | exact ixm (by omega) | assumption | exact⟨by decide,rfl⟩)) ?_
       refine aE aA 1 rfl (aK hf rfl (aN eP rfl rfl rfl rfl (l2 rfl)) (aT hf rfl eP rfl rfl rfl (.inl rfl) (by simp only[List.length_append,List.length_map,List.length_cons,List.length_nil]) rfl (by first | rfl | simp [cV,bF]) (by first | (simp only[maxLen,List.length_map,List.length_append,List.length_cons,List.length_nil]; omega) | (simp [maxLen] <;> omega)) (by first | (simp only[List.length_map,List.length_append,List.length_cons,List.length_nil]; omega) | (simp <;> omega)) ?_))
       refine aQ (cD [0,1,2,8,9,67] rfl) (aE aA 1 rfl ?_)
       refine bB ?_
       refine hK8 _ (aB (aE aA 1 rfl ?_))
       refine aF rfl (bJ rfl rfl (by omega) (by omega)) ?_
       refine aE aA 1 rfl (aD ?_)
       exact⟨(k+1,false,out++[l[k]]),⟨by omega,wP h2 (by assumption) (fun e=>(by assumption:¬ _=_) (by show l[k].1.toList=_; rw[show l[k].1=u from e])) (fun e=>by show ¬ eA u l[k].1<0; omega),by simp only[List.length_append,List.length_cons,List.length_nil,Bool.toNat_true,Bool.toNat_false]; omega⟩,by simp only; omega,bT ⟨rfl,rfl,rfl,(by first | rfl | (simp only[List.length_append]; rfl)),rfl,rfl,trivial⟩ (by simp only[List.map_append]; rfl)⟩
      ·
       simp only[bs] at hc13
       refine aL (hK8 _ (aB (aE aA 1 rfl ?_)))
       refine aF rfl (bJ rfl rfl (by omega) (by omega)) ?_
       refine aE aA 1 rfl (aD ?_)
       contradiction
   ·
    simp only[bs] at hg2
    refine aE aA 8 rfl (aD (hK10 _ (bD rfl (aL (hK9 _ (aC (fun K19 hK19=>(aB (aE aA 2 rfl ?_)))))))))
    refine aF rfl (aW rfl rfl fQ fR (by first | exact ixm (by omega) | assumption | exact⟨by decide,rfl⟩)) ?_
    refine aE aA 5 rfl (aY rfl rfl rfl (fun hg15=>?_) (fun hg15=>?_))
    ·
     simp only[bs] at hg15
     refine aF rfl (fA rfl) (aE aA 2 rfl (aD (hK19 _ (aI rfl (fun hc16=>?_) (fun hc16=>?_)))))
     ·
      simp only[bs] at hc16
      try (have hd:d=false:=by simp_all)
      try subst hd
      simp only[Bool.toNat_false,Nat.add_zero] at h3
      refine aC (fun K20 hK20=>(aB (aE aA 3 rfl (aF rfl (bO rfl xD uJ (l3 rfl) rfl) (aK hf rfl (aN eP rfl rfl rfl rfl (l2 rfl)) (aT hf rfl eP rfl rfl rfl (.inl rfl) (by simp only[List.length_append,List.length_map,List.length_cons,List.length_nil]) rfl (by first | rfl | simp [cV,bF]) (by first | (simp only[maxLen,List.length_map,List.length_append,List.length_cons,List.length_nil]; omega) | (simp [maxLen] <;> omega)) (by first | (simp only[List.length_map,List.length_append,List.length_cons,List.length_nil]; omega) | (simp <;> omega)) ?_))))))
      refine aQ (cD [0,1,2,9,53] rfl) (aE aA 1 rfl (aD (hK20 _ (aB (aE aA 1 rfl ?_)))))
      refine bB ?_
      refine hK8 _ (aB (aE aA 1 rfl ?_))
      refine aF rfl (bJ rfl rfl (by omega) (by omega)) ?_
      refine aE aA 1 rfl (aD ?_)
      contradiction
     ·
      simp only[bs] at hc16
      refine aC (fun K21 hK21=>(aB (aE aA 2 rfl ?_)))
      refine aF rfl (aW rfl rfl fQ fR (by first | exact ixm (by omega) | assumption | exact⟨by decide,rfl⟩)) ?_
      refine aE aA 4 rfl (aD (hK21 _ (aI rfl (fun hc17=>?_) (fun hc17=>?_))))
      ·
       simp only[bs] at hc17
       refine aB (aE aA 3 rfl ?_)
       refine aF rfl (aW rfl rfl fQ fR (by first | exact ixm (by omega) | assumption | exact⟨by decide,rfl⟩)) ?_
       refine aE aA 1 rfl (aK hf rfl (aN eP rfl rfl rfl rfl (l2 rfl)) (aT hf rfl eP rfl rfl rfl (.inl rfl) (by simp only[List.length_append,List.length_map,List.length_cons,List.length_nil]) rfl (by first | rfl | simp [cV,bF]) (by first | (simp only[maxLen,List.length_map,List.length_append,List.length_cons,List.length_nil]; omega) | (simp [maxLen] <;> omega)) (by first | (simp only[List.length_map,List.length_append,List.length_cons,List.length_nil]; omega) | (simp <;> omega)) ?_))
       refine aQ (cD [0,1,2,8,9,67] rfl) (aE aA 1 rfl ?_)
       refine bB ?_
       refine hK8 _ (aB (aE aA 1 rfl ?_))
       refine aF rfl (bJ rfl rfl (by omega) (by omega)) ?_
       refine aE aA 1 rfl (aD ?_)
       contradiction
      ·
       simp only[bs] at hc17
       refine aL (hK8 _ (aB (aE aA 1 rfl ?_)))
       refine aF rfl (bJ rfl rfl (by omega) (by omega)) ?_
       refine aE aA 1 rfl (aD ?_)
       (  have hd:d=true:=by simp_all
          subst hd
          exact⟨(k+1,true,out),⟨by omega,aIr h2 (by assumption) (toList_inj.1 (by assumption)),by omega⟩,by simp only; omega,bT ⟨rfl,rfl,rfl,(by first | rfl | (simp only[List.length_append]; rfl)),rfl,rfl,trivial⟩ rfl⟩)
    ·
     simp only[bs] at hg15
     refine aE aA 2 rfl (aD (hK19 _ (bD rfl (aC (fun K22 hK22=>(aB (aE aA 2 rfl ?_)))))))
     refine aF rfl (aW rfl rfl fQ fR (by first | exact ixm (by omega) | assumption | exact⟨by decide,rfl⟩)) ?_
     refine aE aA 4 rfl (aD (hK22 _ (aI rfl (fun hc19=>?_) (fun hc19=>?_))))
     ·
      simp only[bs] at hc19
      refine aB (aE aA 3 rfl ?_)
      refine aF rfl (aW rfl rfl fQ fR (by first | exact ixm (by omega) | assumption | exact⟨by decide,rfl⟩)) ?_
      refine aE aA 1 rfl (aK hf rfl (aN eP rfl rfl rfl rfl (l2 rfl)) (aT hf rfl eP rfl rfl rfl (.inl rfl) (by simp only[List.length_append,List.length_map,List.length_cons,List.length_nil]) rfl (by first | rfl | simp [cV,bF]) (by first | (simp only[maxLen,List.length_map,List.length_append,List.length_cons,List.length_nil]; omega) | (simp [maxLen] <;> omega)) (by first | (simp only[List.length_map,List.length_append,List.length_cons,List.length_nil]; omega) | (simp <;> omega)) ?_))
      refine aQ (cD [0,1,2,8,9,67] rfl) (aE aA 1 rfl ?_)
      refine bB ?_
      refine hK8 _ (aB (aE aA 1 rfl ?_))
      refine aF rfl (bJ rfl rfl (by omega) (by omega)) ?_
      refine aE aA 1 rfl (aD ?_)
      exact⟨(k+1,d,out++[l[k]]),⟨by omega,wP h2 (by assumption) (fun e=>(by assumption:¬ _=_) (by show l[k].1.toList=_; rw[show l[k].1=u from e])) (fun e=>by first | exact absurd (e.symm.trans (by assumption:d=true)) (by decide) | (show ¬ eA u l[k].1<0; omega)),by simp only[List.length_append,List.length_cons,List.length_nil,Bool.toNat_true,Bool.toNat_false]; omega⟩,by simp only; omega,bT ⟨rfl,rfl,rfl,(by first | rfl | (simp only[List.length_append]; rfl)),rfl,rfl,trivial⟩ (by simp only[List.map_append]; rfl)⟩
     ·
      simp only[bs] at hc19
      refine aL (hK8 _ (aB (aE aA 1 rfl ?_)))
      refine aF rfl (bJ rfl rfl (by omega) (by omega)) ?_
      refine aE aA 1 rfl (aD ?_)
      contradiction
  ·
   simp only[bs] at hc1
   refine bA (hK4 _ (aC (fun K23 hK23=>(aC (fun K24 hK24=>(aB (aE aA 2 rfl (aD (hK24 _ (aI rfl (fun hc20=>?_) (fun hc20=>?_)))))))))))
   ·
    simp only[bs] at hc20
    try (have hd:d=false:=by simp_all)
    try subst hd
    simp only[Bool.toNat_false,Nat.add_zero] at h3
    refine aB (aE aA 3 rfl (aF rfl (bO rfl xD uJ (l3 rfl) rfl) (aK hf rfl (aN eP rfl rfl rfl rfl (l2 rfl)) (aT hf rfl eP rfl rfl rfl (.inl rfl) (by simp only[List.length_append,List.length_map,List.length_cons,List.length_nil]) rfl (by first | rfl | simp [cV,bF]) (by first | (simp only[maxLen,List.length_map,List.length_append,List.length_cons,List.length_nil]; omega) | (simp [maxLen] <;> omega)) (by first | (simp only[List.length_map,List.length_append,List.length_cons,List.length_nil]; omega) | (simp <;> omega)) ?_))))
    refine aQ (cD [75] rfl) (aE aA 1 rfl (aD (hK23 _ (aC (fun K25 hK25=>(aB (aE aA 2 rfl (aD (hK25 _ (aJ ?_))))))))))
    refine⟨_,rfl,?_⟩
    refine(bV (g:=7) rfl (by simp only[List.length_append,List.length_map]; try rfl)).trans ?_
    rw[aAv h2 (by assumption)]
    (rw[if_neg (by decide),List.map_append]; rfl)
   ·
    simp only[bs] at hc20
    refine aL (hK23 _ (aC (fun K26 hK26=>(aB (aE aA 2 rfl (aD (hK26 _ (aJ ?_))))))))
    refine⟨_,rfl,?_⟩
    refine(bV (g:=7) rfl (by simp only[List.length_append,List.length_map]; try rfl)).trans ?_
    rw[aAv h2 (by assumption)]
    (rw[if_pos (by assumption),List.append_nil])
theorem aFu (l:List Tm) (u:ByteArray) (t:Int) (hl:l.length*24+24≤140737488355328) (hu:TS u) (ht:∀ x∈l,TS x.1) :Den Tryz.prog 108 [.sl 2 (l.map tmC),.s (.string u),.s (.int .i64 t)]  (·=.sl 2 ((jD dZ u (u,t) false l).map tmC)):=by
 refine aS Tryz.func108 rfl (Nat.le_of_ble_eq_true rfl) (fun w0 A hf=>(aC (fun K1 hK1=>(aB (aF rfl (bE) (aD (hK1 _ (aC (fun K2 hK2=>(aB (jK hf 2 rfl rfl rfl (aD (hK2 _ (aC (fun K3 hK3=>(aB ?_))))))))))))))))
 refine aE aA 1 rfl (aD (hK3 _ (aC (fun K4 hK4=>(aC (fun K5 hK5=>(aB (aE aA 1 rfl (aD (hK5 _ (aO (bS (ι:=Nat×Bool×List Tm) (fun(⟨k,d,out⟩:Nat×Bool×List Tm)=>⟨57,[(0,.sl 2 (l.map tmC)),(1,.s (.string u)),(2,.s (.int .i64 t)),(7,.own 7 2 0 out.length),(8,.s (.bool d)),(9,.s (.int .i64 (k:Nat)))],[(7,.buf 2 (out.map tmC))]⟩) (fun(⟨k,d,out⟩:Nat×Bool×List Tm)=>k≤l.length∧jD dZ u (u,t) false l=out++jD dZ u (u,t) d (l.drop k)∧out.length≤k+d.toNat) (fun(⟨k,d,out⟩:Nat×Bool×List Tm)=>l.length - k) (0,false,[]) ?_ ?_ ?_))))))))))))
 · exact⟨Nat.zero_le _,rfl,Nat.zero_le _⟩
 · exact bT ⟨rfl,rfl,rfl,rfl,rfl,rfl,trivial⟩ rfl
 ·
  rintro ⟨k,d,out⟩ hC
  obtain ⟨h1,h2,h3⟩:=hC
  have hdn:d.toNat≤1:=Bool.toNat_le d
  refine aC (fun K6 hK6=>(aC (fun K7 hK7=>(aB (aE aA 4 rfl (aD (hK7 _ (aI rfl (fun hc1=>?_) (fun hc1=>?_)))))))))
  ·
   simp only[bs] at hc1
   refine aL (hK6 _ (aC (fun K8 hK8=>(aO (aC (fun K9 hK9=>(aC (fun K10 hK10=>(aB (aE aA 3 rfl (aY rfl rfl rfl (fun hg2=>?_) (fun hg2=>?_))))))))))))
   ·
    simp only[bs] at hg2
    refine aF rfl (fA rfl) (aE aA 2 rfl (bK rfl rfl rfl ?_))
    refine aF rfl (aW rfl rfl pP nA (by first | exact ixm (by omega) | assumption | exact⟨by decide,rfl⟩)) ?_
    refine aE aA 2 rfl (bK rfl rfl rfl (aK hf rfl (aR rfl rfl sC rfl (Nm.refCmp_den u _ hu (ht _ (List.getElem_mem (by omega))))) (aE aA 2 rfl (aD (hK10 _ (aI rfl (fun hc3=>?_) (fun hc3=>?_)))))))
    ·
     simp only[bs] at hc3
     try (have hd:d=false:=by simp_all)
     try subst hd
     simp only[Bool.toNat_false,Nat.add_zero] at h3
     refine aC (fun K11 hK11=>(aB (aE aA 3 rfl (aF rfl (bO rfl aFc aC9 (l3 rfl) rfl) (aK hf rfl (aN jU rfl rfl rfl rfl (l2 rfl)) (aT hf rfl jU rfl rfl rfl (.inl rfl) (by simp only[List.length_append,List.length_map,List.length_cons,List.length_nil]) rfl (by first | rfl | simp [cV,bF]) (by first | (simp only[maxLen,List.length_map,List.length_append,List.length_cons,List.length_nil]; omega) | (simp [maxLen] <;> omega)) (by first | (simp only[List.length_map,List.length_append,List.length_cons,List.length_nil]; omega) | (simp <;> omega)) ?_))))))
     refine aQ (cD [0,1,2,9,33] rfl) (aE aA 1 rfl (aD (hK11 _ (aB (aE aA 1 rfl (aD (hK9 _ (aC (fun K12 hK12=>(aB (aE aA 2 rfl ?_)))))))))))
     refine aF rfl (aW rfl rfl pP nA (by first | exact ixm (by omega) | assumption | exact⟨by decide,rfl⟩)) ?_
     refine aE aA 4 rfl (aD (hK12 _ (aI rfl (fun hc4=>?_) (fun hc4=>?_))))
     ·
      simp only[bs] at hc4
      try (have hd:d=false:=by simp_all)
      try subst hd
      refine aB (aE aA 3 rfl ?_)
      refine aF rfl (aW rfl rfl pP nA (by first | exact ixm (by omega) | assumption | exact⟨by decide,rfl⟩)) ?_
      refine aE aA 1 rfl (aK hf rfl (aN jU rfl rfl rfl rfl (l2 rfl)) (aT hf rfl jU rfl rfl rfl (.inl rfl) (by simp only[List.length_append,List.length_map,List.length_cons,List.length_nil]) rfl (by first | rfl | simp [cV,bF]) (by first | (simp only[maxLen,List.length_map,List.length_append,List.length_cons,List.length_nil]; omega) | (simp [maxLen] <;> omega)) (by first | (simp only[List.length_map,List.length_append,List.length_cons,List.length_nil]; omega) | (simp <;> omega)) ?_))
      refine aQ (cD [0,1,2,8,9,47] rfl) (aE aA 1 rfl ?_)
      refine bB ?_
      refine hK8 _ (aB (aE aA 1 rfl ?_))
      refine aF rfl (bJ rfl rfl (by omega) (by omega)) ?_
      refine aE aA 1 rfl (aD ?_)
      exact⟨(k+1,true,out++[(u,t)]++[l[k]]),⟨by omega,aRy h2 (by assumption) (by first | assumption | (have hne:u≠l[k].1:=fun e=>(by assumption:¬ _=_) (by rw[e]); have hq:eA u l[k].1≠0:=(fun e=>hne ((kQ _ _).1 e)); show eA u l[k].1<0; omega)),by simp only[List.length_append,List.length_cons,List.length_nil,Bool.toNat_true,Bool.toNat_false]; omega⟩,by simp only; omega,bT ⟨rfl,rfl,rfl,(by first | rfl | (simp only[List.length_append]; rfl)),rfl,rfl,trivial⟩ (by simp only[List.map_append]; rfl)⟩
     ·
      simp only[bs] at hc4
      refine aL (hK8 _ (aB (aE aA 1 rfl ?_)))
      refine aF rfl (bJ rfl rfl (by omega) (by omega)) ?_
      refine aE aA 1 rfl (aD ?_)
      exact⟨(k+1,true,out++[(u,t)]),⟨by omega,aMo h2 (by assumption) (toList_inj.1 (by assumption)),by simp only[List.length_append,List.length_cons,List.length_nil,Bool.toNat_true,Bool.toNat_false]; omega⟩,by simp only; omega,bT ⟨rfl,rfl,rfl,(by first | rfl | (simp only[List.length_append]; rfl)),rfl,rfl,trivial⟩ (by simp only[List.map_append]; rfl)⟩
    ·
     simp only[bs] at hc3
     try (have hd:d=false:=by simp_all)
     try subst hd
     simp only[Bool.toNat_false,Nat.add_zero] at h3
     refine aL (hK9 _ (aC (fun K13 hK13=>(aB (aE aA 2 rfl ?_)))))
     refine aF rfl (aW rfl rfl pP nA (by first | exact ixm (by omega) | assumption | exact⟨by decide,rfl⟩)) ?_
     refine aE aA 4 rfl (aD (hK13 _ (aI rfl (fun hc5=>?_) (fun hc5=>?_))))
     ·
      simp only[bs] at hc5
      try (have hd:d=false:=by simp_all)
      try subst hd
      refine aB (aE aA 3 rfl ?_)
      refine aF rfl (aW rfl rfl pP nA (by first | exact ixm (by omega) | assumption | exact⟨by decide,rfl⟩)) ?_
      refine aE aA 1 rfl (aK hf rfl (aN jU rfl rfl rfl rfl (l2 rfl)) (aT hf rfl jU rfl rfl rfl (.inl rfl) (by simp only[List.length_append,List.length_map,List.length_cons,List.length_nil]) rfl (by first | rfl | simp [cV,bF]) (by first | (simp only[maxLen,List.length_map,List.length_append,List.length_cons,List.length_nil]; omega) | (simp [maxLen] <;> omega)) (by first | (simp only[List.length_map,List.length_append,List.length_cons,List.length_nil]; omega) | (simp <;> omega)) ?_))
      refine aQ (cD [0,1,2,8,9,47] rfl) (aE aA 1 rfl ?_)
      refine bB ?_
      refine hK8 _ (aB (aE aA 1 rfl ?_))
      refine aF rfl (bJ rfl rfl (by omega) (by omega)) ?_
      refine aE aA 1 rfl (aD ?_)
      exact⟨(k+1,false,out++[l[k]]),⟨by omega,wP h2 (by assumption) (fun e=>(by assumption:¬ _=_) (by show l[k].1.toList=_; rw[show l[k].1=u from e])) (fun e=>by show ¬ eA u l[k].1<0; omega),by simp only[List.length_append,List.length_cons,List.length_nil,Bool.toNat_true,Bool.toNat_false]; omega⟩,by simp only; omega,bT ⟨rfl,rfl,rfl,(by first | rfl | (simp only[List.length_append]; rfl)),rfl,rfl,trivial⟩ (by simp only[List.map_append]; rfl)⟩
     ·
      simp only[bs] at hc5
      refine aL (hK8 _ (aB (aE aA 1 rfl ?_)))
      refine aF rfl (bJ rfl rfl (by omega) (by omega)) ?_
      refine aE aA 1 rfl (aD ?_)
      (exfalso; have e8:eA u l[k].1=0:=(kQ _ _).2 (toList_inj.1 (by assumption)).symm; omega)
   ·
    simp only[bs] at hg2
    refine aE aA 8 rfl (aD (hK10 _ (bD rfl (aL (hK9 _ (aC (fun K14 hK14=>(aB (aE aA 2 rfl ?_)))))))))
    refine aF rfl (aW rfl rfl pP nA (by first | exact ixm (by omega) | assumption | exact⟨by decide,rfl⟩)) ?_
    refine aE aA 4 rfl (aD (hK14 _ (aI rfl (fun hc7=>?_) (fun hc7=>?_))))
    ·
     simp only[bs] at hc7
     try (have hd:d=false:=by simp_all)
     try subst hd
     refine aB (aE aA 3 rfl ?_)
     refine aF rfl (aW rfl rfl pP nA (by first | exact ixm (by omega) | assumption | exact⟨by decide,rfl⟩)) ?_
     refine aE aA 1 rfl (aK hf rfl (aN jU rfl rfl rfl rfl (l2 rfl)) (aT hf rfl jU rfl rfl rfl (.inl rfl) (by simp only[List.length_append,List.length_map,List.length_cons,List.length_nil]) rfl (by first | rfl | simp [cV,bF]) (by first | (simp only[maxLen,List.length_map,List.length_append,List.length_cons,List.length_nil]; omega) | (simp [maxLen] <;> omega)) (by first | (simp only[List.length_map,List.length_append,List.length_cons,List.length_nil]; omega) | (simp <;> omega)) ?_))
     refine aQ (cD [0,1,2,8,9,47] rfl) (aE aA 1 rfl ?_)
     refine bB ?_
     refine hK8 _ (aB (aE aA 1 rfl ?_))
     refine aF rfl (bJ rfl rfl (by omega) (by omega)) ?_
     refine aE aA 1 rfl (aD ?_)
     exact⟨(k+1,d,out++[l[k]]),⟨by omega,wP h2 (by assumption) (fun e=>(by assumption:¬ _=_) (by show l[k].1.toList=_; rw[show l[k].1=u from e])) (fun e=>by first | exact absurd (e.symm.trans (by assumption:d=true)) (by decide) | (show ¬ eA u l[k].1<0; omega)),by simp only[List.length_append,List.length_cons,List.length_nil,Bool.toNat_true,Bool.toNat_false]; omega⟩,by simp only; omega,bT ⟨rfl,rfl,rfl,(by first | rfl | (simp only[List.length_append]; rfl)),rfl,rfl,trivial⟩ (by simp only[List.map_append]; rfl)⟩
    ·
     simp only[bs] at hc7
     refine aL (hK8 _ (aB (aE aA 1 rfl ?_)))
     refine aF rfl (bJ rfl rfl (by omega) (by omega)) ?_
     refine aE aA 1 rfl (aD ?_)
     (  have hd:d=true:=by simp_all
        subst hd
        exact⟨(k+1,true,out),⟨by omega,aIr h2 (by assumption) (toList_inj.1 (by assumption)),by omega⟩,by simp only; omega,bT ⟨rfl,rfl,rfl,(by first | rfl | (simp only[List.length_append]; rfl)),rfl,rfl,trivial⟩ rfl⟩)
  ·
   simp only[bs] at hc1
   refine bA (hK4 _ (aC (fun K15 hK15=>(aC (fun K16 hK16=>(aB (aE aA 2 rfl (aD (hK16 _ (aI rfl (fun hc8=>?_) (fun hc8=>?_)))))))))))
   ·
    simp only[bs] at hc8
    try (have hd:d=false:=by simp_all)
    try subst hd
    simp only[Bool.toNat_false,Nat.add_zero] at h3
    refine aB (aE aA 3 rfl (aF rfl (bO rfl aFc aC9 (l3 rfl) rfl) (aK hf rfl (aN jU rfl rfl rfl rfl (l2 rfl)) (aT hf rfl jU rfl rfl rfl (.inl rfl) (by simp only[List.length_append,List.length_map,List.length_cons,List.length_nil]) rfl (by first | rfl | simp [cV,bF]) (by first | (simp only[maxLen,List.length_map,List.length_append,List.length_cons,List.length_nil]; omega) | (simp [maxLen] <;> omega)) (by first | (simp only[List.length_map,List.length_append,List.length_cons,List.length_nil]; omega) | (simp <;> omega)) ?_))))
    refine aQ (cD [55] rfl) (aE aA 1 rfl (aD (hK15 _ (aC (fun K17 hK17=>(aB (aE aA 2 rfl (aD (hK17 _ (aJ ?_))))))))))
    refine⟨_,rfl,?_⟩
    refine(bV (g:=7) rfl (by simp only[List.length_append,List.length_map]; try rfl)).trans ?_
    rw[aAv h2 (by assumption)]
    (rw[if_neg (by decide),List.map_append]; rfl)
   ·
    simp only[bs] at hc8
    refine aL (hK15 _ (aC (fun K18 hK18=>(aB (aE aA 2 rfl (aD (hK18 _ (aJ ?_))))))))
    refine⟨_,rfl,?_⟩
    refine(bV (g:=7) rfl (by simp only[List.length_append,List.length_map]; try rfl)).trans ?_
    rw[aAv h2 (by assumption)]
    (rw[if_pos (by assumption),List.append_nil])
end Go.Proofs.YtijnkglkchhomaaGreat
set_option linter.unusedVariables false
set_option linter.unusedSimpArgs false
namespace Go.Proofs.YtijnkglkchhomaaGreat
open Go Go.Abs
theorem yO (l:List Us) (u:ByteArray) (ys:List bP) (hl:l.length*40+40≤140737488355328) (hu:TS u) (ht:∀ x∈l,TS x.1) (hr:cQ cR l):Den Tryz.prog 107 [.sl 2 (l.map usC),.s (.string u),.sl 4 (ys.map stC)] (·=.sl 2 ((nW l u ys).map usC)) :=
  iM (aMf l u ys hl hu ht) (by rw[put_set hr])
theorem aDs (l:List Tm) (u:ByteArray) (t:Int) (hl:l.length*24+24≤140737488355328) (hu:TS u) (ht:∀ x∈l,TS x.1) (hr:cQ dZ l):Den Tryz.prog 108 [.sl 2 (l.map tmC),.s (.string u),.s (.int .i64 t)] (·=.sl 2 ((pT l u t).map tmC)) :=
  iM (aFu l u t hl hu ht) (by rw[aO3 hr])
theorem aBv (s:Sta) (u:ByteArray) (x:bP) (hz:SzS 140737488355200 s) (hr:cQ cR s.usr) (hu:TS u) (ht:∀ x∈s.usr,TS x.1) :Den Tryz.prog 172 [.agg (bU s),.s (.string u),.agg (stC x)]  (·=.agg (bU (dQ s u x))):=by
 have z2:=hz.u
 have hou:(ofU s.usr u).length*32≤140737488355200:=aAu (p:=fun x=>x.2.length*32≤140737488355200) hr hz.y (by simp)
 refine aS Tryz.func172 rfl (Nat.le_of_ble_eq_true rfl) (fun w0 A hf=>(aC (fun K1 hK1=>(aB (jL hf rfl rfl rfl rfl (l1 rfl) ?_)))))
 refine aK hf rfl (cL rfl rfl (lf rfl)) (bQ hf rfl rfl rfl dA (aD (hK1 _ (aC (fun K2 hK2=>(aC (fun K3 hK3=>(aB (aE aA 5 rfl (aD (hK3 _ (aI rfl (fun hc1=>?_) (fun hc1=>?_)))))))))))))
 ·
  simp only[bs] at hc1
  refine iA hf (L:=#[true,true,true,true,true,true,true,true,true,true,false]) 10 1 bN (by kernel_rfl) rfl (by kernel_rfl) rfl ?_
  refine bL aA 5 rfl (cA [(15,_),(16,_)] rfl rfl ⟨⟨rfl,rfl⟩,⟨rfl,rfl⟩,trivial⟩ rfl (aR rfl rfl aNm rfl (aPf s u (by omega))) (bL aA 1 rfl (cA [(17,_),(18,_)] rfl rfl ⟨⟨rfl,rfl⟩,⟨rfl,rfl⟩,trivial⟩ rfl (aR rfl rfl aNn rfl (aHy (ofU s.usr u) x (by omega))) (cA [(13,_),(14,_),(19,_)] rfl rfl ⟨⟨rfl,rfl⟩,⟨rfl,rfl⟩,⟨rfl,rfl⟩,trivial⟩ rfl (aR rfl rfl zS rfl (yO s.usr u (iC (ofU s.usr u) x) (by omega) hu ht hr)) (bL aA 1 rfl (tC [3,6,20,21] rfl rfl rfl ?_))))))
  refine aH 10 [] (by kernel_rfl) ⟨?_,trivial⟩
  ·
   refine⟨_,rfl,rfl,(ao rfl (aP hf rfl rfl aL1 rfl rfl (l1 rfl) (l4 rfl) rfl (aG (bW (by kernel_rfl) ?_))))⟩
   refine hK2 _ (aC (fun K4 hK4=>(aB (aF rfl ((by first | exact bM (cs':=bU s) rfl iF cI rfl rfl rfl | exact bM (cs':=[.s (.int .i64 s.now),.s (.int .i64 s.hor),.sl 4 (s.opn.map seC),.sl 2 ((nW s.usr u (iC (ofU s.usr u) x)).map usC),.sl 4 (s.sub.map enC),.sl 2 (s.tmb.map tmC)]) rfl iF cI rfl rfl rfl)) ?_))))
   refine aP hf rfl rfl cI rfl rfl (l1 rfl) (l4 rfl) rfl (aD (hK4 _ (aJ ?_)))
   refine⟨_,rfl,?_⟩
   (unfold dQ mO; rw[if_neg (by omega)]; rfl)
 ·
  simp only[bs] at hc1
  refine aL (hK2 _ (aC (fun K5 hK5=>(aB (aF rfl ((by first | exact bM (cs':=bU s) rfl iF cI rfl rfl rfl | exact bM (cs':=[.s (.int .i64 s.now),.s (.int .i64 s.hor),.sl 4 (s.opn.map seC),.sl 2 ((nW s.usr u (iC (ofU s.usr u) x)).map usC),.sl 4 (s.sub.map enC),.sl 2 (s.tmb.map tmC)]) rfl iF cI rfl rfl rfl)) ?_)))))
  refine aP hf rfl rfl cI rfl rfl (l1 rfl) (l4 rfl) rfl (aD (hK5 _ (aJ ?_)))
  refine⟨_,rfl,?_⟩
  (rw[iB (by omega)]; rfl)
theorem aAc (s:Sta) (e:Ev) (hz:SzS 140737488355100 s) (hr:cQ cR s.usr) (hr2:cQ dZ s.tmb) (ts:TsS s) (hu:TS e.user) (ho:TS e.other) (hk:e.kind=1) :Den Tryz.prog 102 [.agg (bU s),.agg (evC e)]  (·=.tup [.agg (bU (bG s e).1),.s (.int .i64 (bG s e).2)]):=by
 have z1:=hz.o
 have z2:=hz.u
 have z3:=hz.b
 have z4:=hz.t
 have q:=aB5 s.opn ((e.n,e.user),(e.st,e.at'))
 have hd:bG s e=(dQ ({ s with opn:=lG s.opn ((e.n,e.user),(e.st,e.at')) }) e.user (st0),nZ s.opn ((e.n,e.user),(e.st,e.at'))):=by
  rw[bG,if_pos hk]
  rw[iB (show st0.1.2≤st0.1.1 from Int.le_refl _)]
 have hz2:SzS 140737488355200 ({ s with opn:=lG s.opn ((e.n,e.user),(e.st,e.at')) }):=⟨by show (lG s.opn ((e.n,e.user),(e.st,e.at'))).length*40≤_; omega,by show s.usr.length*40≤_; omega,by show s.sub.length*48≤_; omega,by show s.tmb.length*24≤_; omega,fun x hx=>by have:=hz.y x hx; omega⟩
 rw[hd]
 rw[iB (show st0.1.2≤st0.1.1 from Int.le_refl _)]
 refine aS Tryz.func102 rfl (Nat.le_of_ble_eq_true rfl) (fun w0 A hf=>(aC (fun K1 hK1=>(aB (jL hf rfl rfl rfl rfl (l1 rfl) ?_)))))
 refine aK hf rfl (cL rfl rfl (lf rfl)) (bQ hf rfl rfl rfl dA (aE aA 1 rfl (aD (hK1 _ (aC (fun K2 hK2=>(aC (fun K3 hK3=>(aB (aE aA 2 rfl (aF rfl (dB rfl rfl (hY (by omega))) (aD (hK3 _ (cS rfl ?_))))))))))))))
 refine aC (fun K4 hK4=>(aB (aE aA 10 rfl (aF rfl (bO rfl pK uK (l3 rfl) rfl) (aK hf rfl (aR rfl rfl aK8 rfl (aDu s.opn ((e.n,e.user),(e.st,e.at')) (by omega))) (aE aA 5 rfl (aD (hK4 _ (aC (fun K5 hK5=>(aB (aE aA 2 rfl (aP hf rfl rfl xG rfl rfl (l1 rfl) (l4 rfl) rfl (aD ?_))))))))))))))
 refine hK5 _ (aC (fun K6 hK6=>(aB (aF rfl (bM (cs':=[.s (.int .i64 s.now),.s (.int .i64 s.hor),.sl 4 ((lG s.opn ((e.n,e.user),(e.st,e.at'))).map seC),.sl 2 (s.usr.map usC),.sl 4 (s.sub.map enC),.sl 2 (s.tmb.map tmC)]) rfl iF cI rfl rfl rfl) (aE aA 1 rfl (aP hf rfl rfl cI rfl rfl (l1 rfl) (l4 rfl) rfl (aE aA 1 rfl (aD (hK6 _ (aJ ?_))))))))))
 refine⟨_,rfl,?_⟩
 rfl
theorem aAb (s:Sta) (e:Ev) (hz:SzS 140737488355100 s) (hr:cQ cR s.usr) (hr2:cQ dZ s.tmb) (ts:TsS s) (hu:TS e.user) (ho:TS e.other) (hk:e.kind=2) :Den Tryz.prog 102 [.agg (bU s),.agg (evC e)]  (·=.tup [.agg (bU (bG s e).1),.s (.int .i64 (bG s e).2)]):=by
 have z1:=hz.o
 have z2:=hz.u
 have z3:=hz.b
 have z4:=hz.t
 have q:=aCy s.opn e.n e.user e.st e.at'
 have hd:bG s e=(dQ ({ s with opn:=mD s.opn e.n e.user e.st e.at' }) e.user (stR s.opn e.n e.user e.at'),fM s.opn e.n e.user):=by
  rw[bG,if_neg (by omega),if_pos hk]
  rfl
 have hz2:SzS 140737488355200 ({ s with opn:=mD s.opn e.n e.user e.st e.at' }):=⟨by show (mD s.opn e.n e.user e.st e.at').length*40≤_; omega,by show s.usr.length*40≤_; omega,by show s.sub.length*48≤_; omega,by show s.tmb.length*24≤_; omega,fun x hx=>by have:=hz.y x hx; omega⟩
 rw[hd]
 refine aS Tryz.func102 rfl (Nat.le_of_ble_eq_true rfl) (fun w0 A hf=>(aC (fun K1 hK1=>(aB (jL hf rfl rfl rfl rfl (l1 rfl) ?_)))))
 refine aK hf rfl (cL rfl rfl (lf rfl)) (bQ hf rfl rfl rfl dA (aE aA 1 rfl (aD (hK1 _ (aC (fun K2 hK2=>(aC (fun K3 hK3=>(aB (aE aA 2 rfl (aF rfl (dB rfl rfl (cT (by omega))) (aD (hK3 _ (bD rfl ?_))))))))))))))
 refine aL (hK2 _ (aC (fun K4 hK4=>(aB (aE aA 8 rfl (aK hf rfl (aR rfl rfl zN rfl (sQ s.opn e.n e.user e.at' (by omega))) (aE aA 4 rfl (bQ hf rfl rfl rfl lV (aE aA 1 rfl (aP hf rfl rfl jC rfl rfl (l1 rfl) (l4 rfl) rfl (aE aA 1 rfl (aD (hK4 _ ?_)))))))))))))
 refine aC (fun K5 hK5=>(aC (fun K6 hK6=>(aB (aE aA 2 rfl (aF rfl (dB rfl rfl (hY (by omega))) (aD (hK6 _ (cS rfl (aB (aE aA 10 rfl (aK hf rfl (aR rfl rfl aK7 rfl (aAd s.opn e.n e.user e.st e.at' (by omega))) (aE aA 5 rfl (aP hf rfl rfl jC rfl rfl (l1 rfl) (l4 rfl) rfl ?_))))))))))))))
 refine aE aA 1 rfl (aD (hK5 _ (aC (fun K7 hK7=>(aB (aE aA 2 rfl (aP hf rfl rfl xG rfl rfl (l1 rfl) (l4 rfl) rfl (aD (hK7 _ (aC (fun K8 hK8=>(aB (aF rfl (bM (cs':=[.s (.int .i64 s.now),.s (.int .i64 s.hor),.sl 4 ((mD s.opn e.n e.user e.st e.at').map seC),.sl 2 (s.usr.map usC),.sl 4 (s.sub.map enC),.sl 2 (s.tmb.map tmC)]) rfl iF cI rfl rfl rfl) (aE aA 3 rfl ?_))))))))))))))
 refine aK hf rfl (aR rfl rfl zM rfl (aBv ({ s with opn:=mD s.opn e.n e.user e.st e.at' }) e.user (stR s.opn e.n e.user e.at') hz2 hr hu ts.u)) (aE aA 1 rfl (aP hf rfl rfl cI rfl rfl (l1 rfl) (l4 rfl) rfl (aE aA 1 rfl (aD (hK8 _ (aJ ?_))))))
 refine⟨_,rfl,?_⟩
 rfl
theorem aAa (s:Sta) (e:Ev) (hz:SzS 140737488355100 s) (hr:cQ cR s.usr) (hr2:cQ dZ s.tmb) (ts:TsS s) (hu:TS e.user) (ho:TS e.other) (hk:e.kind=3) :Den Tryz.prog 102 [.agg (bU s),.agg (evC e)]  (·=.tup [.agg (bU (bG s e).1),.s (.int .i64 (bG s e).2)]):=by
 have z1:=hz.o
 have z2:=hz.u
 have z3:=hz.b
 have z4:=hz.t
 have q:=aCx s.opn e.n e.user
 have hd:bG s e=(dQ ({ s with opn:=mC s.opn e.n e.user }) e.user (stR s.opn e.n e.user e.at'),fM s.opn e.n e.user):=by
  rw[bG,if_neg (by omega),if_neg (by omega),if_pos hk]
  rfl
 have hz2:SzS 140737488355200 ({ s with opn:=mC s.opn e.n e.user }):=⟨by show (mC s.opn e.n e.user).length*40≤_; omega,by show s.usr.length*40≤_; omega,by show s.sub.length*48≤_; omega,by show s.tmb.length*24≤_; omega,fun x hx=>by have:=hz.y x hx; omega⟩
 rw[hd]
 refine aS Tryz.func102 rfl (Nat.le_of_ble_eq_true rfl) (fun w0 A hf=>(aC (fun K1 hK1=>(aB (jL hf rfl rfl rfl rfl (l1 rfl) ?_)))))
 refine aK hf rfl (cL rfl rfl (lf rfl)) (bQ hf rfl rfl rfl dA (aE aA 1 rfl (aD (hK1 _ (aC (fun K2 hK2=>(aC (fun K3 hK3=>(aB (aE aA 2 rfl (aF rfl (dB rfl rfl (cT (by omega))) (aD (hK3 _ (bD rfl ?_))))))))))))))
 refine aL (hK2 _ (aC (fun K4 hK4=>(aB (aE aA 8 rfl (aK hf rfl (aR rfl rfl zN rfl (sQ s.opn e.n e.user e.at' (by omega))) (aE aA 4 rfl (bQ hf rfl rfl rfl lV (aE aA 1 rfl (aP hf rfl rfl jC rfl rfl (l1 rfl) (l4 rfl) rfl (aE aA 1 rfl (aD (hK4 _ ?_)))))))))))))
 refine aC (fun K5 hK5=>(aC (fun K6 hK6=>(aB (aE aA 2 rfl (aF rfl (dB rfl rfl (cT (by omega))) (aD (hK6 _ (bD rfl (aL (hK5 _ (aC (fun K7 hK7=>(aB (aE aA 2 rfl ?_)))))))))))))))
 refine aP hf rfl rfl xG rfl rfl (l1 rfl) (l4 rfl) rfl (aD (hK7 _ (aC (fun K8 hK8=>(aB (aF rfl (bM (cs':=[.s (.int .i64 s.now),.s (.int .i64 s.hor),.sl 4 ((mC s.opn e.n e.user).map seC),.sl 2 (s.usr.map usC),.sl 4 (s.sub.map enC),.sl 2 (s.tmb.map tmC)]) rfl iF cI rfl rfl rfl) (aE aA 3 rfl (aK hf rfl (aR rfl rfl zM rfl (aBv ({ s with opn:=mC s.opn e.n e.user }) e.user (stR s.opn e.n e.user e.at') hz2 hr hu ts.u)) (aE aA 1 rfl (aP hf rfl rfl cI rfl rfl (l1 rfl) (l4 rfl) rfl (aE aA 1 rfl ?_)))))))))))
 refine aD (hK8 _ (aJ ?_))
 refine⟨_,rfl,?_⟩
 rfl
end Go.Proofs.YtijnkglkchhomaaGreat
set_option linter.unusedVariables false
set_option linter.unusedSimpArgs false
namespace Go.Proofs.YtijnkglkchhomaaGreat
open Go Go.Abs
theorem aD3 (s:Sta) (e:Ev) (hz:SzS 140737488355100 s) (hr:cQ cR s.usr) (hr2:cQ dZ s.tmb) (ts:TsS s) (hu:TS e.user) (ho:TS e.other) (hk:e.kind=1) (he:bH e=true) (ht:s.now≤e.at') :Den Tryz.prog 54 [.agg (bU s),.agg (evC e)]  (·=.tup [.agg (bU (bI s e).1),.s (.int .i64 (bI s e).2)]):=by
 have z1:=hz.o
 have z2:=hz.u
 have z3:=hz.b
 have z4:=hz.t
 have hd2:∃ D N,bG s e=(D,N):=⟨_,_,rfl⟩
 obtain ⟨D,N,hd⟩:=hd2
 refine aS Tryz.func54 rfl (Nat.le_of_ble_eq_true rfl) (fun w0 A hf=>(aC (fun K1 hK1=>(aB (jL hf rfl rfl rfl rfl (l1 rfl) ?_)))))
 refine aK hf rfl (cL rfl rfl (lf rfl)) (bQ hf rfl rfl rfl dA (aE aA 1 rfl (aD (hK1 _ (aC (fun K2 hK2=>(aC (fun K3 hK3=>(aB (aE aA 1 rfl (aK hf rfl (aR rfl rfl iH rfl ((show Den Tryz.prog _ _ (·=.s (.bool true)) from iM (fF e hu ho) (by rw[he])))) ?_)))))))))))
 refine aE aA 1 rfl (aD (hK3 _ (bD rfl (aL (hK2 _ (aC (fun K4 hK4=>(aC (fun K5 hK5=>(aB (aE aA 5 rfl (aD (hK5 _ (cM rfl rfl (fun hc2=>?_) (fun hc2=>?_)))))))))))))))
 ·
  simp only[bs] at hc2
  omega
 ·
  simp only[bs] at hc2
  refine aL (hK4 _ (aC (fun K6 hK6=>(aB (aE aA 4 rfl (aF rfl (bO rfl gF lJ (l3 rfl) rfl) (cH hf rfl gF rfl mZ rfl rfl rfl rfl (lf rfl) (aD (hK6 _ (aC (fun K7 hK7=>(aB (aE aA 1 rfl (aD ?_))))))))))))))
  refine hK7 _ (aC (fun K8 hK8=>(aC (fun K9 hK9=>(aB (aE aA 2 rfl (aD (hK9 _ (aO (aC (fun K10 hK10=>(aC (fun K11 hK11=>(aB (aF rfl (dB rfl rfl (hY (by omega))) (aE aA 1 rfl ?_))))))))))))))))
  refine aD (hK11 _ (cS rfl (aL (hK10 _ (cS rfl (aB (aE aA 2 rfl (aK hf rfl (aR rfl rfl tQ rfl (iM (aAc s e hz hr hr2 ts hu ho hk) (show _=AV.tup [.agg (bU D),.s (.int .i64 N)] from by rw[hd]))) ?_))))))))
  refine aE aA 3 rfl (aP hf rfl rfl cI rfl rfl (l1 rfl) (l4 rfl) rfl (aE aA 1 rfl ?_))
  refine bB ?_
  refine hK8 _ (aC (fun K12 hK12=>(aC (fun K13 hK13=>(aB (aE aA 2 rfl (aD (hK13 _ (cM rfl rfl (fun hc5=>?_) (fun hc5=>?_))))))))))
  ·
   simp only[bs] at hc5
   refine aC (fun K14 hK14=>(aB (aF rfl (bO rfl dA jS (l3 rfl) rfl) (aQ (iS fW) (aE aA 1 rfl (aP hf rfl rfl cI rfl rfl (l1 rfl) (l4 rfl) rfl (aE aA 1 rfl (aD (hK14 _ (aJ ?_))))))))))
   refine⟨_,rfl,?_⟩
   rw[bI,if_pos he,if_neg (by omega),hd,if_neg (by first | assumption | omega | (simp_all; done) | (intro hq; simp only at hq; split at hq <;> simp_all))]; rfl
  ·
   simp only[bs] at hc5
   refine aL (hK12 _ (aC (fun K15 hK15=>(aB (aE aA 3 rfl (aP hf rfl rfl cB rfl rfl (l1 rfl) (l4 rfl) rfl (aD (hK15 _ (aC (fun K16 hK16=>(aB (aF rfl (bM (cs':=[.s (.int .i64 e.at'),.s (.int .i64 D.hor),.sl 4 (D.opn.map seC),.sl 2 (D.usr.map usC),.sl 4 (D.sub.map enC),.sl 2 (D.tmb.map tmC)]) rfl iF cI rfl rfl rfl) (aP hf rfl rfl cI rfl rfl (l1 rfl) (l4 rfl) rfl (aE aA 1 rfl ?_))))))))))))))
   refine aD (hK16 _ (aJ ?_))
   refine⟨_,rfl,?_⟩
   rw[bI,if_pos he,if_neg (by omega),hd,if_pos (by first | assumption | omega)]; rfl
theorem aD2 (s:Sta) (e:Ev) (hz:SzS 140737488355100 s) (hr:cQ cR s.usr) (hr2:cQ dZ s.tmb) (ts:TsS s) (hu:TS e.user) (ho:TS e.other) (hk:e.kind=2) (he:bH e=true) (ht:s.now≤e.at') :Den Tryz.prog 54 [.agg (bU s),.agg (evC e)]  (·=.tup [.agg (bU (bI s e).1),.s (.int .i64 (bI s e).2)]):=by
 have z1:=hz.o
 have z2:=hz.u
 have z3:=hz.b
 have z4:=hz.t
 have hd2:∃ D N,bG s e=(D,N):=⟨_,_,rfl⟩
 obtain ⟨D,N,hd⟩:=hd2
 refine aS Tryz.func54 rfl (Nat.le_of_ble_eq_true rfl) (fun w0 A hf=>(aC (fun K1 hK1=>(aB (jL hf rfl rfl rfl rfl (l1 rfl) ?_)))))
 refine aK hf rfl (cL rfl rfl (lf rfl)) (bQ hf rfl rfl rfl dA (aE aA 1 rfl (aD (hK1 _ (aC (fun K2 hK2=>(aC (fun K3 hK3=>(aB (aE aA 1 rfl (aK hf rfl (aR rfl rfl iH rfl ((show Den Tryz.prog _ _ (·=.s (.bool true)) from iM (fF e hu ho) (by rw[he])))) ?_)))))))))))
 refine aE aA 1 rfl (aD (hK3 _ (bD rfl (aL (hK2 _ (aC (fun K4 hK4=>(aC (fun K5 hK5=>(aB (aE aA 5 rfl (aD (hK5 _ (cM rfl rfl (fun hc2=>?_) (fun hc2=>?_)))))))))))))))
 ·
  simp only[bs] at hc2
  omega
 ·
  simp only[bs] at hc2
  refine aL (hK4 _ (aC (fun K6 hK6=>(aB (aE aA 4 rfl (aF rfl (bO rfl gF lJ (l3 rfl) rfl) (cH hf rfl gF rfl mZ rfl rfl rfl rfl (lf rfl) (aD (hK6 _ (aC (fun K7 hK7=>(aB (aE aA 1 rfl (aD ?_))))))))))))))
  refine hK7 _ (aC (fun K8 hK8=>(aC (fun K9 hK9=>(aB (aE aA 2 rfl (aD (hK9 _ (aO (aC (fun K10 hK10=>(aC (fun K11 hK11=>(aB (aF rfl (dB rfl rfl (cT (by omega))) (aE aA 1 rfl ?_))))))))))))))))
  refine aD (hK11 _ (bD rfl (aC (fun K12 hK12=>(aB (aF rfl (dB rfl rfl (hY (by omega))) (aE aA 1 rfl (aD (hK12 _ (cS rfl (aL (hK10 _ (cS rfl ?_)))))))))))))
  refine aB (aE aA 2 rfl (aK hf rfl (aR rfl rfl tQ rfl (iM (aAb s e hz hr hr2 ts hu ho hk) (show _=AV.tup [.agg (bU D),.s (.int .i64 N)] from by rw[hd]))) ?_))
  refine aE aA 3 rfl (aP hf rfl rfl cI rfl rfl (l1 rfl) (l4 rfl) rfl (aE aA 1 rfl ?_))
  refine bB ?_
  refine hK8 _ (aC (fun K13 hK13=>(aC (fun K14 hK14=>(aB (aE aA 2 rfl (aD (hK14 _ (cM rfl rfl (fun hc6=>?_) (fun hc6=>?_))))))))))
  ·
   simp only[bs] at hc6
   refine aC (fun K15 hK15=>(aB (aF rfl (bO rfl dA jS (l3 rfl) rfl) (aQ (iS fW) (aE aA 1 rfl (aP hf rfl rfl cI rfl rfl (l1 rfl) (l4 rfl) rfl (aE aA 1 rfl (aD (hK15 _ (aJ ?_))))))))))
   refine⟨_,rfl,?_⟩
   rw[bI,if_pos he,if_neg (by omega),hd,if_neg (by first | assumption | omega | (simp_all; done) | (intro hq; simp only at hq; split at hq <;> simp_all))]; rfl
  ·
   simp only[bs] at hc6
   refine aL (hK13 _ (aC (fun K16 hK16=>(aB (aE aA 3 rfl (aP hf rfl rfl cB rfl rfl (l1 rfl) (l4 rfl) rfl (aD (hK16 _ (aC (fun K17 hK17=>(aB (aF rfl (bM (cs':=[.s (.int .i64 e.at'),.s (.int .i64 D.hor),.sl 4 (D.opn.map seC),.sl 2 (D.usr.map usC),.sl 4 (D.sub.map enC),.sl 2 (D.tmb.map tmC)]) rfl iF cI rfl rfl rfl) (aP hf rfl rfl cI rfl rfl (l1 rfl) (l4 rfl) rfl (aE aA 1 rfl ?_))))))))))))))
   refine aD (hK17 _ (aJ ?_))
   refine⟨_,rfl,?_⟩
   rw[bI,if_pos he,if_neg (by omega),hd,if_pos (by first | assumption | omega)]; rfl
theorem aD1 (s:Sta) (e:Ev) (hz:SzS 140737488355100 s) (hr:cQ cR s.usr) (hr2:cQ dZ s.tmb) (ts:TsS s) (hu:TS e.user) (ho:TS e.other) (hk:e.kind=3) (he:bH e=true) (ht:s.now≤e.at') :Den Tryz.prog 54 [.agg (bU s),.agg (evC e)]  (·=.tup [.agg (bU (bI s e).1),.s (.int .i64 (bI s e).2)]):=by
 have z1:=hz.o
 have z2:=hz.u
 have z3:=hz.b
 have z4:=hz.t
 have hd2:∃ D N,bG s e=(D,N):=⟨_,_,rfl⟩
 obtain ⟨D,N,hd⟩:=hd2
 refine aS Tryz.func54 rfl (Nat.le_of_ble_eq_true rfl) (fun w0 A hf=>(aC (fun K1 hK1=>(aB (jL hf rfl rfl rfl rfl (l1 rfl) ?_)))))
 refine aK hf rfl (cL rfl rfl (lf rfl)) (bQ hf rfl rfl rfl dA (aE aA 1 rfl (aD (hK1 _ (aC (fun K2 hK2=>(aC (fun K3 hK3=>(aB (aE aA 1 rfl (aK hf rfl (aR rfl rfl iH rfl ((show Den Tryz.prog _ _ (·=.s (.bool true)) from iM (fF e hu ho) (by rw[he])))) ?_)))))))))))
 refine aE aA 1 rfl (aD (hK3 _ (bD rfl (aL (hK2 _ (aC (fun K4 hK4=>(aC (fun K5 hK5=>(aB (aE aA 5 rfl (aD (hK5 _ (cM rfl rfl (fun hc2=>?_) (fun hc2=>?_)))))))))))))))
 ·
  simp only[bs] at hc2
  omega
 ·
  simp only[bs] at hc2
  refine aL (hK4 _ (aC (fun K6 hK6=>(aB (aE aA 4 rfl (aF rfl (bO rfl gF lJ (l3 rfl) rfl) (cH hf rfl gF rfl mZ rfl rfl rfl rfl (lf rfl) (aD (hK6 _ (aC (fun K7 hK7=>(aB (aE aA 1 rfl (aD ?_))))))))))))))
  refine hK7 _ (aC (fun K8 hK8=>(aC (fun K9 hK9=>(aB (aE aA 2 rfl (aD (hK9 _ (aO (aC (fun K10 hK10=>(aC (fun K11 hK11=>(aB (aF rfl (dB rfl rfl (cT (by omega))) (aE aA 1 rfl ?_))))))))))))))))
  refine aD (hK11 _ (bD rfl (aC (fun K12 hK12=>(aB (aF rfl (dB rfl rfl (cT (by omega))) (aE aA 1 rfl (aD (hK12 _ (bD rfl (aB (aF rfl (dB rfl rfl (hY (by omega))) (aE aA 1 rfl ?_)))))))))))))
  refine aD (hK10 _ (cS rfl (aB (aE aA 2 rfl (aK hf rfl (aR rfl rfl tQ rfl (iM (aAa s e hz hr hr2 ts hu ho hk) (show _=AV.tup [.agg (bU D),.s (.int .i64 N)] from by rw[hd]))) ?_)))))
  refine aE aA 3 rfl (aP hf rfl rfl cI rfl rfl (l1 rfl) (l4 rfl) rfl (aE aA 1 rfl ?_))
  refine bB ?_
  refine hK8 _ (aC (fun K13 hK13=>(aC (fun K14 hK14=>(aB (aE aA 2 rfl (aD (hK14 _ (cM rfl rfl (fun hc6=>?_) (fun hc6=>?_))))))))))
  ·
   simp only[bs] at hc6
   refine aC (fun K15 hK15=>(aB (aF rfl (bO rfl dA jS (l3 rfl) rfl) (aQ (iS fW) (aE aA 1 rfl (aP hf rfl rfl cI rfl rfl (l1 rfl) (l4 rfl) rfl (aE aA 1 rfl (aD (hK15 _ (aJ ?_))))))))))
   refine⟨_,rfl,?_⟩
   rw[bI,if_pos he,if_neg (by omega),hd,if_neg (by first | assumption | omega | (simp_all; done) | (intro hq; simp only at hq; split at hq <;> simp_all))]; rfl
  ·
   simp only[bs] at hc6
   refine aL (hK13 _ (aC (fun K16 hK16=>(aB (aE aA 3 rfl (aP hf rfl rfl cB rfl rfl (l1 rfl) (l4 rfl) rfl (aD (hK16 _ (aC (fun K17 hK17=>(aB (aF rfl (bM (cs':=[.s (.int .i64 e.at'),.s (.int .i64 D.hor),.sl 4 (D.opn.map seC),.sl 2 (D.usr.map usC),.sl 4 (D.sub.map enC),.sl 2 (D.tmb.map tmC)]) rfl iF cI rfl rfl rfl) (aP hf rfl rfl cI rfl rfl (l1 rfl) (l4 rfl) rfl (aE aA 1 rfl ?_))))))))))))))
   refine aD (hK17 _ (aJ ?_))
   refine⟨_,rfl,?_⟩
   rw[bI,if_pos he,if_neg (by omega),hd,if_pos (by first | assumption | omega)]; rfl
theorem aD0 (s:Sta) (e:Ev) (hz:SzS 140737488355100 s) (hr:cQ cR s.usr) (hr2:cQ dZ s.tmb) (ts:TsS s) (hu:TS e.user) (ho:TS e.other) (hk:e.kind=4) (he:bH e=true) (ht:s.now≤e.at') :Den Tryz.prog 54 [.agg (bU s),.agg (evC e)]  (·=.tup [.agg (bU (bI s e).1),.s (.int .i64 (bI s e).2)]):=by
 have z1:=hz.o
 have z2:=hz.u
 have z3:=hz.b
 have z4:=hz.t
 have hd:bG s e=(({ s with sub:=if onB s.sub (e.user,e.other)=true then [] else gN s.sub (e.user,e.other) e.at' }),if onB s.sub (e.user,e.other)=true then 90 else 0):=by
  rw[bG,if_neg (by omega),if_neg (by omega),if_neg (by omega),if_pos hk]
 refine aS Tryz.func54 rfl (Nat.le_of_ble_eq_true rfl) (fun w0 A hf=>(aC (fun K1 hK1=>(aB (jL hf rfl rfl rfl rfl (l1 rfl) ?_)))))
 refine aK hf rfl (cL rfl rfl (lf rfl)) (bQ hf rfl rfl rfl dA (aE aA 1 rfl (aD (hK1 _ (aC (fun K2 hK2=>(aC (fun K3 hK3=>(aB (aE aA 1 rfl (aK hf rfl (aR rfl rfl iH rfl ((show Den Tryz.prog _ _ (·=.s (.bool true)) from iM (fF e hu ho) (by rw[he])))) ?_)))))))))))
 refine aE aA 1 rfl (aD (hK3 _ (bD rfl (aL (hK2 _ (aC (fun K4 hK4=>(aC (fun K5 hK5=>(aB (aE aA 5 rfl (aD (hK5 _ (cM rfl rfl (fun hc2=>?_) (fun hc2=>?_)))))))))))))))
 ·
  simp only[bs] at hc2
  omega
 ·
  simp only[bs] at hc2
  refine aL (hK4 _ (aC (fun K6 hK6=>(aB (aE aA 4 rfl (aF rfl (bO rfl gF lJ (l3 rfl) rfl) (cH hf rfl gF rfl mZ rfl rfl rfl rfl (lf rfl) (aD (hK6 _ (aC (fun K7 hK7=>(aB (aE aA 1 rfl (aD ?_))))))))))))))
  refine hK7 _ (aC (fun K8 hK8=>(aC (fun K9 hK9=>(aB (aE aA 2 rfl (aD (hK9 _ (aO (aC (fun K10 hK10=>(aC (fun K11 hK11=>(aB (aF rfl (dB rfl rfl (cT (by omega))) (aE aA 1 rfl ?_))))))))))))))))
  refine aD (hK11 _ (bD rfl (aC (fun K12 hK12=>(aB (aF rfl (dB rfl rfl (cT (by omega))) (aE aA 1 rfl (aD (hK12 _ (bD rfl (aB (aF rfl (dB rfl rfl (cT (by omega))) (aE aA 1 rfl ?_)))))))))))))
  refine aD (hK10 _ (bD rfl (aC (fun K13 hK13=>(aB (aF rfl (dB rfl rfl (hY (by omega))) (aE aA 1 rfl (aD (hK13 _ (cS rfl (aB (aE aA 5 rfl (aK hf rfl (aR rfl rfl aL0 rfl (aFx s.sub (e.user,e.other) e.at' (by omega) ts.b hu ho)) ?_)))))))))))))
  refine aE aA 4 rfl (aP hf rfl rfl aDj rfl rfl (l1 rfl) (l4 rfl) rfl (aE aA 1 rfl ?_))
  refine bB ?_
  refine hK8 _ (aC (fun K14 hK14=>(aC (fun K15 hK15=>(aB (aE aA 2 rfl (aD (hK15 _ (cM rfl rfl (fun hc7=>?_) (fun hc7=>?_))))))))))
  ·
   simp only[bs] at hc7
   refine aC (fun K16 hK16=>(aB (aF rfl (bO rfl dA jS (l3 rfl) rfl) (aQ (iS fW) (aE aA 1 rfl (aP hf rfl rfl cI rfl rfl (l1 rfl) (l4 rfl) rfl (aE aA 1 rfl (aD (hK16 _ (aJ ?_))))))))))
   refine⟨_,rfl,?_⟩
   rw[bI,if_pos he,if_neg (by omega),hd,if_neg (by first | assumption | omega | (simp_all; done) | (intro hq; simp only at hq; split at hq <;> simp_all))]; rfl
  ·
   simp only[bs] at hc7
   refine aL (hK14 _ (aC (fun K17 hK17=>(aB (aE aA 3 rfl (aP hf rfl rfl cB rfl rfl (l1 rfl) (l4 rfl) rfl (aD (hK17 _ (aC (fun K18 hK18=>(aB (aF rfl (bM (cs':=[.s (.int .i64 e.at'),.s (.int .i64 s.hor),.sl 4 (s.opn.map seC),.sl 2 (s.usr.map usC),.sl 4 ((if onB s.sub (e.user,e.other)=true then [] else gN s.sub (e.user,e.other) e.at').map enC),.sl 2 (s.tmb.map tmC)]) rfl iF cI rfl rfl rfl) (aP hf rfl rfl cI rfl rfl (l1 rfl) (l4 rfl) rfl (aE aA 1 rfl ?_))))))))))))))
   refine aD (hK18 _ (aJ ?_))
   refine⟨_,rfl,?_⟩
   rw[bI,if_pos he,if_neg (by omega),hd,if_pos (by first | assumption | omega)]; rfl
theorem aDz (s:Sta) (e:Ev) (hz:SzS 140737488355100 s) (hr:cQ cR s.usr) (hr2:cQ dZ s.tmb) (ts:TsS s) (hu:TS e.user) (ho:TS e.other) (hk:e.kind=5) (he:bH e=true) (ht:s.now≤e.at') :Den Tryz.prog 54 [.agg (bU s),.agg (evC e)]  (·=.tup [.agg (bU (bI s e).1),.s (.int .i64 (bI s e).2)]):=by
 have z1:=hz.o
 have z2:=hz.u
 have z3:=hz.b
 have z4:=hz.t
 have hd:bG s e=(({ s with sub:=if onB s.sub (e.user,e.other)=true then jH s.sub (e.user,e.other) e.at' else [] }),if onB s.sub (e.user,e.other)=true then 0 else 91):=by
  rw[bG,if_neg (by omega),if_neg (by omega),if_neg (by omega),if_neg (by omega),if_pos hk]
 refine aS Tryz.func54 rfl (Nat.le_of_ble_eq_true rfl) (fun w0 A hf=>(aC (fun K1 hK1=>(aB (jL hf rfl rfl rfl rfl (l1 rfl) ?_)))))
 refine aK hf rfl (cL rfl rfl (lf rfl)) (bQ hf rfl rfl rfl dA (aE aA 1 rfl (aD (hK1 _ (aC (fun K2 hK2=>(aC (fun K3 hK3=>(aB (aE aA 1 rfl (aK hf rfl (aR rfl rfl iH rfl ((show Den Tryz.prog _ _ (·=.s (.bool true)) from iM (fF e hu ho) (by rw[he])))) ?_)))))))))))
 refine aE aA 1 rfl (aD (hK3 _ (bD rfl (aL (hK2 _ (aC (fun K4 hK4=>(aC (fun K5 hK5=>(aB (aE aA 5 rfl (aD (hK5 _ (cM rfl rfl (fun hc2=>?_) (fun hc2=>?_)))))))))))))))
 ·
  simp only[bs] at hc2
  omega
 ·
  simp only[bs] at hc2
  refine aL (hK4 _ (aC (fun K6 hK6=>(aB (aE aA 4 rfl (aF rfl (bO rfl gF lJ (l3 rfl) rfl) (cH hf rfl gF rfl mZ rfl rfl rfl rfl (lf rfl) (aD (hK6 _ (aC (fun K7 hK7=>(aB (aE aA 1 rfl (aD ?_))))))))))))))
  refine hK7 _ (aC (fun K8 hK8=>(aC (fun K9 hK9=>(aB (aE aA 2 rfl (aD (hK9 _ (aO (aC (fun K10 hK10=>(aC (fun K11 hK11=>(aB (aF rfl (dB rfl rfl (cT (by omega))) (aE aA 1 rfl ?_))))))))))))))))
  refine aD (hK11 _ (bD rfl (aC (fun K12 hK12=>(aB (aF rfl (dB rfl rfl (cT (by omega))) (aE aA 1 rfl (aD (hK12 _ (bD rfl (aB (aF rfl (dB rfl rfl (cT (by omega))) (aE aA 1 rfl ?_)))))))))))))
  refine aD (hK10 _ (bD rfl (aC (fun K13 hK13=>(aB (aF rfl (dB rfl rfl (cT (by omega))) (aE aA 1 rfl (aD (hK13 _ (bD rfl (aC (fun K14 hK14=>(aB (aF rfl (dB rfl rfl (hY (by omega))) ?_))))))))))))))
  refine aE aA 1 rfl (aD (hK14 _ (cS rfl (aB (aE aA 5 rfl (aK hf rfl (aR rfl rfl aLz rfl (aDt s.sub (e.user,e.other) e.at' (by omega))) (aE aA 4 rfl (aP hf rfl rfl aDj rfl rfl (l1 rfl) (l4 rfl) rfl (aE aA 1 rfl ?_)))))))))
  refine bB ?_
  refine hK8 _ (aC (fun K15 hK15=>(aC (fun K16 hK16=>(aB (aE aA 2 rfl (aD (hK16 _ (cM rfl rfl (fun hc8=>?_) (fun hc8=>?_))))))))))
  ·
   simp only[bs] at hc8
   refine aC (fun K17 hK17=>(aB (aF rfl (bO rfl dA jS (l3 rfl) rfl) (aQ (iS fW) (aE aA 1 rfl (aP hf rfl rfl cI rfl rfl (l1 rfl) (l4 rfl) rfl (aE aA 1 rfl (aD (hK17 _ (aJ ?_))))))))))
   refine⟨_,rfl,?_⟩
   rw[bI,if_pos he,if_neg (by omega),hd,if_neg (by first | assumption | omega | (simp_all; done) | (intro hq; simp only at hq; split at hq <;> simp_all))]; rfl
  ·
   simp only[bs] at hc8
   refine aL (hK15 _ (aC (fun K18 hK18=>(aB (aE aA 3 rfl (aP hf rfl rfl cB rfl rfl (l1 rfl) (l4 rfl) rfl (aD (hK18 _ (aC (fun K19 hK19=>(aB (aF rfl (bM (cs':=[.s (.int .i64 e.at'),.s (.int .i64 s.hor),.sl 4 (s.opn.map seC),.sl 2 (s.usr.map usC),.sl 4 ((if onB s.sub (e.user,e.other)=true then jH s.sub (e.user,e.other) e.at' else []).map enC),.sl 2 (s.tmb.map tmC)]) rfl iF cI rfl rfl rfl) (aP hf rfl rfl cI rfl rfl (l1 rfl) (l4 rfl) rfl (aE aA 1 rfl ?_))))))))))))))
   refine aD (hK19 _ (aJ ?_))
   refine⟨_,rfl,?_⟩
   rw[bI,if_pos he,if_neg (by omega),hd,if_pos (by first | assumption | omega)]; rfl
theorem aDy (s:Sta) (e:Ev) (hz:SzS 140737488355100 s) (hr:cQ cR s.usr) (hr2:cQ dZ s.tmb) (ts:TsS s) (hu:TS e.user) (ho:TS e.other) (hk:e.kind=6) (he:bH e=true) (ht:s.now≤e.at') :Den Tryz.prog 54 [.agg (bU s),.agg (evC e)]  (·=.tup [.agg (bU (bI s e).1),.s (.int .i64 (bI s e).2)]):=by
 have z1:=hz.o
 have z2:=hz.u
 have z3:=hz.b
 have z4:=hz.t
 have hd:bG s e=(({ s with hor:=max s.hor e.n }),0):=by
  rw[bG,if_neg (by omega),if_neg (by omega),if_neg (by omega),if_neg (by omega),if_neg (by omega),if_pos hk]
 refine aS Tryz.func54 rfl (Nat.le_of_ble_eq_true rfl) (fun w0 A hf=>(aC (fun K1 hK1=>(aB (jL hf rfl rfl rfl rfl (l1 rfl) ?_)))))
 refine aK hf rfl (cL rfl rfl (lf rfl)) (bQ hf rfl rfl rfl dA (aE aA 1 rfl (aD (hK1 _ (aC (fun K2 hK2=>(aC (fun K3 hK3=>(aB (aE aA 1 rfl (aK hf rfl (aR rfl rfl iH rfl ((show Den Tryz.prog _ _ (·=.s (.bool true)) from iM (fF e hu ho) (by rw[he])))) ?_)))))))))))
 refine aE aA 1 rfl (aD (hK3 _ (bD rfl (aL (hK2 _ (aC (fun K4 hK4=>(aC (fun K5 hK5=>(aB (aE aA 5 rfl (aD (hK5 _ (cM rfl rfl (fun hc2=>?_) (fun hc2=>?_)))))))))))))))
 ·
  simp only[bs] at hc2
  omega
 ·
  simp only[bs] at hc2
  refine aL (hK4 _ (aC (fun K6 hK6=>(aB (aE aA 4 rfl (aF rfl (bO rfl gF lJ (l3 rfl) rfl) (cH hf rfl gF rfl mZ rfl rfl rfl rfl (lf rfl) (aD (hK6 _ (aC (fun K7 hK7=>(aB (aE aA 1 rfl (aD ?_))))))))))))))
  refine hK7 _ (aC (fun K8 hK8=>(aC (fun K9 hK9=>(aB (aE aA 2 rfl (aD (hK9 _ (aO (aC (fun K10 hK10=>(aC (fun K11 hK11=>(aB (aF rfl (dB rfl rfl (cT (by omega))) (aE aA 1 rfl ?_))))))))))))))))
  refine aD (hK11 _ (bD rfl (aC (fun K12 hK12=>(aB (aF rfl (dB rfl rfl (cT (by omega))) (aE aA 1 rfl (aD (hK12 _ (bD rfl (aB (aF rfl (dB rfl rfl (cT (by omega))) (aE aA 1 rfl ?_)))))))))))))
  refine aD (hK10 _ (bD rfl (aC (fun K13 hK13=>(aB (aF rfl (dB rfl rfl (cT (by omega))) (aE aA 1 rfl (aD (hK13 _ (bD rfl (aC (fun K14 hK14=>(aB (aF rfl (dB rfl rfl (cT (by omega))) ?_))))))))))))))
  refine aE aA 1 rfl (aD (hK14 _ (bD rfl (aC (fun K15 hK15=>(aB (aF rfl (dB rfl rfl (hY (by omega))) (aE aA 1 rfl (aD (hK15 _ (cS rfl (aB (aE aA 4 rfl ?_)))))))))))))
  refine aF rfl (aH7 rfl rfl) (aE aA 1 rfl (aP hf rfl rfl cB rfl rfl (l1 rfl) (l4 rfl) rfl ?_))
  refine bB ?_
  refine hK8 _ (aC (fun K16 hK16=>(aC (fun K17 hK17=>(aB (aE aA 2 rfl (aD (hK17 _ (cM rfl rfl (fun hc9=>?_) (fun hc9=>?_))))))))))
  ·
   simp only[bs] at hc9
   refine aC (fun K18 hK18=>(aB (aF rfl (bO rfl dA jS (l3 rfl) rfl) (aQ (iS fW) (aE aA 1 rfl (aP hf rfl rfl cI rfl rfl (l1 rfl) (l4 rfl) rfl (aE aA 1 rfl (aD (hK18 _ (aJ ?_))))))))))
   refine⟨_,rfl,?_⟩
   rw[bI,if_pos he,if_neg (by omega),hd,if_neg (by first | assumption | omega | (simp_all; done) | (intro hq; simp only at hq; split at hq <;> simp_all))]; rfl
  ·
   simp only[bs] at hc9
   refine aL (hK16 _ (aC (fun K19 hK19=>(aB (aE aA 3 rfl (aP hf rfl rfl cB rfl rfl (l1 rfl) (l4 rfl) rfl (aD (hK19 _ (aC (fun K20 hK20=>(aB (aF rfl (bM (cs':=[.s (.int .i64 e.at'),.s (.int .i64 (max s.hor e.n)),.sl 4 (s.opn.map seC),.sl 2 (s.usr.map usC),.sl 4 (s.sub.map enC),.sl 2 (s.tmb.map tmC)]) rfl iF cI rfl rfl rfl) (aP hf rfl rfl cI rfl rfl (l1 rfl) (l4 rfl) rfl (aE aA 1 rfl ?_))))))))))))))
   refine aD (hK20 _ (aJ ?_))
   refine⟨_,rfl,?_⟩
   rw[bI,if_pos he,if_neg (by omega),hd,if_pos (by first | assumption | omega)]; rfl
theorem aDx (s:Sta) (e:Ev) (hz:SzS 140737488355100 s) (hr:cQ cR s.usr) (hr2:cQ dZ s.tmb) (ts:TsS s) (hu:TS e.user) (ho:TS e.other) (hk:e.kind=7) (he:bH e=true) (ht:s.now≤e.at') :Den Tryz.prog 54 [.agg (bU s),.agg (evC e)]  (·=.tup [.agg (bU (bI s e).1),.s (.int .i64 (bI s e).2)]):=by
 have z1:=hz.o
 have z2:=hz.u
 have z3:=hz.b
 have z4:=hz.t
 have hd:bG s e=((gH s e.user e.at'),0):=by
  rw[bG,if_neg (by omega),if_neg (by omega),if_neg (by omega),if_neg (by omega),if_neg (by omega),if_neg (by omega)]
 refine aS Tryz.func54 rfl (Nat.le_of_ble_eq_true rfl) (fun w0 A hf=>(aC (fun K1 hK1=>(aB (jL hf rfl rfl rfl rfl (l1 rfl) ?_)))))
 refine aK hf rfl (cL rfl rfl (lf rfl)) (bQ hf rfl rfl rfl dA (aE aA 1 rfl (aD (hK1 _ (aC (fun K2 hK2=>(aC (fun K3 hK3=>(aB (aE aA 1 rfl (aK hf rfl (aR rfl rfl iH rfl ((show Den Tryz.prog _ _ (·=.s (.bool true)) from iM (fF e hu ho) (by rw[he])))) ?_)))))))))))
 refine aE aA 1 rfl (aD (hK3 _ (bD rfl (aL (hK2 _ (aC (fun K4 hK4=>(aC (fun K5 hK5=>(aB (aE aA 5 rfl (aD (hK5 _ (cM rfl rfl (fun hc2=>?_) (fun hc2=>?_)))))))))))))))
 ·
  simp only[bs] at hc2
  omega
 ·
  simp only[bs] at hc2
  refine aL (hK4 _ (aC (fun K6 hK6=>(aB (aE aA 4 rfl (aF rfl (bO rfl gF lJ (l3 rfl) rfl) (cH hf rfl gF rfl mZ rfl rfl rfl rfl (lf rfl) (aD (hK6 _ (aC (fun K7 hK7=>(aB (aE aA 1 rfl (aD ?_))))))))))))))
  refine hK7 _ (aC (fun K8 hK8=>(aC (fun K9 hK9=>(aB (aE aA 2 rfl (aD (hK9 _ (aO (aC (fun K10 hK10=>(aC (fun K11 hK11=>(aB (aF rfl (dB rfl rfl (cT (by omega))) (aE aA 1 rfl ?_))))))))))))))))
  refine aD (hK11 _ (bD rfl (aC (fun K12 hK12=>(aB (aF rfl (dB rfl rfl (cT (by omega))) (aE aA 1 rfl (aD (hK12 _ (bD rfl (aB (aF rfl (dB rfl rfl (cT (by omega))) (aE aA 1 rfl ?_)))))))))))))
  refine aD (hK10 _ (bD rfl (aC (fun K13 hK13=>(aB (aF rfl (dB rfl rfl (cT (by omega))) (aE aA 1 rfl (aD (hK13 _ (bD rfl (aC (fun K14 hK14=>(aB (aF rfl (dB rfl rfl (cT (by omega))) ?_))))))))))))))
  refine aE aA 1 rfl (aD (hK14 _ (bD rfl (aC (fun K15 hK15=>(aB (aF rfl (dB rfl rfl (cT (by omega))) (aE aA 1 rfl (aD (hK15 _ (bD rfl (aC (fun K16 hK16=>(aB ?_))))))))))))))
  refine aF rfl (dB rfl rfl (hY (by omega))) (aE aA 1 rfl (aD (hK16 _ (cS rfl (aC (fun K17 hK17=>(aB (aE aA 4 rfl (aK hf rfl (aR rfl rfl aLy rfl (xO s.opn e.user (by omega))) (aE aA 1 rfl (aP hf rfl rfl xG rfl rfl (l1 rfl) (l4 rfl) rfl (aD (hK17 _ ?_)))))))))))))
  refine aC (fun K18 hK18=>(aB (aE aA 4 rfl (aK hf rfl (aR rfl rfl aLx rfl (aBu s.sub e.user (by omega))) (aE aA 1 rfl (aP hf rfl rfl aDj rfl rfl (l1 rfl) (l4 rfl) rfl (aD (hK18 _ (aC (fun K19 hK19=>(aB (aE aA 4 rfl (aK hf rfl (aR rfl rfl zS rfl (aM4 (a:=[_,_]) (k:=4) (yO s.usr e.user [] (by omega) hu ts.u hr))) (aE aA 1 rfl ?_))))))))))))))
  refine aP hf rfl rfl aL1 rfl rfl (l1 rfl) (l4 rfl) rfl (aD (hK19 _ (aB (aE aA 6 rfl (aK hf rfl (aR rfl rfl aLw rfl (aDs s.tmb e.user e.at' (by omega) hu ts.t hr2)) (aE aA 1 rfl (aP hf rfl rfl aSx rfl rfl (l1 rfl) (l4 rfl) rfl ?_)))))))
  refine bB ?_
  refine hK8 _ (aC (fun K20 hK20=>(aC (fun K21 hK21=>(aB (aE aA 2 rfl (aD (hK21 _ (cM rfl rfl (fun hc10=>?_) (fun hc10=>?_))))))))))
  ·
   simp only[bs] at hc10
   refine aC (fun K22 hK22=>(aB (aF rfl (bO rfl dA jS (l3 rfl) rfl) (aQ (iS fW) (aE aA 1 rfl (aP hf rfl rfl cI rfl rfl (l1 rfl) (l4 rfl) rfl (aE aA 1 rfl (aD (hK22 _ (aJ ?_))))))))))
   refine⟨_,rfl,?_⟩
   rw[bI,if_pos he,if_neg (by omega),hd,if_neg (by first | assumption | omega | (simp_all; done) | (intro hq; simp only at hq; split at hq <;> simp_all))]; rfl
  ·
   simp only[bs] at hc10
   refine aL (hK20 _ (aC (fun K23 hK23=>(aB (aE aA 3 rfl (aP hf rfl rfl cB rfl rfl (l1 rfl) (l4 rfl) rfl (aD (hK23 _ (aC (fun K24 hK24=>(aB (aF rfl (bM (cs':=[.s (.int .i64 e.at'),.s (.int .i64 s.hor),.sl 4 ((s.opn.filter fun e_1=>!qM e.user e_1).map seC),.sl 2 ((nW s.usr e.user []).map usC),.sl 4 ((s.sub.filter fun e_1=>!mQ e.user e_1).map enC),.sl 2 ((pT s.tmb e.user e.at').map tmC)]) rfl iF cI rfl rfl rfl) (aP hf rfl rfl cI rfl rfl (l1 rfl) (l4 rfl) rfl (aE aA 1 rfl ?_))))))))))))))
   refine aD (hK24 _ (aJ ?_))
   refine⟨_,rfl,?_⟩
   rw[bI,if_pos he,if_neg (by omega),hd,if_pos (by first | assumption | omega)]; rfl
end Go.Proofs.YtijnkglkchhomaaGreat
set_option linter.unusedVariables false
set_option linter.unusedSimpArgs false
namespace Go.Proofs.YtijnkglkchhomaaGreat
open Go Go.Abs
theorem aDw (s:Sta) (e:Ev) (hu:TS e.user) (ho:TS e.other) (he:bH e=false) :Den Tryz.prog 54 [.agg (bU s),.agg (evC e)]  (·=.tup [.agg (bU cU),.s (.int .i64 110)]):=by
 refine aS Tryz.func54 rfl (Nat.le_of_ble_eq_true rfl) (fun w0 A hf=>(aC (fun K1 hK1=>(aB (jL hf rfl rfl rfl rfl (l1 rfl) ?_)))))
 refine aK hf rfl (cL rfl rfl (lf rfl)) (bQ hf rfl rfl rfl dA (aE aA 1 rfl (aD (hK1 _ (aC (fun K2 hK2=>(aC (fun K3 hK3=>(aB (aE aA 1 rfl (aK hf rfl (aR rfl rfl iH rfl ((show Den Tryz.prog _ _ (·=.s (.bool false)) from iM (fF e hu ho) (by rw[he])))) ?_)))))))))))
 refine aE aA 1 rfl (aD (hK3 _ (cS rfl (aC (fun K4 hK4=>(aB (aF rfl (bO rfl dA jS (l3 rfl) rfl) (aQ (iS fW) (aP hf rfl rfl cI rfl rfl (l1 rfl) (l4 rfl) rfl (aE aA 1 rfl (aD (hK4 _ (aJ ?_)))))))))))))
 refine⟨_,rfl,?_⟩
 rfl
theorem aDv (s:Sta) (e:Ev) (hu:TS e.user) (ho:TS e.other) (he:bH e=true) (ht:e.at'<s.now) :Den Tryz.prog 54 [.agg (bU s),.agg (evC e)]  (·=.tup [.agg (bU cU),.s (.int .i64 111)]):=by
 refine aS Tryz.func54 rfl (Nat.le_of_ble_eq_true rfl) (fun w0 A hf=>(aC (fun K1 hK1=>(aB (jL hf rfl rfl rfl rfl (l1 rfl) ?_)))))
 refine aK hf rfl (cL rfl rfl (lf rfl)) (bQ hf rfl rfl rfl dA (aE aA 1 rfl (aD (hK1 _ (aC (fun K2 hK2=>(aC (fun K3 hK3=>(aB (aE aA 1 rfl (aK hf rfl (aR rfl rfl iH rfl ((show Den Tryz.prog _ _ (·=.s (.bool true)) from iM (fF e hu ho) (by rw[he])))) ?_)))))))))))
 refine aE aA 1 rfl (aD (hK3 _ (bD rfl (aL (hK2 _ (aC (fun K4 hK4=>(aC (fun K5 hK5=>(aB (aE aA 5 rfl (aD (hK5 _ (cM rfl rfl (fun hc2=>?_) (fun hc2=>?_)))))))))))))))
 ·
  simp only[bs] at hc2
  refine aC (fun K6 hK6=>(aB (aF rfl (bO rfl dA jS (l3 rfl) rfl) (aQ (iS fW) (aP hf rfl rfl cI rfl rfl (l1 rfl) (l4 rfl) rfl (aE aA 1 rfl (aD (hK6 _ (aJ ?_)))))))))
  refine⟨_,rfl,?_⟩
  rfl
 ·
  simp only[bs] at hc2
  omega
theorem wF (s:Sta) (e:Ev) (hz:SzS 140737488355100 s) (hr:cQ cR s.usr) (hr2:cQ dZ s.tmb) (ts:TsS s) (hu:TS e.user) (ho:TS e.other):Den Tryz.prog 54 [.agg (bU s),.agg (evC e)] (·=.tup [.agg (bU (bI s e).1),.s (.int .i64 (bI s e).2)]):=by
  cases he:bH e with
  | false=>exact iM (aDw s e hu ho he) (by rw[show bI s e=(cU,110) from by rw[bI,if_neg (by rw[he]; decide)]])
  | true =>
    by_cases ht:e.at'<s.now
    · exact iM (aDv s e hu ho he ht) (by rw[show bI s e=(cU,111) from by rw[bI,if_pos he,if_pos ht]])
    · have ht:=Int.not_lt.1 ht
      rcases rG he with ⟨hk,_⟩ | ⟨hk,_⟩ | ⟨hk,_⟩ | ⟨hk,_⟩ | ⟨hk,_⟩ | ⟨hk,_⟩ | ⟨hk,_⟩
      · exact aD3 s e hz hr hr2 ts hu ho hk he ht
      · exact aD2 s e hz hr hr2 ts hu ho hk he ht
      · exact aD1 s e hz hr hr2 ts hu ho hk he ht
      · exact aD0 s e hz hr hr2 ts hu ho hk he ht
      · exact aDz s e hz hr hr2 ts hu ho hk he ht
      · exact aDy s e hz hr hr2 ts hu ho hk he ht
      · exact aDx s e hz hr hr2 ts hu ho hk he ht
end Go.Proofs.YtijnkglkchhomaaGreat
set_option linter.unusedVariables false
set_option linter.unusedSimpArgs false
namespace Go.Abs
open Go
def NeU (l:List Us):Prop:=∀ x∈l,x.2≠[]
theorem set_ne {l:List Us} {u:ByteArray} {ys:List bP} (h:NeU l):NeU (nW l u ys):=fun x hx=>by
  rcases lB.1 hx with hx | hx
  · exact h x hx.1
  · unfold sH at hx
    split at hx
    · cases hx
    · rename_i hne; rw[List.mem_singleton.1 hx]; exact hne
theorem add_ne {l:List Us} {u:ByteArray} {x:bP} (h:NeU l):NeU (mO l u x):=by
  unfold mO; split
  · exact h
  · exact set_ne h
theorem addU_of {l:List Us} (h:cQ cR l) {u v:ByteArray} {x:bP}:ofU (mO l u x) v=if v=u then iC (ofU l u) x else ofU l v:=by
  unfold mO iC
  split
  · split
    · rename_i hv; rw[hv]
    · rfl
  · rw[setU_of h]
theorem aSs {l:List bP} {x:bP} (h:Srt iP l):Srt iP (iC l x):=by
  unfold iC; split
  · exact h
  · exact pE h
structure GoU (l:List Us):Prop where
  r:cQ cR l
  s:∀ u,Srt iP (ofU l u)
  n:NeU l
theorem GoU.add {l:List Us} {u:ByteArray} {x:bP} (h:GoU l):GoU (mO l u x):=⟨aSp h.r,fun v=>by
  rw[addU_of h.r]; split
  · exact aSs (h.s u)
  · exact h.s v,add_ne h.n⟩
theorem aJv {s:Sta} {e:Ev} (h0:(bI s e).2=0):bH e=true∧s.now≤e.at'∧(bG s e).2=0∧(bI s e).1={ (bG s e).1 with now:=e.at' }:=by
  unfold bI at h0 ⊢
  split at h0
  · rename_i he
    split at h0
    · simp at h0
    · rename_i ht
      split at h0
      · rename_i h2
        rw[if_pos he,if_neg ht,if_pos h2]
        exact⟨he,Int.not_lt.1 ht,h2,rfl⟩
      · rename_i h2; exact absurd h0 h2
  · simp at h0
end Go.Abs
set_option linter.unusedVariables false
set_option linter.unusedSimpArgs false
namespace Go.Abs
open Go
def RisUp {α:Type} (key:α→ByteArray) (q:α→Prop) (l:List α) (k:Nat):Prop:=∀ (j:Nat) (hj:j<l.length),j<k→(dD (key l[j])=true∧q l[j]∧∀ h0:0<j,eA (key (l[j - 1]'(by omega))) (key l[j])<0)
theorem RisUp.zero {α:Type} {key:α→ByteArray} {q:α→Prop} {l:List α}:RisUp key q l 0:=fun j hj h=>absurd h (Nat.not_lt_zero _)
theorem RisUp.next {α:Type} {key:α→ByteArray} {q:α→Prop} {l:List α} {k:Nat} (h:RisUp key q l k) (hk:k<l.length) (h1:dD (key l[k])=true) (h2:q l[k]) (h3:∀ h0:0<k,eA (key (l[k - 1]'(by omega))) (key l[k])<0):RisUp key q l (k+1):=aEh h hk ⟨h1,h2,h3⟩
theorem RisUp.r {α:Type} {key:α→ByteArray} {q:α→Prop} {l:List α} {k:Nat} (h:RisUp key q l k) (hk:l.length≤k):cQ key l:=aOg fun j h0 hj=>(h j hj (by omega)).2.2 h0
theorem RisUp.n {α:Type} {key:α→ByteArray} {q:α→Prop} {l:List α} {k:Nat} (h:RisUp key q l k) (hk:l.length≤k):∀ x∈l,dD (key x)=true:=fun x hx=>by
  obtain ⟨j,hj,rfl⟩:=List.getElem_of_mem hx
  exact(h j hj (by omega)).1
theorem RisUp.q {α:Type} {key:α→ByteArray} {q:α→Prop} {l:List α} {k:Nat} (h:RisUp key q l k) (hk:l.length≤k):∀ x∈l,q x:=fun x hx=>by
  obtain ⟨j,hj,rfl⟩:=List.getElem_of_mem hx
  exact(h j hj (by omega)).2.1
end Go.Abs
set_option linter.unusedVariables false
namespace Go.Abs
open Go
end Go.Abs
set_option linter.unusedVariables false
set_option linter.unusedSimpArgs false
namespace Go.Abs
open Go
theorem xL (n:Nat):SzS n cU:=⟨by simp [cU],by simp [cU],by simp [cU],by simp [cU],by simp [cU]⟩
theorem nowSz {n:Nat} {s:Sta} {t:Int} (h:SzS n s):SzS n { s with now:=t }:=⟨h.o,h.u,h.b,h.t,h.y⟩
theorem doesSz {n m:Nat} {s:Sta} {e:Ev} (hz:SzS n s) (hr:cQ cR s.usr) (he:bH e=true) (hm:n+48≤m):SzS m (bG s e).1:=by
  have z1:=hz.o
  have z2:=hz.u
  have z3:=hz.b
  have z4:=hz.t
  rcases rG he with ⟨hk,_⟩ | ⟨hk,_⟩ | ⟨hk,_⟩ | ⟨hk,_⟩ | ⟨hk,_⟩ | ⟨hk,_⟩ | ⟨hk,_⟩
  · rw[bG,if_pos hk]
    have:=aB5 s.opn ((e.n,e.user),(e.st,e.at'))
    exact⟨by show (lG s.opn ((e.n,e.user),(e.st,e.at'))).length*40≤m; omega,Nat.le_trans z2 (by omega),Nat.le_trans z3 (by omega),Nat.le_trans z4 (by omega),fun x hx=>Nat.le_trans (hz.y x hx) (by omega)⟩
  · rw[bG,if_neg (by omega),if_pos hk]
    have:=aCy s.opn e.n e.user e.st e.at'
    exact addSz (n:=n) (s:={ s with opn:=mD s.opn e.n e.user e.st e.at' }) (u:=e.user) (x:=stR s.opn e.n e.user e.at') ⟨by show (mD s.opn e.n e.user e.st e.at').length*40≤n; omega,z2,z3,z4,hz.y⟩ hr (by omega)
  · rw[bG,if_neg (by omega),if_neg (by omega),if_pos hk]
    have:=aCx s.opn e.n e.user
    exact addSz (n:=n) (s:={ s with opn:=mC s.opn e.n e.user }) (u:=e.user) (x:=stR s.opn e.n e.user e.at') ⟨by show (mC s.opn e.n e.user).length*40≤n; omega,z2,z3,z4,hz.y⟩ hr (by omega)
  · rw[bG,if_neg (by omega),if_neg (by omega),if_neg (by omega),if_pos hk]
    have:=aIm s.sub (e.user,e.other) e.at'
    exact⟨Nat.le_trans z1 (by omega),Nat.le_trans z2 (by omega),by show (if onB s.sub (e.user,e.other)=true then [] else gN s.sub (e.user,e.other) e.at').length*48≤m; omega,Nat.le_trans z4 (by omega),fun x hx=>Nat.le_trans (hz.y x hx) (by omega)⟩
  · rw[bG,if_neg (by omega),if_neg (by omega),if_neg (by omega),if_neg (by omega),if_pos hk]
    have:=aIl s.sub (e.user,e.other) e.at'
    exact⟨Nat.le_trans z1 (by omega),Nat.le_trans z2 (by omega),by show (if onB s.sub (e.user,e.other)=true then jH s.sub (e.user,e.other) e.at' else []).length*48≤m; omega,Nat.le_trans z4 (by omega),fun x hx=>Nat.le_trans (hz.y x hx) (by omega)⟩
  · rw[bG,if_neg (by omega),if_neg (by omega),if_neg (by omega),if_neg (by omega),if_neg (by omega),if_pos hk]
    exact⟨Nat.le_trans z1 (by omega),Nat.le_trans z2 (by omega),Nat.le_trans z3 (by omega),Nat.le_trans z4 (by omega),fun x hx=>Nat.le_trans (hz.y x hx) (by omega)⟩
  · rw[bG,if_neg (by omega),if_neg (by omega),if_neg (by omega),if_neg (by omega),if_neg (by omega),if_neg (by omega)]
    exact erSz hz hr (by omega)
theorem aGo {n m:Nat} {s:Sta} {e:Ev} (hz:SzS n s) (hr:cQ cR s.usr) (hm:n+48≤m):SzS m (bI s e).1:=by
  unfold bI
  split
  · rename_i he
    split
    · exact xL m
    · split
      · exact nowSz (doesSz hz hr he hm)
      · exact xL m
  · exact xL m
theorem sB {s:Sta} (h:RightP s) (e:Ev):RightP (bI s e).1:=by
  by_cases h0:(bI s e).2=0
  · exact zA h h0
  · have:(bI s e).1=cU:=by
      unfold bI at h0 ⊢
      split
      · rename_i he
        rw[if_pos he] at h0
        split
        · rfl
        · rename_i ht
          rw[if_neg ht] at h0
          split
          · rename_i h2; rw[if_pos h2] at h0; exact absurd rfl h0
          · rfl
      · rfl
    rw[this]; exact jG
theorem ty_ev {cs:List AV} (h:Ty (.agg [.int .i64,.int .i64,.str,.str,.int .i64,.int .i64]) cs):∃ e:Ev,cs=evC e∧TS e.user∧TS e.other:=by
  simp only[Ty,TyL] at h
  obtain ⟨_,_,rfl,⟨k,rfl,_⟩,_,_,rfl,⟨t,rfl,_⟩,_,_,rfl,⟨u,rfl,hu⟩,_,_,rfl,⟨o,rfl,ho⟩,_,_,rfl,⟨n,rfl,_⟩,_,_,rfl,⟨x,rfl,_⟩,rfl⟩:=h
  exact⟨⟨k,t,u,o,n,x⟩,rfl,Nat.le_trans hu (by omega),Nat.le_trans ho (by omega)⟩
theorem ty_evs {c:AV} (h:Ty (.sl 64 (.agg [.int .i64,.int .i64,.str,.str,.int .i64,.int .i64])) [c]):∃ l:List Ev,c=.sl 6 (l.map evC)∧l.length*64≤140737488351232∧∀ e∈l,TS e.user∧TS e.other:=by
  rw[Ty] at h
  obtain ⟨xs,hx,_,hl,hxs⟩:=h
  obtain ⟨l,rfl,hr⟩:=aN9 evC (fun e=>TS e.user∧TS e.other) (d:=.agg [.int .i64,.int .i64,.str,.str,.int .i64,.int .i64]) (fun cs h=>ty_ev h) (xs:=xs) (fun x hx=>hxs x hx)
  simp only[List.cons.injEq,and_true] at hx
  exact⟨l,hx,by simpa using hl,hr⟩
end Go.Abs
set_option linter.unusedVariables false
namespace Go.Abs
open Go
abbrev aM7:ByteArray:=⟨#[97,110,110]⟩
end Go.Abs
set_option linter.unusedVariables false
set_option linter.unusedSimpArgs false
namespace Go.Abs
open Go
def iV (s:Sta) (e:Ev):Sta:=if (bI s e).2=0 then (bI s e).1 else s
def dF (s:Sta) (l:List Ev):Sta:=l.foldl iV s
def cC:Sta→List Ev→List Int
  | _,[]=>[]
  | s,e::l=>(bI s e).2::cC (iV s e) l
def eH:Sta→List Ev→List Ev
  | _,[]=>[]
  | s,e::l=>if (bI s e).2=0 then e::eH (iV s e) l else eH (iV s e) l
def aFa (u:ByteArray) (e:Ev):Bool:=decide (e.user=u)||decide (e.other=u)
def aGz (u:ByteArray) (l:List Ev):List Ev:=l.filter fun e=>!aFa u e
theorem tY {s:Sta} {e:Ev} (h:(bI s e).2=0):iV s e=(bI s e).1:=if_pos h
theorem aFp {s:Sta} {e:Ev} (h:(bI s e).2≠0):iV s e=s:=if_neg h
theorem yK {s:Sta} (h:RightP s) (e:Ev):RightP (iV s e):=by
  unfold iV; split
  · exact sB h e
  · exact h
theorem stepSz {n m:Nat} {s:Sta} {e:Ev} (hz:SzS n s) (h:RightP s) (hm:n+48≤m):SzS m (iV s e):=by
  unfold iV; split
  · exact aGo hz h.usr hm
  · exact hz.mono (by omega)
theorem aP4 (s:Sta) (a b:List Ev):dF s (a++b)=dF (dF s a) b:=List.foldl_append
theorem aCn:∀ (l:List Ev) {s:Sta},RightP s→RightP (dF s l)
  | [],_,h=>h
  | e::l,_,h=>aCn l (yK h e)
theorem aR4:∀ (l:List Ev) {n:Nat} {s:Sta},SzS n s→RightP s→SzS (n+48*l.length) (dF s l)
  | [],n,s,hz,_=>hz.mono (by simp)
  | e::l,n,s,hz,h=>(aR4 l (stepSz (m:=n+48) hz h (Nat.le_refl _)) (yK h e)).mono (by simp only[List.length_cons]; omega)
theorem aA8:∀ (a:List Ev) (s:Sta) (b:List Ev),cC s (a++b)=cC s a++cC (dF s a) b
  | [],_,_=>rfl
  | e::a,s,b=>by
    show _::cC (iV s e) (a++b)=_::(cC (iV s e) a++_)
    rw[aA8 a (iV s e) b]; rfl
theorem aEi:∀ (a:List Ev) (s:Sta) (b:List Ev),eH s (a++b)=eH s a++eH (dF s a) b
  | [],_,_=>rfl
  | e::a,s,b=>by
    show (if (bI s e).2=0 then e::eH (iV s e) (a++b) else eH (iV s e) (a++b))=(if (bI s e).2=0 then e::eH (iV s e) a else eH (iV s e) a)++_
    rw[aEi a (iV s e) b]
    split <;> rfl
theorem gJ:∀ (l:List Ev) (s:Sta),(cC s l).length=l.length
  | [],_=>rfl
  | e::l,s=>by simp only[cC,List.length_cons,gJ l]
theorem tW:∀ (l:List Ev) (s:Sta),(eH s l).length≤l.length
  | [],_=>Nat.le_refl _
  | e::l,s=>by
    have:=tW l (iV s e)
    unfold eH; split <;> simp only[List.length_cons] <;> omega
theorem lM {s:Sta} {l:List Ev} {k:Nat} (hk:k<l.length):cC s (l.take (k+1))=cC s (l.take k)++[(bI (dF s (l.take k)) l[k]).2]:=by
  rw[List.take_succ_eq_append_getElem hk,aA8]; rfl
theorem uH {s:Sta} {l:List Ev} {k:Nat} (hk:k<l.length):dF s (l.take (k+1))=iV (dF s (l.take k)) l[k]:=by
  rw[List.take_succ_eq_append_getElem hk,aP4]; rfl
theorem aAm {s:Sta} {l:List Ev} {k:Nat} (hk:k<l.length) (hk2:k<(cC s l).length):(cC s l)[k]=(bI (dF s (l.take k)) l[k]).2:=by
  have e:cC s l=cC s (l.take k)++cC (dF s (l.take k)) (l.drop k):=by rw[← aA8,List.take_append_drop]
  have h1:(cC s (l.take k)).length=k:=by rw[gJ,List.length_take]; omega
  have h2:cC (dF s (l.take k)) (l.drop k)=(bI (dF s (l.take k)) l[k]).2::cC (iV (dF s (l.take k)) l[k]) (l.drop (k+1)):=by rw[List.drop_eq_getElem_cons hk]; rfl
  have h3:(cC s l)[k]?=some (bI (dF s (l.take k)) l[k]).2:=by
    rw[e,List.getElem?_append_right (by omega),h1,Nat.sub_self,h2]; rfl
  rw[List.getElem?_eq_getElem hk2] at h3
  exact Option.some.inj h3
theorem kB {s:Sta} {l:List Ev} {k:Nat} (hk:k<l.length):eH s (l.take (k+1))=eH s (l.take k)++(if (bI (dF s (l.take k)) l[k]).2=0 then [l[k]] else []):=by
  rw[List.take_succ_eq_append_getElem hk,aEi]; rfl
theorem vL:∀ (l:List Ev) (s:Sta),dF s (eH s l)=dF s l∧(∀ x∈cC s (eH s l),x=0)∧eH s (eH s l)=eH s l
  | [],_=>⟨rfl,by simp [eH,cC],rfl⟩
  | e::l,s=>by
    obtain ⟨h1,h2,h3⟩:=vL l (iV s e)
    by_cases h0:(bI s e).2=0
    · have et:eH s (e::l)=e::eH (iV s e) l:=if_pos h0
      rw[et]
      refine⟨h1,fun x hx=>?_,?_⟩
      · rcases List.mem_cons.1 hx with rfl | hx
        · exact h0
        · exact h2 x hx
      · show (if (bI s e).2=0 then _ else _)=_
        rw[if_pos h0,h3]
    · have et:eH s (e::l)=eH (iV s e) l:=if_neg h0
      rw[et]
      have es:=aFp h0
      rw[es] at h1 h2 h3 ⊢
      exact⟨h1.trans (by show _=dF (iV s e) l; rw[es]),h2,h3⟩
def sG:List Ev→Ev→Ev
  | [],m=>m
  | x::l,m=>sG l (if m.at'<x.at' then x else m)
def ev0:Ev:=⟨0,0,bs0,bs0,0,0⟩
theorem aR7 {x:Ev} {r:List Ev} {k:Nat} (hk:k<r.length):0≤((k+1:Nat):Int)∧((x::r).map evC)[((k+1:Nat):Int).toNat]?=some (evC r[k]):=⟨by omega,by rw[Int.toNat_natCast,List.getElem?_map,List.getElem?_cons_succ,List.getElem?_eq_getElem hk]; rfl⟩
def lateA:List Ev→Int
  | []=>0
  | x::r=>(sG r x).at'
abbrev bBob:ByteArray:=⟨#[98,111,98]⟩
def aEd:Ev:=⟨1,3,aM7,bs0,1,1⟩
def aEc:Ev:=⟨1,4,bBob,bs0,1,1⟩
def aC3:Ev:=⟨3,5,aM7,bs0,1,0⟩
def afS:Sta:=⟨5,0,[],[(aM7,[((3,5),(1,1))])],[],[]⟩
theorem af_1:dF cU [aEd,aEc,aC3]=afS:=by decide +kernel
theorem af_2:cC cU [aEd,aEc,aC3]=[0,100,0]:=by decide +kernel
theorem af_3:eH cU [aEd,aEc,aC3]=[aEd,aC3]:=by decide +kernel
theorem af_4:aGz aM7 [aEd,aEc,aC3]=[aEc]:=by decide +kernel
theorem af_5:aHc afS aM7 9=[((3,5),(1,1))]:=by decide +kernel
theorem aQt:RightP afS:=aEs.1 (by decide +kernel)
end Go.Abs
set_option linter.unusedVariables false
set_option linter.unusedSimpArgs false
namespace Go.Abs
open Go
def aGh (sp:List Sp) (f a:Int):Prop:=∀ τ:Int,fU sp τ=(decide (f≤τ)&&decide (τ<a))
theorem aQh (f:Int):aGh [] f f:=by
  intro τ
  rw[mK,Bool.eq_iff_iff]
  simp only[Bool.and_eq_true,decide_eq_true_eq,Bool.false_eq_true,false_iff]
  omega
theorem aM5 {sp:List Sp} {f a t:Int} (h:aGh sp f a) (h1:f≤a) (h2:a≤t):aGh (sp++[(a,t)]) f t:=by
  intro τ
  rw[nP,h τ,jP,mK,Bool.eq_iff_iff]
  simp only[Bool.and_eq_true,decide_eq_true_eq,Bool.or_eq_true,Bool.false_eq_true,or_false]
  omega
structure WholeI (e:Se) (k:Nat) (a:Int) (stays:List bP) (sp:List Sp) (n:Nat):Prop where
  le:k≤n
  ge:e.2.2≤a
  l1:stays.length=k
  l2:sp.length=k
  ends:∀ y∈stays,y.1.2≤a
  cov:aGh sp e.2.2 a
theorem WholeI.start (e:Se) (n:Nat):WholeI e 0 e.2.2 [] [] n:=⟨Nat.zero_le _,Int.le_refl _,rfl,rfl,by simp,aQh _⟩
theorem WholeI.next {e:Se} {k n:Nat} {a t s0:Int} {stays:List bP} {sp:List Sp} (h:WholeI e k a stays sp n) (hk:k<n) (ht:a≤t):WholeI e (k+1) t (stays++[((a,t),(e.1.1,s0))]) (sp++[(a,t)]) n:=by
  refine⟨hk,Int.le_trans h.ge ht,by rw[List.length_append,h.l1]; rfl,by rw[List.length_append,h.l2]; rfl,fun y hy=>?_,aM5 h.cov h.ge ht⟩
  rcases List.mem_append.1 hy with hy | hy
  · exact Int.le_trans (h.ends y hy) ht
  · rw[List.mem_singleton.1 hy]; exact Int.le_refl _
variable {P:Program}
end Go.Abs
set_option linter.unusedVariables false
set_option linter.unusedSimpArgs false
namespace Go.Proofs.YtijnkglkchhomaaGreat
open Go Go.Abs
theorem nO (a:List Int) (n:Int):dX (a++[n])=dX a++[[AV.s (.int .i64 n)]]:=by simp [dX]
theorem aP3 (j:Nat) (s:Sta) (l:List Ev) (hz:SzS (140737488351232+48*j) s) (h:RightP s) (hl:j+l.length≤60) (ht:∀ e∈l,TS e.user∧TS e.other) :Den Tryz.prog 15 [.agg (bU s),.sl 6 (l.map evC)]  (·=.tup [.agg (bU (dF s l)),.sl 1 (dX (cC s l))]):=by
 refine aS Tryz.func15 rfl (Nat.le_of_ble_eq_true rfl) (fun w0 A hf=>(aC (fun K1 hK1=>(aB (jL hf rfl rfl rfl rfl (l1 rfl) ?_)))))
 refine bQ hf rfl rfl rfl cK (aF rfl (bE) (aD (hK1 _ (aC (fun K2 hK2=>(aB (jK hf 1 rfl rfl rfl (aD (hK2 _ (aC (fun K3 hK3=>(aB (aE aA 1 rfl (iQ hf [] [(E0,222),(E1,223)] rfl rfl rfl rfl rfl rfl (by decide) (by decide) (by decide) rfl pO (nR s (hz.mono (by omega))) ?_))))))))))))))
 rintro r m1 ⟨rfl,rfl⟩
 rw[sP]
 refine aQ (cD [1,2,4,6,12] rfl) (aP hf rfl rfl cW rfl rfl (l1 rfl) (l4 rfl) rfl (aD (hK3 _ (aC (fun K4 hK4=>(aC (fun K5 hK5=>(aB (aQ (pZ (nee 222) (sl':=[(1,_),(2,_),(4,_),(6,_)]) (m':=[(223,.buf 2 (s.tmb.map tmC)),(6,.buf 1 []),(4,AM.box [.s (.int .i64 0),.s (.int .i64 0),.s (.slice none 0 0),.s (.slice none 0 0),.s (.slice none 0 0),.s (.slice none 0 0)]),(2,.box [.s (.int .i64 s.now),.s (.int .i64 s.hor),.sl 4 (s.opn.map seC),.sl 2 (s.usr.map usC),.sl 4 (s.sub.map enC),.own 223 2 0 (s.tmb.map tmC).length])]) ⟨⟨_,rfl,rfl⟩,⟨_,rfl,rfl⟩,⟨_,rfl,rfl⟩,⟨_,rfl,rfl⟩,trivial⟩ (Eq.trans (show _=[(223,AM.buf 2 (s.tmb.map tmC)),(6,.buf 1 []),(4,AM.box [.s (.int .i64 0),.s (.int .i64 0),.s (.slice none 0 0),.s (.slice none 0 0),.s (.slice none 0 0),.s (.slice none 0 0)]),(2,.box [.s (.int .i64 s.now),.s (.int .i64 s.hor),.sl 4 (s.opn.map seC),AV.only (nee 222) [(222,.buf 2 (s.usr.map usC)),(223,.buf 2 (s.tmb.map tmC)),(6,.buf 1 []),(4,.box [.s (.int .i64 0),.s (.int .i64 0),.s (.slice none 0 0),.s (.slice none 0 0),.s (.slice none 0 0),.s (.slice none 0 0)]),(2,.box [.s (.int .i64 s.now),.s (.int .i64 s.hor),.sl 4 (s.opn.map seC),.own 222 2 0 (s.usr.map usC).length,.sl 4 (s.sub.map enC),.own 223 2 0 (s.tmb.map tmC).length])] (.own 222 2 0 (s.usr.map usC).length),.sl 4 (s.sub.map enC),.own 223 2 0 (s.tmb.map tmC).length])] from rfl) (by rw[aB8 (ok:=nee 222) (g:=222) rfl rfl rfl]))) ?_)))))))))
 refine aQ (pZ (nee 223) (sl':=[(1,_),(2,_),(4,_),(6,_)]) (m':=[(6,.buf 1 []),(4,AM.box [.s (.int .i64 0),.s (.int .i64 0),.s (.slice none 0 0),.s (.slice none 0 0),.s (.slice none 0 0),.s (.slice none 0 0)]),(2,.box [.s (.int .i64 s.now),.s (.int .i64 s.hor),.sl 4 (s.opn.map seC),.sl 2 (s.usr.map usC),.sl 4 (s.sub.map enC),.sl 2 (s.tmb.map tmC)])]) ⟨⟨_,rfl,rfl⟩,⟨_,rfl,rfl⟩,⟨_,rfl,rfl⟩,⟨_,rfl,rfl⟩,trivial⟩ (Eq.trans (show _=[(6,.buf 1 []),(4,AM.box [.s (.int .i64 0),.s (.int .i64 0),.s (.slice none 0 0),.s (.slice none 0 0),.s (.slice none 0 0),.s (.slice none 0 0)]),(2,.box [.s (.int .i64 s.now),.s (.int .i64 s.hor),.sl 4 (s.opn.map seC),.sl 2 (s.usr.map usC),.sl 4 (s.sub.map enC),AV.only (nee 223) [(223,.buf 2 (s.tmb.map tmC)),(6,.buf 1 []),(4,AM.box [.s (.int .i64 0),.s (.int .i64 0),.s (.slice none 0 0),.s (.slice none 0 0),.s (.slice none 0 0),.s (.slice none 0 0)]),(2,.box [.s (.int .i64 s.now),.s (.int .i64 s.hor),.sl 4 (s.opn.map seC),.sl 2 (s.usr.map usC),.sl 4 (s.sub.map enC),.own 223 2 0 (s.tmb.map tmC).length])] (.own 223 2 0 (s.tmb.map tmC).length)])] from rfl) (by rw[aB8 (ok:=nee 223) (g:=223) rfl rfl rfl]))) ?_
 refine aE aA 3 rfl (aD (hK5 _ (aO (bS (ι:=Nat×Sta) (fun(⟨k,st⟩:Nat×Sta)=>⟨35,[(2,.ref 2 0 0 0),(4,.ref 4 0 0 0),(6,.own 6 1 0 (dX (cC s (l.take k))).length),(13,.sl 6 (l.map evC)),(14,.s (.int .i64 ((l.map evC).length:Nat))),(15,.s (.int .i64 (k:Nat)))],[(6,.buf 1 (dX (cC s (l.take k)))),(4,.box [.s (.int .i64 0),.s (.int .i64 0),.s (.slice none 0 0),.s (.slice none 0 0),.s (.slice none 0 0),.s (.slice none 0 0)]),(2,.box (bU st))]⟩) (fun(⟨k,st⟩:Nat×Sta)=>k≤l.length∧st=dF s (l.take k)∧RightP st∧SzS (140737488351232+48*j+48*k) st) (fun(⟨k,st⟩:Nat×Sta)=>l.length - k) (0,s) ?_ ?_ ?_))))
 · exact⟨Nat.zero_le _,rfl,h,hz⟩
 · exact bT ⟨rfl,rfl,rfl,rfl,rfl,rfl,trivial⟩ rfl
 ·
  rintro ⟨k,st⟩ hC
  obtain ⟨h1,h2,h3,h4⟩:=hC
  refine aC (fun K6 hK6=>(aB (aE aA 1 rfl (aD (hK6 _ (aC (fun K7 hK7=>(aI rfl (fun hc1=>?_) (fun hc1=>?_)))))))))
  ·
   simp only[bs,dJ] at hc1
   refine aL (hK7 _ (aC (fun K8 hK8=>(aO (aC (fun K9 hK9=>(aB ?_)))))))
   have hk:k<l.length:=by omega
   have hzS:SzS 140737488355100 st:=h4.mono (by omega)
   obtain ⟨hu,ho⟩:=ht _ (List.getElem_mem hk)
   have htl:(dX (cC s (l.take k))).length=k:=by rw[dJ,gJ,List.length_take]; omega
   refine aF rfl (aW rfl rfl jA dC (by first | assumption | (refine⟨by omega,?_⟩; first | assumption | exact fP (by omega) | exact fP (by simp only[List.length_cons] at *; omega) | exact mJ (by omega) | exact oB (by omega) | exact mH (by omega)) | exact⟨by decide,rfl⟩)) ?_
   refine aE aA 1 rfl (cH hf rfl lA rfl dC rfl rfl rfl rfl (lf rfl) (aD (hK9 _ (aC (fun K10 hK10=>(aB (aE aA 2 rfl (aK hf rfl (aR rfl rfl aNv rfl (aJw st l[k] hzS h3.usr h3.tmb hu ho)) (aE aA 3 rfl (cH hf rfl cK rfl cW rfl rfl rfl rfl (lf rfl) (aE aA 1 rfl (aD (hK10 _ ?_)))))))))))))
   refine aC (fun K11 hK11=>(aC (fun K12 hK12=>(aB (aE aA 2 rfl (aD (hK12 _ (aI rfl (fun hc2=>?_) (fun hc2=>?_)))))))))
   ·
    simp only[bs,dJ] at hc2
    refine aB (aE aA 1 rfl (aP hf rfl rfl cW rfl rfl (l1 rfl) (l4 rfl) rfl (aD (hK11 _ (aB (aE aA 2 rfl (aK hf rfl (aN lY rfl rfl rfl rfl (l2 rfl)) (aT hf rfl lY rfl rfl rfl (.inl rfl) rfl rfl (by first | rfl | simp [cV,bF]) (by first | (simp only[maxLen,List.length_map,List.length_append,List.length_cons,List.length_nil]; omega) | (simp [maxLen] <;> omega)) (by first | (simp only[List.length_map,List.length_append,List.length_cons,List.length_nil]; omega) | (simp <;> omega)) ?_))))))))
    refine aQ (cD [2,4,13,14,15,31] rfl) (aE aA 1 rfl ?_)
    refine bB ?_
    refine hK8 _ (aB ?_)
    refine aF rfl (bJ rfl rfl (by omega) (by omega)) ?_
    refine aE aA 1 rfl (aD ?_)
    exact⟨(k+1,(bI st l[k]).1),⟨by omega,by rw[uH hk,← h2,tY (by assumption)],sB h3 _,aGo h4 h3.usr (by omega)⟩,by simp only; omega,bT ⟨rfl,rfl,(by rw[lM hk,← h2,nO,List.length_append]; rfl),rfl,rfl,rfl,trivial⟩ (by rw[lM hk,← h2,nO]; rfl)⟩
   ·
    simp only[bs,dJ] at hc2
    refine aL (hK11 _ (aB (aE aA 2 rfl (aK hf rfl (aN lY rfl rfl rfl rfl (l2 rfl)) (aT hf rfl lY rfl rfl rfl (.inl rfl) rfl rfl (by first | rfl | simp [cV,bF]) (by first | (simp only[maxLen,List.length_map,List.length_append,List.length_cons,List.length_nil]; omega) | (simp [maxLen] <;> omega)) (by first | (simp only[List.length_map,List.length_append,List.length_cons,List.length_nil]; omega) | (simp <;> omega)) ?_)))))
    refine aQ (cD [2,4,13,14,15,31] rfl) (aE aA 1 rfl ?_)
    refine bB ?_
    refine hK8 _ (aB ?_)
    refine aF rfl (bJ rfl rfl (by omega) (by omega)) ?_
    refine aE aA 1 rfl (aD ?_)
    exact⟨(k+1,st),⟨by omega,by rw[uH hk,← h2,aFp (by assumption)],h3,h4.mono (by omega)⟩,by simp only; omega,bT ⟨rfl,rfl,(by rw[lM hk,← h2,nO,List.length_append]; rfl),rfl,rfl,rfl,trivial⟩ (by rw[lM hk,← h2,nO]; rfl)⟩
  ·
   simp only[bs,dJ] at hc1
   refine bA (hK4 _ (aC (fun K13 hK13=>(aB (aE aA 2 rfl (aP hf rfl rfl cW rfl rfl (l1 rfl) (l4 rfl) rfl (aE aA 1 rfl (aD (hK13 _ (aJ ?_))))))))))
   refine⟨_,rfl,?_⟩
   show AV.tup [.agg _,AV.conv _ (.own 6 1 0 (dX (cC s (l.take k))).length)]=_
   rw[bV (g:=6) rfl rfl,List.take_of_length_le (by omega)]
   rw[List.take_of_length_le (by omega)] at h2
   rw[h2]; rfl
theorem wT (s:Sta) (l:List Ev) (hz:SzS 140737488351232 s) (h:RightP s) (hl:l.length≤60) (ht:∀ e∈l,TS e.user∧TS e.other):Den Tryz.prog 15 [.agg (bU s),.sl 6 (l.map evC)] (·=.tup [.agg (bU (dF s l)),.sl 1 (dX (cC s l))]):=aP3 0 s l hz h (by omega) ht
theorem aHx (s:Sta) (l:List Ev) (hz:SzS 140737488351232 s) (h:RightP s) (hl:l.length≤60) (ht:∀ e∈l,TS e.user∧TS e.other) :Den Tryz.prog 17 [.agg (bU s),.sl 6 (l.map evC)]  (·=.tup [.agg (bU (dF s l)),.sl 1 (dX (cC s l))]):=by
 refine aS Tryz.func17 rfl (Nat.le_of_ble_eq_true rfl) (fun w0 A hf=>(aC (fun K1 hK1=>(aB (jL hf rfl rfl rfl rfl (l1 rfl) ?_)))))
 refine bQ hf rfl rfl rfl dA (aF rfl (bE) (aD (hK1 _ (aC (fun K2 hK2=>(aB (jK hf 1 rfl rfl rfl (aD (hK2 _ (aC (fun K3 hK3=>(aC (fun K4 hK4=>(aB (aE aA 1 rfl ?_)))))))))))))))
 refine aD (hK4 _ (aO (bS (ι:=Nat×Sta) (fun(⟨k,st⟩:Nat×Sta)=>⟨34,[(1,.sl 6 (l.map evC)),(2,.ref 2 0 0 0),(4,.ref 4 0 0 0),(6,.own 6 1 0 (dX (cC s (l.take k))).length),(7,.s (.int .i64 (k:Nat)))],[(6,.buf 1 (dX (cC s (l.take k)))),(4,.box [.s (.int .i64 0),.s (.int .i64 0),.s (.slice none 0 0),.s (.slice none 0 0),.s (.slice none 0 0),.s (.slice none 0 0)]),(2,.box (bU st))]⟩) (fun(⟨k,st⟩:Nat×Sta)=>k≤l.length∧st=dF s (l.take k)∧RightP st∧SzS (140737488351232+48*k) st) (fun(⟨k,st⟩:Nat×Sta)=>l.length - k) (0,s) ?_ ?_ ?_)))
 · exact⟨Nat.zero_le _,rfl,h,hz⟩
 · exact bT ⟨rfl,rfl,rfl,rfl,rfl,trivial⟩ rfl
 ·
  rintro ⟨k,st⟩ hC
  obtain ⟨h1,h2,h3,h4⟩:=hC
  refine aC (fun K5 hK5=>(aC (fun K6 hK6=>(aB ?_))))
  skip
  refine aE aA 4 rfl (aD (hK6 _ (aI rfl (fun hc1=>?_) (fun hc1=>?_))))
  ·
   simp only[bs,dJ] at hc1
   have hk:k<l.length:=by omega
   have hzS:SzS 140737488355100 st:=h4.mono (by omega)
   obtain ⟨hu,ho⟩:=ht _ (List.getElem_mem hk)
   have htl:(dX (cC s (l.take k))).length=k:=by rw[dJ,gJ,List.length_take]; omega
   refine aL (hK5 _ (aC (fun K7 hK7=>(aO (aC (fun K8 hK8=>(eY bN ?_)))))))
   refine bR (listed':=#[false,true,false,false,false,false,false,false,false,false,false,false]) 1 rfl (by kernel_rfl) (by kernel_rfl) (by kernel_rfl) rfl (fun _ _ h=>h) (dO rfl) ?_
   refine bR (listed':=#[false,true,true,false,false,false,false,false,false,false,false,false]) 2 rfl (by kernel_rfl) (by kernel_rfl) (by kernel_rfl) rfl (fun _ _ h=>h) (dO rfl) ?_
   refine bR (listed':=#[false,true,true,true,false,false,false,false,false,false,false,false]) 3 rfl (by kernel_rfl) (by kernel_rfl) (by kernel_rfl) rfl (fun _ _ h=>h) (aQ1 rfl rfl gV gL (by first | assumption | (refine⟨by omega,?_⟩; first | assumption | exact fP (by omega) | exact fP (by simp only[List.length_cons] at *; omega) | exact mJ (by omega) | exact oB (by omega) | exact mH (by omega)) | exact⟨by decide,rfl⟩)) ?_
   refine bC 0 #[true,true,true,true,true,true,true,true,true,true,true,true] ⟨34,[(1,.sl 6 (l.map evC)),(2,.ref 2 0 0 0),(4,.ref 4 0 0 0),(6,.own 6 1 0 (dX (cC s (l.take k))).length),(7,.s (.int .i64 (k:Nat))),(8,.ref 8 0 0 0),(9,.s (.int .i64 (bI st l[k]).2))],[(8,.box (bU (bI st l[k]).1)),(6,.buf 1 (dX (cC s (l.take k)))),(4,.box [.s (.int .i64 0),.s (.int .i64 0),.s (.slice none 0 0),.s (.slice none 0 0),.s (.slice none 0 0),.s (.slice none 0 0)]),(2,.box (bU st))]⟩ ?_ (fun hD0=>?_)
   ·
    refine bW (by kernel_rfl) ?_
    refine hK8 _ (aC (fun K9 hK9=>(aC (fun K10 hK10=>(aB (aE aA 2 rfl (aD (hK10 _ (aI rfl (fun hc2=>?_) (fun hc2=>?_))))))))))
    ·
     simp only[bs,dJ] at hc2
     refine aFb (pZ (nee 8) (sl':=[(1,_),(2,_),(4,_),(6,_),(7,_),(8,_),(9,_)]) (m':=[(6,.buf 1 (dX (cC s (l.take k)))),(4,.box [.s (.int .i64 0),.s (.int .i64 0),.s (.slice none 0 0),.s (.slice none 0 0),.s (.slice none 0 0),.s (.slice none 0 0)]),(2,.box (bU st))]) ⟨⟨_,rfl,rfl⟩,⟨_,rfl,rfl⟩,⟨_,rfl,rfl⟩,⟨_,rfl,rfl⟩,⟨_,rfl,rfl⟩,⟨_,rfl,rfl⟩,⟨_,rfl,rfl⟩,trivial⟩ rfl) (aB (aE aA 1 rfl (aP hf rfl rfl cI rfl rfl (l1 rfl) (l4 rfl) rfl (aD (hK9 _ (aB (aE aA 2 rfl (aK hf rfl (aN lY rfl rfl rfl rfl (l2 rfl)) ?_))))))))
     refine aT hf rfl lY rfl rfl rfl (.inl rfl) rfl rfl (by first | rfl | simp [cV,bF]) (by first | (simp only[maxLen,List.length_map,List.length_append,List.length_cons,List.length_nil]; omega) | (simp [maxLen] <;> omega)) (by first | (simp only[List.length_map,List.length_append,List.length_cons,List.length_nil]; omega) | (simp <;> omega)) ?_
     refine aQ (cD [1,2,4,7,31] rfl) (aE aA 1 rfl ?_)
     refine bB ?_
     refine hK7 _ (aB (aE aA 1 rfl ?_))
     refine aF rfl (bJ rfl rfl (by omega) (by omega)) ?_
     refine aE aA 1 rfl (aD ?_)
     exact⟨(k+1,(bI st l[k]).1),⟨by omega,by rw[uH hk,← h2,tY (by assumption)],sB h3 _,aGo h4 h3.usr (by omega)⟩,by simp only; omega,bT ⟨rfl,rfl,rfl,(by rw[lM hk,← h2,nO,List.length_append]; rfl),rfl,trivial⟩ (by rw[lM hk,← h2,nO]; rfl)⟩
    ·
     simp only[bs,dJ] at hc2
     refine aFb (pZ (nee 8) (sl':=[(1,_),(2,_),(4,_),(6,_),(7,_),(9,_)]) (m':=[(6,.buf 1 (dX (cC s (l.take k)))),(4,.box [.s (.int .i64 0),.s (.int .i64 0),.s (.slice none 0 0),.s (.slice none 0 0),.s (.slice none 0 0),.s (.slice none 0 0)]),(2,.box (bU st))]) ⟨⟨_,rfl,rfl⟩,⟨_,rfl,rfl⟩,⟨_,rfl,rfl⟩,⟨_,rfl,rfl⟩,⟨_,rfl,rfl⟩,⟨_,rfl,rfl⟩,trivial⟩ rfl) (aL (hK9 _ (aB (aE aA 2 rfl (aK hf rfl (aN lY rfl rfl rfl rfl (l2 rfl)) (aT hf rfl lY rfl rfl rfl (.inl rfl) rfl rfl (by first | rfl | simp [cV,bF]) (by first | (simp only[maxLen,List.length_map,List.length_append,List.length_cons,List.length_nil]; omega) | (simp [maxLen] <;> omega)) (by first | (simp only[List.length_map,List.length_append,List.length_cons,List.length_nil]; omega) | (simp <;> omega)) ?_))))))
     refine aQ (cD [1,2,4,7,31] rfl) (aE aA 1 rfl ?_)
     refine bB ?_
     refine hK7 _ (aB (aE aA 1 rfl ?_))
     refine aF rfl (bJ rfl rfl (by omega) (by omega)) ?_
     refine aE aA 1 rfl (aD ?_)
     exact⟨(k+1,st),⟨by omega,by rw[uH hk,← h2,aFp (by assumption)],h3,h4.mono (by omega)⟩,by simp only; omega,bT ⟨rfl,rfl,rfl,(by rw[lM hk,← h2,nO,List.length_append]; rfl),rfl,trivial⟩ (by rw[lM hk,← h2,nO]; rfl)⟩
   refine bC 1 #[true,true,true,true,true,true,true,true,true,true,true,false] ⟨34,[(1,.sl 6 (l.map evC)),(2,.ref 2 0 0 0),(4,.ref 4 0 0 0),(6,.own 6 1 0 (dX (cC s (l.take k))).length),(7,.s (.int .i64 (k:Nat))),(8,.ref 8 0 0 0),(24,.s (.int .i64 (bI st l[k]).2))],[(8,.box (bU (bI st l[k]).1)),(6,.buf 1 (dX (cC s (l.take k)))),(4,.box [.s (.int .i64 0),.s (.int .i64 0),.s (.slice none 0 0),.s (.slice none 0 0),.s (.slice none 0 0),.s (.slice none 0 0)]),(2,.box (bU st))]⟩ ?_ (fun hD1=>?_)
   ·
    refine aH 11 [] (by kernel_rfl) ⟨?_,trivial⟩
    ·
     refine⟨_,rfl,rfl,(ao rfl (aE aA 1 rfl (aG (ag hD0 rfl rfl rfl))))⟩
   refine bC 2 #[true,true,true,true,true,true,true,true,true,true,false,false] ⟨34,[(1,.sl 6 (l.map evC)),(2,.ref 2 0 0 0),(4,.ref 4 0 0 0),(6,.own 6 1 0 (dX (cC s (l.take k))).length),(7,.s (.int .i64 (k:Nat))),(8,.ref 8 0 0 0),(23,.agg (bU (bI st l[k]).1)),(24,.s (.int .i64 (bI st l[k]).2))],[(8,.box [.s (.int .i64 0),.s (.int .i64 0),.s (.slice none 0 0),.s (.slice none 0 0),.s (.slice none 0 0),.s (.slice none 0 0)]),(6,.buf 1 (dX (cC s (l.take k)))),(4,.box [.s (.int .i64 0),.s (.int .i64 0),.s (.slice none 0 0),.s (.slice none 0 0),.s (.slice none 0 0),.s (.slice none 0 0)]),(2,.box (bU st))]⟩ ?_ (fun hD2=>?_)
   ·
    refine aH 10 [] (by kernel_rfl) ⟨?_,trivial⟩
    ·
     refine⟨_,rfl,rfl,(ao rfl (aP hf rfl rfl cI rfl rfl (l1 rfl) (l4 rfl) rfl (aG (ag hD1 rfl rfl rfl))))⟩
   refine bC 2 #[true,true,true,true,true,true,true,true,false,true,true,false] ⟨34,[(1,.sl 6 (l.map evC)),(2,.ref 2 0 0 0),(4,.ref 4 0 0 0),(6,.own 6 1 0 (dX (cC s (l.take k))).length),(7,.s (.int .i64 (k:Nat))),(8,.ref 8 0 0 0),(16,.tup [.agg (bU (bI st l[k]).1),.s (.int .i64 (bI st l[k]).2)])],[(8,.box (bU (bI st l[k]).1)),(6,.buf 1 (dX (cC s (l.take k)))),(4,.box [.s (.int .i64 0),.s (.int .i64 0),.s (.slice none 0 0),.s (.slice none 0 0),.s (.slice none 0 0),.s (.slice none 0 0)]),(2,.box (bU st))]⟩ ?_ (fun hD3=>?_)
   ·
    refine aH 8 [] (by kernel_rfl) ⟨?_,trivial⟩
    ·
     refine⟨_,rfl,rfl,(ao rfl (aE aA 1 rfl (aG (ag hD1 rfl rfl rfl))))⟩
   refine bC 3 #[true,true,true,true,true,true,true,true,true,false,false,false] ⟨34,[(1,.sl 6 (l.map evC)),(2,.ref 2 0 0 0),(4,.ref 4 0 0 0),(6,.own 6 1 0 (dX (cC s (l.take k))).length),(7,.s (.int .i64 (k:Nat))),(23,.agg (bU (bI st l[k]).1)),(24,.s (.int .i64 (bI st l[k]).2))],[(6,.buf 1 (dX (cC s (l.take k)))),(4,.box [.s (.int .i64 0),.s (.int .i64 0),.s (.slice none 0 0),.s (.slice none 0 0),.s (.slice none 0 0),.s (.slice none 0 0)]),(2,.box (bU st))]⟩ ?_ (fun hD4=>?_)
   ·
    refine aH 9 [] (by kernel_rfl) ⟨?_,trivial⟩
    ·
     refine⟨_,rfl,rfl,(ao rfl (bQ hf rfl rfl rfl dA (aG (ag hD2 rfl rfl rfl))))⟩
   refine bC 3 #[true,true,true,true,true,true,true,true,false,true,false,false] ⟨34,[(1,.sl 6 (l.map evC)),(2,.ref 2 0 0 0),(4,.ref 4 0 0 0),(6,.own 6 1 0 (dX (cC s (l.take k))).length),(7,.s (.int .i64 (k:Nat))),(8,.ref 8 0 0 0),(16,.tup [.agg (bU (bI st l[k]).1),.s (.int .i64 (bI st l[k]).2)]),(23,.agg (bU (bI st l[k]).1))],[(8,.box [.s (.int .i64 0),.s (.int .i64 0),.s (.slice none 0 0),.s (.slice none 0 0),.s (.slice none 0 0),.s (.slice none 0 0)]),(6,.buf 1 (dX (cC s (l.take k)))),(4,.box [.s (.int .i64 0),.s (.int .i64 0),.s (.slice none 0 0),.s (.slice none 0 0),.s (.slice none 0 0),.s (.slice none 0 0)]),(2,.box (bU st))]⟩ ?_ (fun hD5=>?_)
   ·
    refine aH 8 [10] (by kernel_rfl) ⟨?_,?_,trivial⟩
    ·
     refine⟨_,rfl,rfl,(ao rfl (aE aA 1 rfl (aG (ag hD2 rfl rfl rfl))))⟩
    ·
     refine⟨_,rfl,rfl,(ao rfl (aP hf rfl rfl cI rfl rfl (l1 rfl) (l4 rfl) rfl (aG (ag hD3 rfl rfl rfl))))⟩
   refine bC 3 #[true,true,true,true,true,true,true,false,true,true,false,false] ⟨34,[(1,.sl 6 (l.map evC)),(2,.ref 2 0 0 0),(4,.ref 4 0 0 0),(6,.own 6 1 0 (dX (cC s (l.take k))).length),(7,.s (.int .i64 (k:Nat))),(8,.ref 8 0 0 0),(16,.tup [.agg (bU (bI st l[k]).1),.s (.int .i64 (bI st l[k]).2)]),(24,.s (.int .i64 (bI st l[k]).2))],[(8,.box [.s (.int .i64 0),.s (.int .i64 0),.s (.slice none 0 0),.s (.slice none 0 0),.s (.slice none 0 0),.s (.slice none 0 0)]),(6,.buf 1 (dX (cC s (l.take k)))),(4,.box [.s (.int .i64 0),.s (.int .i64 0),.s (.slice none 0 0),.s (.slice none 0 0),.s (.slice none 0 0),.s (.slice none 0 0)]),(2,.box (bU st))]⟩ ?_ (fun hD6=>?_)
   ·
    refine aH 7 [] (by kernel_rfl) ⟨?_,trivial⟩
    ·
     refine⟨_,rfl,rfl,(ao rfl (aE aA 1 rfl (aG (ag hD2 rfl rfl rfl))))⟩
   refine bC 4 #[true,true,true,true,true,true,true,true,false,false,false,false] ⟨34,[(1,.sl 6 (l.map evC)),(2,.ref 2 0 0 0),(4,.ref 4 0 0 0),(6,.own 6 1 0 (dX (cC s (l.take k))).length),(7,.s (.int .i64 (k:Nat))),(16,.tup [.agg (bU (bI st l[k]).1),.s (.int .i64 (bI st l[k]).2)]),(23,.agg (bU (bI st l[k]).1))],[(6,.buf 1 (dX (cC s (l.take k)))),(4,.box [.s (.int .i64 0),.s (.int .i64 0),.s (.slice none 0 0),.s (.slice none 0 0),.s (.slice none 0 0),.s (.slice none 0 0)]),(2,.box (bU st))]⟩ ?_ (fun hD7=>?_)
   ·
    refine aH 8 [9] (by kernel_rfl) ⟨?_,?_,trivial⟩
    ·
     refine⟨_,rfl,rfl,(ao rfl (aE aA 1 rfl (aG (ag hD4 rfl rfl rfl))))⟩
    ·
     refine⟨_,rfl,rfl,(ao rfl (bQ hf rfl rfl rfl dA (aG (ag hD5 rfl rfl rfl))))⟩
   refine bC 4 #[true,true,true,true,true,true,true,false,true,false,false,false] ⟨34,[(1,.sl 6 (l.map evC)),(2,.ref 2 0 0 0),(4,.ref 4 0 0 0),(6,.own 6 1 0 (dX (cC s (l.take k))).length),(7,.s (.int .i64 (k:Nat))),(16,.tup [.agg (bU (bI st l[k]).1),.s (.int .i64 (bI st l[k]).2)]),(24,.s (.int .i64 (bI st l[k]).2))],[(6,.buf 1 (dX (cC s (l.take k)))),(4,.box [.s (.int .i64 0),.s (.int .i64 0),.s (.slice none 0 0),.s (.slice none 0 0),.s (.slice none 0 0),.s (.slice none 0 0)]),(2,.box (bU st))]⟩ ?_ (fun hD8=>?_)
   ·
    refine aH 7 [9] (by kernel_rfl) ⟨?_,?_,trivial⟩
    ·
     refine⟨_,rfl,rfl,(ao rfl (aE aA 1 rfl (aG (ag hD4 rfl rfl rfl))))⟩
    ·
     refine⟨_,rfl,rfl,(ao rfl (bQ hf rfl rfl rfl dA (aG (ag hD6 rfl rfl rfl))))⟩
   refine bC 4 #[true,true,true,true,true,true,true,false,false,true,false,false] ⟨34,[(1,.sl 6 (l.map evC)),(2,.ref 2 0 0 0),(4,.ref 4 0 0 0),(6,.own 6 1 0 (dX (cC s (l.take k))).length),(7,.s (.int .i64 (k:Nat))),(8,.ref 8 0 0 0),(16,.tup [.agg (bU (bI st l[k]).1),.s (.int .i64 (bI st l[k]).2)])],[(8,.box [.s (.int .i64 0),.s (.int .i64 0),.s (.slice none 0 0),.s (.slice none 0 0),.s (.slice none 0 0),.s (.slice none 0 0)]),(6,.buf 1 (dX (cC s (l.take k)))),(4,.box [.s (.int .i64 0),.s (.int .i64 0),.s (.slice none 0 0),.s (.slice none 0 0),.s (.slice none 0 0),.s (.slice none 0 0)]),(2,.box (bU st))]⟩ ?_ (fun hD9=>?_)
   ·
    refine aH 7 [8] (by kernel_rfl) ⟨?_,?_,trivial⟩
    ·
     refine⟨_,rfl,rfl,(ao rfl (aE aA 1 rfl (aG (ag hD5 rfl rfl rfl))))⟩
    ·
     refine⟨_,rfl,rfl,(ao rfl (aE aA 1 rfl (aG (ag hD6 rfl rfl rfl))))⟩
   refine bC 5 #[true,true,true,true,true,true,true,false,false,false,false,false] ⟨34,[(1,.sl 6 (l.map evC)),(2,.ref 2 0 0 0),(4,.ref 4 0 0 0),(6,.own 6 1 0 (dX (cC s (l.take k))).length),(7,.s (.int .i64 (k:Nat))),(16,.tup [.agg (bU (bI st l[k]).1),.s (.int .i64 (bI st l[k]).2)])],[(6,.buf 1 (dX (cC s (l.take k)))),(4,.box [.s (.int .i64 0),.s (.int .i64 0),.s (.slice none 0 0),.s (.slice none 0 0),.s (.slice none 0 0),.s (.slice none 0 0)]),(2,.box (bU st))]⟩ ?_ (fun hD10=>?_)
   ·
    refine aH 7 [8,9] (by kernel_rfl) ⟨?_,?_,?_,trivial⟩
    ·
     refine⟨_,rfl,rfl,(ao rfl (aE aA 1 rfl (aG (ag hD7 rfl rfl rfl))))⟩
    ·
     refine⟨_,rfl,rfl,(ao rfl (aE aA 1 rfl (aG (ag hD8 rfl rfl rfl))))⟩
    ·
     refine⟨_,rfl,rfl,(ao rfl (bQ hf rfl rfl rfl dA (aG (ag hD9 rfl rfl rfl))))⟩
   refine bC 5 #[true,true,true,true,true,true,false,false,false,true,false,false] ⟨34,[(1,.sl 6 (l.map evC)),(2,.ref 2 0 0 0),(4,.ref 4 0 0 0),(6,.own 6 1 0 (dX (cC s (l.take k))).length),(7,.s (.int .i64 (k:Nat))),(8,.ref 8 0 0 0),(22,.tup [.agg (bU (bI st l[k]).1),.s (.int .i64 (bI st l[k]).2)])],[(8,.box [.s (.int .i64 0),.s (.int .i64 0),.s (.slice none 0 0),.s (.slice none 0 0),.s (.slice none 0 0),.s (.slice none 0 0)]),(6,.buf 1 (dX (cC s (l.take k)))),(4,.box [.s (.int .i64 0),.s (.int .i64 0),.s (.slice none 0 0),.s (.slice none 0 0),.s (.slice none 0 0),.s (.slice none 0 0)]),(2,.box (bU st))]⟩ ?_ (fun hD11=>?_)
   ·
    refine aH 6 [] (by kernel_rfl) ⟨?_,trivial⟩
    ·
     refine⟨_,rfl,rfl,(ao rfl (aE aA 1 rfl (aG (ag hD9 rfl rfl rfl))))⟩
   refine bC 6 #[true,true,true,true,true,true,false,false,false,false,false,false] ⟨34,[(1,.sl 6 (l.map evC)),(2,.ref 2 0 0 0),(4,.ref 4 0 0 0),(6,.own 6 1 0 (dX (cC s (l.take k))).length),(7,.s (.int .i64 (k:Nat))),(22,.tup [.agg (bU (bI st l[k]).1),.s (.int .i64 (bI st l[k]).2)])],[(6,.buf 1 (dX (cC s (l.take k)))),(4,.box [.s (.int .i64 0),.s (.int .i64 0),.s (.slice none 0 0),.s (.slice none 0 0),.s (.slice none 0 0),.s (.slice none 0 0)]),(2,.box (bU st))]⟩ ?_ (fun hD12=>?_)
   ·
    refine aH 6 [9] (by kernel_rfl) ⟨?_,?_,trivial⟩
    ·
     refine⟨_,rfl,rfl,(ao rfl (aE aA 1 rfl (aG (ag hD10 rfl rfl rfl))))⟩
    ·
     refine⟨_,rfl,rfl,(ao rfl (bQ hf rfl rfl rfl dA (aG (ag hD11 rfl rfl rfl))))⟩
   refine bC 6 #[true,true,true,true,true,false,false,false,false,true,false,false] ⟨34,[(1,.sl 6 (l.map evC)),(2,.ref 2 0 0 0),(4,.ref 4 0 0 0),(6,.own 6 1 0 (dX (cC s (l.take k))).length),(7,.s (.int .i64 (k:Nat))),(8,.ref 8 0 0 0),(17,.agg (bU st)),(21,.agg (evC l[k]))],[(8,.box [.s (.int .i64 0),.s (.int .i64 0),.s (.slice none 0 0),.s (.slice none 0 0),.s (.slice none 0 0),.s (.slice none 0 0)]),(6,.buf 1 (dX (cC s (l.take k)))),(4,.box [.s (.int .i64 0),.s (.int .i64 0),.s (.slice none 0 0),.s (.slice none 0 0),.s (.slice none 0 0),.s (.slice none 0 0)]),(2,.box (bU st))]⟩ ?_ (fun hD13=>?_)
   ·
    refine aH 5 [] (by kernel_rfl) ⟨?_,trivial⟩
    ·
     refine⟨_,rfl,rfl,(ao rfl (aK hf rfl (aR rfl rfl aDf rfl (wF st l[k] hzS h3.usr h3.tmb (aHn h3) hu ho)) (aG (ag hD11 rfl rfl rfl))))⟩
   refine bC 7 #[true,true,true,true,true,false,false,false,false,false,false,false] ⟨34,[(1,.sl 6 (l.map evC)),(2,.ref 2 0 0 0),(4,.ref 4 0 0 0),(6,.own 6 1 0 (dX (cC s (l.take k))).length),(7,.s (.int .i64 (k:Nat))),(17,.agg (bU st)),(21,.agg (evC l[k]))],[(6,.buf 1 (dX (cC s (l.take k)))),(4,.box [.s (.int .i64 0),.s (.int .i64 0),.s (.slice none 0 0),.s (.slice none 0 0),.s (.slice none 0 0),.s (.slice none 0 0)]),(2,.box (bU st))]⟩ ?_ (fun hD14=>?_)
   ·
    refine aH 5 [9] (by kernel_rfl) ⟨?_,?_,trivial⟩
    ·
     refine⟨_,rfl,rfl,(ao rfl (aK hf rfl (aR rfl rfl aDf rfl (wF st l[k] hzS h3.usr h3.tmb (aHn h3) hu ho)) (aG (ag hD12 rfl rfl rfl))))⟩
    ·
     refine⟨_,rfl,rfl,(ao rfl (bQ hf rfl rfl rfl dA (aG (ag hD13 rfl rfl rfl))))⟩
   refine bC 7 #[true,true,true,true,false,false,false,false,false,true,false,false] ⟨34,[(1,.sl 6 (l.map evC)),(2,.ref 2 0 0 0),(4,.ref 4 0 0 0),(6,.own 6 1 0 (dX (cC s (l.take k))).length),(7,.s (.int .i64 (k:Nat))),(8,.ref 8 0 0 0),(17,.agg (bU st)),(20,.adr (evC l[k]))],[(8,.box [.s (.int .i64 0),.s (.int .i64 0),.s (.slice none 0 0),.s (.slice none 0 0),.s (.slice none 0 0),.s (.slice none 0 0)]),(6,.buf 1 (dX (cC s (l.take k)))),(4,.box [.s (.int .i64 0),.s (.int .i64 0),.s (.slice none 0 0),.s (.slice none 0 0),.s (.slice none 0 0),.s (.slice none 0 0)]),(2,.box (bU st))]⟩ ?_ (fun hD15=>?_)
   ·
    refine aH 4 [] (by kernel_rfl) ⟨?_,trivial⟩
    ·
     refine⟨_,rfl,rfl,(ao rfl (aE aA 1 rfl (aG (ag hD13 rfl rfl rfl))))⟩
   refine bC 7 #[false,true,true,true,true,false,false,false,false,true,false,false] ⟨34,[(1,.sl 6 (l.map evC)),(2,.ref 2 0 0 0),(4,.ref 4 0 0 0),(6,.own 6 1 0 (dX (cC s (l.take k))).length),(7,.s (.int .i64 (k:Nat))),(8,.ref 8 0 0 0),(21,.agg (evC l[k]))],[(8,.box [.s (.int .i64 0),.s (.int .i64 0),.s (.slice none 0 0),.s (.slice none 0 0),.s (.slice none 0 0),.s (.slice none 0 0)]),(6,.buf 1 (dX (cC s (l.take k)))),(4,.box [.s (.int .i64 0),.s (.int .i64 0),.s (.slice none 0 0),.s (.slice none 0 0),.s (.slice none 0 0),.s (.slice none 0 0)]),(2,.box (bU st))]⟩ ?_ (fun hD16=>?_)
   ·
    refine aH 0 [] (by kernel_rfl) ⟨?_,trivial⟩
    ·
     refine⟨_,rfl,rfl,(ao rfl (aE aA 1 rfl (aG (ag hD13 rfl rfl rfl))))⟩
   refine bC 8 #[true,true,true,true,false,false,false,false,false,false,false,false] ⟨34,[(1,.sl 6 (l.map evC)),(2,.ref 2 0 0 0),(4,.ref 4 0 0 0),(6,.own 6 1 0 (dX (cC s (l.take k))).length),(7,.s (.int .i64 (k:Nat))),(17,.agg (bU st)),(20,.adr (evC l[k]))],[(6,.buf 1 (dX (cC s (l.take k)))),(4,.box [.s (.int .i64 0),.s (.int .i64 0),.s (.slice none 0 0),.s (.slice none 0 0),.s (.slice none 0 0),.s (.slice none 0 0)]),(2,.box (bU st))]⟩ ?_ (fun hD17=>?_)
   ·
    refine aH 4 [9] (by kernel_rfl) ⟨?_,?_,trivial⟩
    ·
     refine⟨_,rfl,rfl,(ao rfl (aE aA 1 rfl (aG (ag hD14 rfl rfl rfl))))⟩
    ·
     refine⟨_,rfl,rfl,(ao rfl (bQ hf rfl rfl rfl dA (aG (ag hD15 rfl rfl rfl))))⟩
   refine bC 8 #[false,true,true,true,true,false,false,false,false,false,false,false] ⟨34,[(1,.sl 6 (l.map evC)),(2,.ref 2 0 0 0),(4,.ref 4 0 0 0),(6,.own 6 1 0 (dX (cC s (l.take k))).length),(7,.s (.int .i64 (k:Nat))),(21,.agg (evC l[k]))],[(6,.buf 1 (dX (cC s (l.take k)))),(4,.box [.s (.int .i64 0),.s (.int .i64 0),.s (.slice none 0 0),.s (.slice none 0 0),.s (.slice none 0 0),.s (.slice none 0 0)]),(2,.box (bU st))]⟩ ?_ (fun hD18=>?_)
   ·
    refine aH 0 [9] (by kernel_rfl) ⟨?_,?_,trivial⟩
    ·
     refine⟨_,rfl,rfl,(ao rfl (aE aA 1 rfl (aG (ag hD14 rfl rfl rfl))))⟩
    ·
     refine⟨_,rfl,rfl,(ao rfl (bQ hf rfl rfl rfl dA (aG (ag hD16 rfl rfl rfl))))⟩
   refine bC 8 #[false,true,true,true,false,false,false,false,false,true,false,false] ⟨34,[(1,.sl 6 (l.map evC)),(2,.ref 2 0 0 0),(4,.ref 4 0 0 0),(6,.own 6 1 0 (dX (cC s (l.take k))).length),(7,.s (.int .i64 (k:Nat))),(8,.ref 8 0 0 0),(20,.adr (evC l[k]))],[(8,.box [.s (.int .i64 0),.s (.int .i64 0),.s (.slice none 0 0),.s (.slice none 0 0),.s (.slice none 0 0),.s (.slice none 0 0)]),(6,.buf 1 (dX (cC s (l.take k)))),(4,.box [.s (.int .i64 0),.s (.int .i64 0),.s (.slice none 0 0),.s (.slice none 0 0),.s (.slice none 0 0),.s (.slice none 0 0)]),(2,.box (bU st))]⟩ ?_ (fun hD19=>?_)
   ·
    refine aH 0 [4] (by kernel_rfl) ⟨?_,?_,trivial⟩
    ·
     refine⟨_,rfl,rfl,(ao rfl (aE aA 1 rfl (aG (ag hD15 rfl rfl rfl))))⟩
    ·
     refine⟨_,rfl,rfl,(ao rfl (aE aA 1 rfl (aG (ag hD16 rfl rfl rfl))))⟩
   refine lD (aCc (sl':=[(1,.sl 6 (l.map evC)),(2,.ref 2 0 0 0),(4,.ref 4 0 0 0),(6,.own 6 1 0 (dX (cC s (l.take k))).length),(7,.s (.int .i64 (k:Nat))),(20,.adr (evC l[k]))]) (m':=[(6,.buf 1 (dX (cC s (l.take k)))),(4,.box [.s (.int .i64 0),.s (.int .i64 0),.s (.slice none 0 0),.s (.slice none 0 0),.s (.slice none 0 0),.s (.slice none 0 0)]),(2,.box (bU st))]) rfl rfl rfl) (aH 0 [4,9] (by kernel_rfl) ⟨?_,?_,?_,trivial⟩)
   ·
    refine⟨_,rfl,rfl,(ao rfl (aE aA 1 rfl (aG (ag hD17 rfl rfl rfl))))⟩
   ·
    refine⟨_,rfl,rfl,(ao rfl (aE aA 1 rfl (aG (ag hD18 rfl rfl rfl))))⟩
   ·
    refine⟨_,rfl,rfl,(ao rfl (bQ hf rfl rfl rfl dA (aG (ag hD19 rfl rfl rfl))))⟩
  ·
   simp only[bs,dJ] at hc1
   refine bA (hK3 _ (aC (fun K11 hK11=>(aB (aE aA 2 rfl (aP hf rfl rfl cI rfl rfl (l1 rfl) (l4 rfl) rfl (aE aA 1 rfl (aD (hK11 _ (aJ ?_))))))))))
   refine⟨_,rfl,?_⟩
   show AV.tup [.agg _,AV.conv _ (.own 6 1 0 (dX (cC s (l.take k))).length)]=_
   rw[bV (g:=6) rfl rfl,List.take_of_length_le (by omega)]
   rw[List.take_of_length_le (by omega)] at h2
   rw[h2]; rfl
end Go.Proofs.YtijnkglkchhomaaGreat
