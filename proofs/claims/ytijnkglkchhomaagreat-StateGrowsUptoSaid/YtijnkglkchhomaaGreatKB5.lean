import Derived.WalkKit
import Derived.WalkSpells
import Derived.WalkLawsBesides
import Derived.Deep.LoopGhost
import Derived.ChangeKeysEq
import Derived.Still
import Derived.Lib.AppendZeros
import Derived.Laws.StructEq
import Derived.OpenShut
import Derived.Scope
import Derived.Shelf.SlSortCmp.Kit1
import Derived.Shelf.SlSortCmp.InsertionK
import Derived.Lib.SlicesCompact
import Derived.ProofKit
import Derived.ChangeSame
import Derived.Carry
import Derived.SliceStrings
import Derived.ChangeMaps5
import Derived.Deep.Slices
import Derived.Test.YtijnkglkchhomaaGreatRows
import Derived.Shelf.Abstract
import Derived.Deep.RegionLaw
import Derived.Lib.Walk
import Derived.Lib.Overlaps
import Derived.Lib.AppendZerosOnto
import Derived.Laws.CopyRow
import Derived.Shelf.SlSortCmp.WholeK
import Derived.Shelf.SlSortCmp.Whole1
import Derived.Shelf.SlSortCmp.NoneTotal
import Derived.Test.YtijnkglkchhomaaGreatKB1
import Derived.Test.YtijnkglkchhomaaGreatKB2
import Derived.Test.YtijnkglkchhomaaGreatKB3
import Derived.Test.YtijnkglkchhomaaGreatKB4
set_option maxRecDepth 20000
set_option maxHeartbeats 16000000
set_option linter.unusedVariables false
set_option linter.unusedSimpArgs false
namespace Go.Proofs.YtijnkglkchhomaaGreat
open Go Go.Abs
theorem uT {l:List Int} {k:Nat} (hk:k<l.length):0≤((k:Nat):Int)∧(bH l)[((k:Nat):Int).toNat]?=some [AV.s (.int .i64 l[k])]:=⟨by omega,by rw[bH,Int.toNat_natCast,List.getElem?_map,List.getElem?_eq_getElem hk]; rfl⟩
theorem pA (s:Sta) (l:List Ev) (hz:SzS 140737488351232 s) (h:RightP s) (hl:l.length≤60) (ht:∀ e∈l,TS e.user∧TS e.other) :Den Tryz.prog 24 [.agg (aL s),.sl 6 (l.map evC)]  (·=.sl 6 ((aS s l).map evC)):=by
 refine aY Tryz.func24 rfl (Nat.le_of_ble_eq_true rfl) (fun w0 A hf=>(aC (fun K1 hK1=>(aB (aN hf rfl (cS rfl rfl (lf rfl)) (aI rfl (bX) (aD (hK1 _ (aC (fun K2 hK2=>(aB (aE aA 2 rfl (aN hf rfl (aP rfl rfl fC rfl (iB s l hz h hl ht)) (aE aA 3 rfl (cC hf rfl aX rfl bS rfl rfl rfl rfl (lf rfl) ?_)))))))))))))))
 refine aE aA 1 rfl (aD (hK2 _ (aC (fun K3 hK3=>(aB (qS hf 6 rfl rfl rfl (aD (hK3 _ (aC (fun K4 hK4=>(aC (fun K5 hK5=>(aB (aE aA 3 rfl (aD ?_)))))))))))))))
 refine hK5 _ (aU (bW (ι:=Nat) (fun k=>⟨34,[(1,.sl 6 (l.map evC)),(7,.own 7 6 0 (aS s (l.take k)).length),(16,.sl 1 (bH (aV s l))),(17,.s (.int .i64 ((bH (aV s l)).length:Nat))),(18,.s (.int .i64 (k:Nat)))],[(7,.buf 6 ((aS s (l.take k)).map evC))]⟩) (fun k=>k≤l.length) (fun k=>l.length - k) 0 ?_ ?_ ?_))
 · exact Nat.zero_le _
 · exact cN ⟨rfl,rfl,rfl,rfl,rfl,trivial⟩ rfl
 ·
  rintro k hC
  refine aC (fun K6 hK6=>(aB (aE aA 1 rfl (aD (hK6 _ (aC (fun K7 hK7=>(aO rfl (fun hc1=>?_) (fun hc1=>?_)))))))))
  ·
   simp only[bs,dW,gL] at hc1
   refine aR (hK7 _ (aC (fun K8 hK8=>(aU (aC (fun K9 hK9=>(aB ?_)))))))
   have hk:k<l.length:=by omega
   have hk2:k<(aV s l).length:=by rw[gL]; exact hk
   have htk:=vT (l.take k) s
   have htl:(l.take k).length=k:=by rw[List.length_take]; omega
   refine aE aA 1 rfl (aI rfl (bJ rfl rfl mX mY (uT hk2)) (aE aA 3 rfl (aD (hK9 _ (aC (fun K10 hK10=>(aB (aE aA 2 rfl (aD (hK10 _ (aO rfl (fun hc2=>?_) (fun hc2=>?_))))))))))))
   ·
    simp only[bs,dW,gL] at hc2
    have h0:(cG (aG s (l.take k)) l[k]).2=0:=by rw[← aPu hk hk2]; assumption
    refine aB (aE aA 3 rfl ?_)
    refine aI rfl (bJ rfl rfl gY cY (by first | assumption | (refine⟨by omega,?_⟩; first | assumption | exact gG (by omega) | exact gG (by simp only[List.length_cons] at *; omega) | exact nT (by omega) | exact pX (by omega) | exact nS (by omega)) | exact⟨by decide,rfl⟩)) ?_
    refine aE aA 1 rfl (aN hf rfl (bR cW rfl rfl rfl rfl (l2 rfl)) (dQ hf rfl cW rfl rfl rfl (.inl rfl) (by rw[List.length_map]) rfl (by first | rfl | simp [iS,bU]) (by first | (simp only[maxLen,List.length_map,List.length_append,List.length_cons,List.length_nil]; omega) | (simp [maxLen] <;> omega)) (by first | (simp only[List.length_map,List.length_append,List.length_cons,List.length_nil]; omega) | (simp <;> omega)) ?_))
    refine cB (iK [1,16,17,18,31] rfl) (aE aA 1 rfl ?_)
    refine bV ?_
    refine hK8 _ (aB ?_)
    refine aI rfl (bQ rfl rfl (by omega) (by omega)) ?_
    refine aE aA 1 rfl (aD ?_)
    exact⟨k+1,by omega,by omega,cN ⟨rfl,(by rw[sQ hk,if_pos h0,List.length_append]; rfl),rfl,rfl,rfl,trivial⟩ (by rw[sQ hk,if_pos h0,List.map_append]; rfl)⟩
   ·
    simp only[bs,dW,gL] at hc2
    have h0:¬ (cG (aG s (l.take k)) l[k]).2=0:=by rw[← aPu hk hk2]; assumption
    refine aR (hK8 _ (aB ?_))
    refine aI rfl (bQ rfl rfl (by omega) (by omega)) ?_
    refine aE aA 1 rfl (aD ?_)
    exact⟨k+1,by omega,by omega,cN ⟨rfl,(by rw[sQ hk,if_neg h0,List.append_nil]; rfl),rfl,rfl,rfl,trivial⟩ (by rw[sQ hk,if_neg h0,List.append_nil])⟩
  ·
   simp only[bs,dW,gL] at hc1
   refine bI (hK4 _ (aC (fun K11 hK11=>(aB (aE aA 2 rfl (aD (hK11 _ (aM ?_))))))))
   refine⟨_,rfl,?_⟩
   refine(cL (g:=7) rfl (by rw[List.length_map])).trans ?_
   rw[List.take_of_length_le (by first | omega | (rw[gL] at *; omega))]
theorem aK1 (l:List Ev) (hl:l.length*64≤140737488355328) :DenO Tryz.prog 63 [.sl 6 (l.map evC)] 6 (·=(l.map evC)):=by
 refine fP Tryz.func63 rfl (Nat.le_of_ble_eq_true rfl) (fun w0 A hf=>?_)
 refine aC (fun K1 hK1=>(aB (aI rfl (bX) (aD (hK1 _ (aC (fun K2 hK2=>(aC (fun K3 hK3=>(aB (aE aA 1 rfl ?_)))))))))))
 refine nD rfl rfl rfl gY (fun b hb1=>?_)
 refine aD (hK3 _ (aO rfl (fun hc2=>?_) (fun hc2=>?_)))
 ·
  have hl0:l=[]:=by simpa using hb1 (by assumption)
  refine aC (fun K4 hK4=>(aB (qS hf 6 rfl rfl rfl (aD (hK4 _ (aM ?_))))))
  exact⟨2,[],by decide,rfl,rfl,by rw[hl0]; rfl⟩
 ·
  refine aR (hK2 _ (aC (fun K5 hK5=>(aB (cR hf rfl rfl rfl cW rfl rfl rfl rfl (l2 rfl) ?_)))))
  refine aE aA 1 rfl (dQ hf rfl cW rfl rfl rfl (.inl rfl) rfl rfl (by first | rfl | simp [iS,bU]) (by first | (simp only[maxLen,List.length_map,List.length_append,List.length_cons,List.length_nil]; omega) | (simp [maxLen] <;> omega)) (by first | (simp only[List.length_map,List.length_append,List.length_cons,List.length_nil]; omega) | (simp <;> omega)) ?_)
  refine cB (iK [7] rfl) (aE aA 1 rfl (aD (hK5 _ (aM ?_))))
  refine⟨5,(l.map evC),by decide,rfl,?_,rfl⟩
  show some (AV.own 5 6 0 (0+(l.map evC).length))=_
  rw[Nat.zero_add]
theorem aCc {g:Nat} {cap:List AV} (hent:∀ args w,(callFunc g args).run Tryz.prog w=.ok (.enter g args) w) (hcl:cleanL (fun _=>false) cap=true) (p:Ev→Bool) (l:List Ev) (hl:l.length≤9223372036854775807) (hp:∀ x∈l,Den Tryz.prog g (.agg (evC x)::cap) (·=.s (.bool (p x)))) :Den Tryz.prog 110 [.sl 6 (l.map evC),.fn g cap]  (·=.s (.int .i64 (oO p l))):=by
 refine aY Tryz.func110 rfl (Nat.le_of_ble_eq_true rfl) (fun w0 A hf=>(aC (fun K1 hK1=>(aB (aE aA 1 rfl (aD (hK1 _ (aC (fun K2 hK2=>(aC (fun K3 hK3=>(aB (aE aA 3 rfl (aD (hK3 _ (aU ?_))))))))))))))))
 refine bW (ι:=Nat) (fun k=>⟨19,[(0,.sl 6 (l.map evC)),(1,.fn g cap),(7,.s (.int .i64 ((l.map evC).length:Nat))),(8,.s (.int .i64 (k:Nat)))],[]⟩) (fun k=>k≤l.length∧∀ (j:Nat) (hj:j<l.length),j<k→p l[j]=false) (fun k=>l.length - k) 0 ?_ ?_ ?_
 · exact⟨by omega,by omega⟩
 · exact cU rfl
 ·
  rintro k hC
  obtain ⟨h1,h2⟩:=hC
  refine aC (fun K4 hK4=>(aB (aE aA 1 rfl (aD (hK4 _ (aC (fun K5 hK5=>(aO rfl (fun hc1=>?_) (fun hc1=>?_)))))))))
  ·
   simp only[bs] at hc1
   refine aR (hK5 _ (aC (fun K6 hK6=>(aU (aC (fun K7 hK7=>(aB (aE aA 2 rfl (aD (hK7 _ (aC (fun K8 hK8=>(aB (aE aA 3 rfl ?_))))))))))))))
   refine aI rfl (bJ rfl rfl gY cY (by first | exact ixm (by omega) | assumption | exact⟨by decide,rfl⟩)) ?_
   refine aE aA 1 rfl (aN hf rfl (aP rfl rfl hent (by rw[fT,hcl]; rfl) (hp _ (List.getElem_mem _))) ?_)
   refine aD (hK8 _ (aO rfl (fun hc2=>?_) (fun hc2=>?_)))
   ·
    refine aC (fun K9 hK9=>(aB (aE aA 2 rfl (aD (hK9 _ (aM ?_))))))
    refine⟨_,rfl,?_⟩
    refine eP ?_
    rw[nG (by omega) h2 (by assumption)]
   ·
    refine aR (hK6 _ (aB ?_))
    refine aI rfl (bQ rfl rfl (by omega) (by omega)) ?_
    refine aE aA 1 rfl (aD ?_)
    exact⟨k+1,⟨by omega,fun j hj hjk=>by
      by_cases e:j=k
      · subst e; simp_all
      · exact h2 j hj (by omega)⟩,by omega,cU rfl⟩
  ·
   simp only[bs] at hc1
   refine bI (hK2 _ (aC (fun K10 hK10=>(aB (aE aA 1 rfl (aD (hK10 _ (aM ?_))))))))
   refine⟨_,rfl,?_⟩
   refine eP ?_
   rw[pF (fun j hj=>h2 j hj (by omega))]
theorem aAm {g:Nat} {cap:List AV} (hent:∀ args w,(callFunc g args).run Tryz.prog w=.ok (.enter g args) w) (hcl:cleanL (fun _=>false) cap=true) (hcv:∀ m,convL m cap=cap) (p:Ev→Bool) (l:List Ev) (n:Nat) (hn:n=l.length) (hl:l.length≤9223372036854775807) (hp:∀ x∈l,Den Tryz.prog g (.agg (evC x)::cap) (·=.s (.bool (p x)))) :DenM Tryz.prog 62 [.own E0 6 0 n,.fn g cap] 6 ((l.map evC)) (fun r ys=>r=.own E0 6 0 (l.filter fun x=>!p x).length∧ys=((l.filter fun x=>!p x).map evC)):=by
 subst hn
 have hq0:∀ j,((l.take j).filter fun x=>!p x).length≤j:=fun j=>gV _ l j
 have hq1:∀ j,((l.take j).filter fun x=>!p x).length≤l.length:=fun j=>gJ _ l j
 refine gK Tryz.func62 rfl (Nat.le_of_ble_eq_true rfl) (fun w0 x0 A hf=>?_)
 refine aC (fun K1 hK1=>(aB (aI rfl (bX) (aD (hK1 _ (aC (fun K2 hK2=>(aB (aE aA 2 rfl (aN hf rfl (qW rfl rfl (by show [AV.conv _ _,AV.fn g (convL _ cap)]=_; rw[hcv,cL (g:=E0) rfl (by simp)]) aNm (aCc hent hcl p l hl hp) rfl) ?_))))))))))
 refine aE aA 1 rfl (aD (hK2 _ (aC (fun K3 hK3=>(aC (fun K4 hK4=>(aB (aE aA 2 rfl (aD (hK4 _ (aO rfl (fun hc1=>?_) (fun hc1=>?_))))))))))))
 ·
  simp only[bs] at hc1
  refine aC (fun K5 hK5=>(aB (aE aA 2 rfl (aD (hK5 _ (aM ?_))))))
  have hno:oO p l=-1:=by simpa using hc1
  rcases eE p l with ⟨_,hn⟩ | ⟨k,hk,e,_⟩
  · exact⟨_,.own E0 6 0 l.length,(l.map evC),Le.refl _,rfl,rfl,by rw[fS p l hn],by rw[fS p l hn]⟩
  · exfalso; omega
 ·
  simp only[bs] at hc1
  refine aR (hK3 _ (aC (fun K6 hK6=>(aC (fun K7 hK7=>(aB ?_))))))
  rcases eE p l with ⟨e0,_⟩ | ⟨k0,hk0,ek0,hpk0,hbef⟩
  · exact absurd e0 (by simpa using hc1)
  have hst:=kT (fun x=>!p x) l k0 hk0 (fun j hj hjk=>by simp [hbef j hj hjk]) (by simp [hpk0])
  rw[ek0]
  refine aE aA 1 rfl ?_
  refine aI rfl (bQ rfl rfl (by omega) (by omega)) ?_
  refine aE aA 1 rfl (aD (hK7 _ (aU (bW (ι:=Nat) (fun j=>⟨42,[(0,.own E0 6 0 l.length),(1,.fn g cap),(5,.s (.int .i64 (((l.take j).filter fun x=>!p x).length:Nat))),(6,.s (.int .i64 (j:Nat)))],[(E0,.buf 6 ((iR (fun x=>!p x) l j).map evC))]⟩) (fun j=>j≤l.length) (fun j=>l.length - j) (k0+1) ?_ ?_ ?_))))
  · exact hk0
  · rw[hst.1,hst.2]; exact jU ⟨rfl,rfl,rfl,rfl,trivial⟩
  ·
   rintro j hC
   let q:=fun x=>!p x
   have hle:((l.take j).filter q).length≤j:=hq0 j
   have hle2:((l.take j).filter fun x=>!p x).length≤j:=hq0 j
   refine aC (fun K8 hK8=>(aC (fun K9 hK9=>(aB (aE aA 4 rfl (aD (hK9 _ (aO rfl (fun hc2=>?_) (fun hc2=>?_)))))))))
   ·
    simp only[bs] at hc2
    refine aR (hK8 _ (aC (fun K10 hK10=>(aU (aC (fun K11 hK11=>(aB (aE aA 2 rfl ?_))))))))
    refine aI rfl (cF rfl rfl gY cY (by omega)) ?_
    refine aI rfl (cD rfl iD cY rfl (qZ (c:=6) (k:=j) (enc:=evC) (by omega) (by rw[eF]; omega) rfl) (cs':=evC l[j]) (by rw[oD (c:=6) (k:=j) (enc:=evC) (by omega) (by rw[eF]; omega) rfl,pG q l j j (by omega) hle])) ?_
    refine cC hf rfl gD rfl cY rfl rfl rfl rfl (lf rfl) (aD (hK11 _ (aC (fun K12 hK12=>(aB (aE aA 2 rfl (aN hf rfl (aP rfl rfl hent (by rw[fT,hcl]; rfl) (hp _ (List.getElem_mem _))) ?_)))))))
    refine aE aA 1 rfl (aD (hK12 _ (aO rfl (fun hc3=>?_) (fun hc3=>?_))))
    ·
     simp only[bs] at hc3
     refine aC (fun K13 hK13=>(aB (aE aA 3 rfl ?_)))
     refine aI rfl (cF rfl rfl gY cY (by omega)) ?_
     refine bD hf rfl rfl cY rfl rfl (by simp [evC,AV.cells,AV.one,Value.oneCell',splice]) (by simp [evC,AV.cells,AV.leaf,Value.oneCell',splice]) (hU (c:=6) (k:=((l.take j).filter fun x=>!p x).length) (enc:=evC) (v:=l[j]) (by omega) (by rw[eF]; omega) rfl (Nat.le_refl _)) ?_
     refine aD (hK13 _ (aB ?_))
     rw[jJ (fun x=>!p x) l j (by omega) (by simp_all)]
     refine aE aA 1 rfl ?_
     refine aI rfl (bQ rfl rfl (by omega) (by omega)) ?_
     rw[lW (fun x=>!p x) l j (by omega) (by simp_all)]
     refine aE aA 1 rfl ?_
     refine bV ?_
     refine hK10 _ (aB (aE aA 1 rfl ?_))
     refine aI rfl (bQ rfl rfl (by omega) (by omega)) ?_
     refine aE aA 1 rfl (aD ?_)
     exact⟨j+1,(by omega),by omega,cU rfl⟩
    ·
     simp only[bs] at hc3
     rw[jK (fun x=>!p x) l j (by omega) (by simp_all),lX (fun x=>!p x) l j (by omega) (by simp_all)]
     refine aR (hK10 _ (aB (aE aA 1 rfl ?_)))
     refine aI rfl (bQ rfl rfl (by omega) (by omega)) ?_
     refine aE aA 1 rfl (aD ?_)
     exact⟨j+1,(by omega),by omega,cU rfl⟩
   ·
    simp only[bs] at hc2
    refine bI (hK6 _ (aC (fun K14 hK14=>(aB (aE aA 2 rfl ?_)))))
    refine aI rfl (eJ rfl gY cY rfl rfl (by omega) (by omega)) ?_
    refine vN hf cW gD (by simp [Value.oneCell']) rfl rfl ?_
    refine aD (hK14 _ (aC (fun K15 hK15=>(aB (aE aA 2 rfl ?_)))))
    refine aI rfl (eJ rfl gY cY rfl rfl (by omega) (by omega)) ?_
    refine aE aA 1 rfl (aD (hK15 _ (aM ?_)))
    have hjl:l.length≤j:=by omega
    have he:=nJ (fun x=>!p x) l j hjl
    refine⟨_,_,_,Le.refl _,rfl,rfl,?_,?_⟩
    · rw[List.take_of_length_le hjl]; rfl
    · rw[List.take_of_length_le hjl,Nat.zero_add,Int.toNat_natCast,← List.map_take,he]
theorem aRx (e:Ev) (u:ByteArray) :Den Tryz.prog 65 [.agg (evC e),.s (.string u)]  (·=.s (.bool (rF u e))):=by
 refine aY Tryz.func65 rfl (Nat.le_of_ble_eq_true rfl) (fun w0 A hf=>(aC (fun K1 hK1=>(aB (aN hf rfl (cS rfl rfl (lf rfl)) (aE aA 1 rfl (aD (hK1 _ (aC (fun K2 hK2=>(aB (aE aA 5 rfl (bA rfl rfl rfl (fun hg1=>?_) (fun hg1=>?_))))))))))))))
 ·
  simp only[bs] at hg1
  refine aI rfl (bM rfl vC cT rfl) ?_
  refine aE aA 5 rfl (aD (hK2 _ (aM ?_)))
  refine⟨_,rfl,?_⟩
  refine aQ ?_
  rw[Bool.eq_iff_iff]
  simp_all[rF,toList_inj]
 ·
  simp only[bs] at hg1
  refine aE aA 5 rfl (aD (hK2 _ (aM ?_)))
  refine⟨_,rfl,?_⟩
  refine aQ ?_
  rw[Bool.eq_iff_iff]
  simp_all[rF,toList_inj]
theorem aB2 (e:Ev) (u:ByteArray) :Den Tryz.prog 64 [.agg (evC e),.adr [.s (.string u)]]  (·=.s (.bool (rF u e))):=by
 refine aY Tryz.func64 rfl (Nat.le_of_ble_eq_true rfl) (fun w0 A hf=>(aC (fun K1 hK1=>(aB (aN hf rfl (cS rfl rfl (lf rfl)) (aE aA 1 rfl (aD (hK1 _ (aC (fun K2 hK2=>(aB (aE aA 2 rfl (aN hf rfl (aP rfl rfl aPe rfl (aRx e u)) (aE aA 1 rfl (aD ?_)))))))))))))))
 refine hK2 _ (aM ?_)
 refine⟨_,rfl,?_⟩
 rfl
theorem lB (l:List Ev) (u:ByteArray) (hl:l.length≤1000) :Den Tryz.prog 26 [.s (.string u),.sl 6 (l.map evC)]  (·=.sl 6 ((aW u l).map evC)):=by
 refine aY Tryz.func26 rfl (Nat.le_of_ble_eq_true rfl) (fun w0 A hf=>(aC (fun K1 hK1=>(aB (aN hf rfl (cS rfl rfl (lf rfl)) (aI rfl (bX) (aD (hK1 _ (aC (fun K2 hK2=>(aB (aE aA 1 rfl (gP hf rfl rfl rfl rfl rfl aPg rfl (aK1 l (by omega)) ?_)))))))))))))
 rintro _ rfl
 refine aI rfl (eK rfl) (gE hf 6 rfl rfl rfl rfl rfl aPh (aAm aPf rfl (fun _=>rfl) (rF u) l _ (by rw[List.length_map]) (by omega) (fun x _=>aB2 x u)) ?_)
 rintro r zs ⟨rfl,rfl⟩
 refine aE aA 1 rfl (aD (hK2 _ (aM ?_)))
 refine⟨_,rfl,?_⟩
 exact cL (g:=6) rfl (by rw[List.length_map]; rfl)
theorem aKi (a b:Ev) :Den Tryz.prog 56 [.agg (evC a),.agg (evC b)]  (·=.s (.int .i64 (kU a.at' b.at'))):=by
 refine aY Tryz.func56 rfl (Nat.le_of_ble_eq_true rfl) (fun w0 A hf=>(aC (fun K1 hK1=>(aB (aN hf rfl (cS rfl rfl (lf rfl)) (aN hf rfl (cS rfl rfl (lf rfl)) (aE aA 1 rfl (aD (hK1 _ (aC (fun K2 hK2=>(aB (aE aA 4 rfl (aN hf rfl (aP rfl rfl nN rfl (iV a.at' b.at')) (aE aA 1 rfl ?_)))))))))))))))
 refine aD (hK2 _ (aM ?_))
 refine⟨_,rfl,?_⟩
 rfl
theorem aG0 {x:Ev} {l:List Ev} {k:Nat} (hk:k<l.length):tS (l.take (k+1)) x=if (tS (l.take k) x).at'<l[k].at' then l[k] else tS (l.take k) x:=by
  rw[List.take_succ_eq_append_getElem hk]
  have:∀ (a:List Ev) (m y:Ev),tS (a++[y]) m=if (tS a m).at'<y.at' then y else tS a m:=fun a=>by
    induction a with
    | nil=>intro m y; rfl
    | cons z a ih=>intro m y; exact ih _ y
  exact this _ _ _
theorem aLe {a b:Int}:0<kU a b↔b<a:=by unfold kU; split <;> (try split) <;> omega
theorem aRl (x:Ev) (r:List Ev) (hl:r.length≤1000) :Den Tryz.prog 55 [.sl 6 ((x::r).map evC),.fn 56 []]  (·=.agg (evC (tS r x))):=by
 have hlx:((x::r).map evC).length=r.length+1:=by simp
 refine aY Tryz.func55 rfl (Nat.le_of_ble_eq_true rfl) (fun w0 A hf=>(aC (fun K1 hK1=>(aB (aZ hf rfl rfl rfl gD (aD (hK1 _ (aC (fun K2 hK2=>(aC (fun K3 hK3=>(aB (aE aA 3 rfl (aD (hK3 _ (aO rfl (fun hc1=>?_) (fun hc1=>?_)))))))))))))))))
 ·
  simp only[bs] at hc1
  omega
 ·
  simp only[bs] at hc1
  refine aR (hK2 _ (aC (fun K4 hK4=>(aB (aE aA 1 rfl ?_)))))
  refine aI rfl (bJ rfl rfl gY cY (by first | exact ixm (by omega) | assumption | exact⟨by decide,rfl⟩)) ?_
  refine aE aA 1 rfl (aZ hf rfl rfl rfl gD (bD hf rfl rfl cY rfl rfl (l1 rfl) (l4 rfl) rfl (aD (hK4 _ (aC (fun K5 hK5=>(aC (fun K6 hK6=>(aB (aE aA 1 rfl (aD (hK6 _ (aU (bW (ι:=Nat) (fun k=>⟨33,[(0,.sl 6 ((x::r).map evC)),(1,.fn 56 []),(4,.ref 4 0 0 0),(5,.ref 5 0 0 0),(6,.s (.int .i64 ((k+1:Nat))))],[(5,.box (evC (tS (r.take k) x))),(4,.box (evC ev0))]⟩) (fun k=>k≤r.length) (fun k=>r.length - k) 0 ?_ ?_ ?_))))))))))))))
  · exact Nat.zero_le _
  · exact cN ⟨rfl,rfl,rfl,rfl,rfl,trivial⟩ rfl
  ·
   rintro k hC
   refine aC (fun K7 hK7=>(aC (fun K8 hK8=>(aB (aE aA 4 rfl (aD (hK8 _ (aO rfl (fun hc2=>?_) (fun hc2=>?_)))))))))
   ·
    simp only[bs] at hc2
    have hk:k<r.length:=by omega
    have hk1:k+1<(x::r).length:=by simp only[List.length_cons]; omega
    refine aR (hK7 _ (aC (fun K9 hK9=>(aU (aC (fun K10 hK10=>(dE hf bK (by kernel_rfl) rfl (bC aA 3 rfl (bN [(21,_),(22,_)] rfl rfl ⟨⟨rfl,rfl⟩,⟨rfl,rfl⟩,trivial⟩ rfl (bJ rfl rfl gY cY (aTr hk)) (bC aA 2 rfl (bT [(20,_),(24,_),(25,_)] rfl rfl ⟨⟨rfl,rfl⟩,⟨rfl,rfl⟩,⟨rfl,rfl⟩,trivial⟩ rfl (aP rfl rfl aPi rfl (aKi r[k] (tS (r.take k) x))) (bC aA 1 rfl (dC [0,1,4,5,6,27] rfl rfl rfl (hK10 _ ?_))))))))))))))
    refine aO rfl (fun hc3=>?_) (fun hc3=>?_)
    ·
     simp only[bs] at hc3
     refine aB (aE aA 2 rfl (aI rfl (bJ rfl rfl gY cY (aTr hk)) (aE aA 1 rfl (bD hf rfl rfl cY rfl rfl (l1 rfl) (l4 rfl) rfl ?_))))
     refine bV ?_
     refine hK9 _ (aB (aE aA 1 rfl ?_))
     refine aI rfl (bQ rfl rfl (by omega) (by omega)) ?_
     refine aE aA 1 rfl (aD ?_)
     exact⟨k+1,by omega,by omega,cN ⟨rfl,rfl,rfl,rfl,aT (by omega),trivial⟩ (by rw[aG0 hk,if_pos (aLe.1 (by assumption))]; rfl)⟩
    ·
     simp only[bs] at hc3
     refine aR (hK9 _ (aB (aE aA 1 rfl ?_)))
     refine aI rfl (bQ rfl rfl (by omega) (by omega)) ?_
     refine aE aA 1 rfl (aD ?_)
     exact⟨k+1,by omega,by omega,cN ⟨rfl,rfl,rfl,rfl,aT (by omega),trivial⟩ (by rw[aG0 hk,if_neg (fun h=>by have:=aLe.2 h; omega)])⟩
   ·
    simp only[bs] at hc2
    refine bI (hK5 _ (aC (fun K11 hK11=>(aB (aE aA 1 rfl (bD hf rfl rfl cY rfl rfl (l1 rfl) (l4 rfl) rfl (aD (hK11 _ (aM ?_)))))))))
    refine⟨_,rfl,?_⟩
    show AV.agg (evC _)=_
    rw[List.take_of_length_le (by omega)]
end Go.Proofs.YtijnkglkchhomaaGreat
set_option linter.unusedVariables false
set_option linter.unusedSimpArgs false
namespace Go.Proofs.YtijnkglkchhomaaGreat
open Go Go.Abs
theorem aeq_ev (e:Ev):aeqL [.int .i64,.int .i64,.str,.str,.int .i64,.int .i64] (evC e) (evC e)=some (true,[],[]):=by
  refine Eq.trans (show _=some ((e.kind == e.kind&&(e.at' == e.at'&&(e.user.toList == e.user.toList&&(e.other.toList == e.other.toList&&(e.n == e.n&&(e.st == e.st&&true)))))),[],[]) from rfl) ?_
  simp only[beq_self_eq_true,Bool.and_true]
end Go.Proofs.YtijnkglkchhomaaGreat
set_option linter.unusedVariables false
set_option linter.unusedSimpArgs false
namespace Go.Proofs.YtijnkglkchhomaaGreat
open Go Go.Abs
theorem dA (l:List Ev) (hl:l.length*64+64≤140737488355328) :Den Tryz.prog 14 [.sl 6 (l.map evC)]  (·=.sl 6 (l.map evC)):=by
 refine aY Tryz.func14 rfl (Nat.le_of_ble_eq_true rfl) (fun w0 A hf=>(aC (fun K1 hK1=>(aB (aI rfl (bX) (aD (hK1 _ (aC (fun K2 hK2=>(aB (qS hf 6 rfl rfl rfl (aD (hK2 _ (aC (fun K3 hK3=>(aC (fun K4 hK4=>?_)))))))))))))))))
 refine aB (aE aA 3 rfl (aD (hK4 _ (aU (bW (ι:=Nat) (fun k=>⟨18,[(3,.own 3 6 0 (l.take k).length),(6,.sl 6 (l.map evC)),(7,.s (.int .i64 ((l.map evC).length:Nat))),(8,.s (.int .i64 (k:Nat)))],[(3,.buf 6 ((l.take k).map evC))]⟩) (fun k=>k≤l.length) (fun k=>l.length - k) 0 ?_ ?_ ?_)))))
 · exact Nat.zero_le _
 · exact cU rfl
 ·
  rintro k hC
  refine aC (fun K5 hK5=>(aB (aE aA 1 rfl (aD (hK5 _ (aC (fun K6 hK6=>(aO rfl (fun hc1=>?_) (fun hc1=>?_)))))))))
  ·
   simp only[bs] at hc1
   refine aR (hK6 _ (aC (fun K7 hK7=>(aU (aC (fun K8 hK8=>(aB ?_)))))))
   refine aI rfl (bJ rfl rfl aUg aNo (by first | exact ixm (by omega) | assumption | exact⟨by decide,rfl⟩)) ?_
   refine aE aA 1 rfl (cC hf rfl aUe rfl aNo rfl rfl rfl rfl (lf rfl) (aD (hK8 _ (aB ?_))))
   have htl:(l.take k).length=k:=by rw[List.length_take]; omega
   refine aE aA 2 rfl (aN hf rfl (bR cW rfl rfl rfl rfl (l2 rfl)) (dQ hf rfl cW rfl rfl rfl (.inl rfl) (by rw[List.length_map]) rfl (by first | rfl | simp [iS,bU]) (by first | (simp only[maxLen,List.length_map,List.length_append,List.length_cons,List.length_nil]; omega) | (simp [maxLen] <;> omega)) (by first | (simp only[List.length_map,List.length_append,List.length_cons,List.length_nil]; omega) | (simp <;> omega)) ?_))
   refine cB (iK [6,7,8,15] rfl) (aE aA 1 rfl ?_)
   refine bV ?_
   refine hK7 _ (aB ?_)
   refine aI rfl (bQ rfl rfl (by omega) (by omega)) ?_
   refine aE aA 1 rfl (aD ?_)
   exact⟨k+1,by omega,by omega,cN ⟨(by rw[pB l k (by omega)]; rfl),rfl,rfl,rfl,trivial⟩ (by rw[pM l evC k (by omega)]; rfl)⟩
  ·
   simp only[bs] at hc1
   refine bI (hK3 _ (aC (fun K9 hK9=>(aB (aE aA 2 rfl (aD (hK9 _ (aM ?_))))))))
   refine⟨_,rfl,?_⟩
   refine(cL (g:=3) rfl (by rw[List.length_map])).trans ?_
   rw[List.take_of_length_le (by omega)]
theorem aRb (s:Sta) (hz:SzS 140737488353280 s) :Den Tryz.prog 16 [.agg (aL s)]  (·=.agg (aL s)):=by
 have z1:=hz.o
 have z2:=hz.u
 have z3:=hz.b
 have z4:=hz.t
 have hlm:(s.usr.map usC).length=s.usr.length:=List.length_map _
 have hlt:(s.tmb.map tmC).length=s.tmb.length:=List.length_map _
 refine aY Tryz.func16 rfl (Nat.le_of_ble_eq_true rfl) (fun w0 A hf=>(aC (fun K1 hK1=>(aB (aN hf rfl (cS rfl rfl (lf rfl)) (aZ hf rfl rfl rfl aX (aD (hK1 _ (aC (fun K2 hK2=>(dK bK ?_)))))))))))
 refine bY (listed':=#[true,false,false,false,false,false,false,false,false,false,false,false,false]) 0 rfl (by kernel_rfl) (by kernel_rfl) (by kernel_rfl) rfl (fun _ _ h=>h) (lQ rfl aBl cP rfl) ?_
 refine bY (listed':=#[true,false,true,false,false,false,false,false,false,false,false,false,false]) 2 rfl (by kernel_rfl) (by kernel_rfl) (by kernel_rfl) rfl (fun _ _ h=>h) (lQ rfl vE cP rfl) ?_
 refine bY (listed':=#[true,false,true,false,true,false,false,false,false,false,false,false,false]) 4 rfl (by kernel_rfl) (by kernel_rfl) (by kernel_rfl) rfl (fun _ _ h=>h) (lQ rfl aBk aNr rfl) ?_
 refine bY (listed':=#[true,false,true,false,true,false,false,true,false,false,false,false,false]) 7 rfl (by kernel_rfl) (by kernel_rfl) (by kernel_rfl) rfl (fun _ _ h=>h) (lQ rfl aBj aNq rfl) ?_
 refine aK 0 #[true,true,true,true,true,true,true,true,true,true,true,true,true] ⟨53,[(1,.adr (aL s)),(2,.ref 2 0 0 0),(3,.ref 3 0 0 0)],[(3,.box [.s (.int .i64 s.now),.s (.int .i64 s.hor),.sl 4 (s.opn.map seC),.s (.slice none 0 0),.sl 4 (s.sub.map enC),.s (.slice none 0 0)]),(2,.box [.s (.int .i64 0),.s (.int .i64 0),.s (.slice none 0 0),.s (.slice none 0 0),.s (.slice none 0 0),.s (.slice none 0 0)])]⟩ ?_ (fun hD0=>?_)
 ·
  refine dF (by kernel_rfl) ?_
  refine hK2 _ (aC (fun K3 hK3=>(aC (fun K4 hK4=>(aB (aBc hf 3 223 2 5 rfl rfl rfl rfl ?_))))))
  refine aBc hf 3 222 2 3 rfl rfl rfl rfl ?_
  refine aE aA 4 rfl (aD (hK4 _ (aU (bW (ι:=Nat) (fun k=>⟨53,[(1,.adr (aL s)),(2,.ref 2 0 0 0),(3,.ref 3 0 0 0),(20,.sl 2 (s.usr.map usC)),(21,.s (.int .i64 ((s.usr.map usC).length:Nat))),(22,.s (.int .i64 (k:Nat)))],[(222,.buf 2 ((s.usr.take k).map usC)),(223,.buf 2 []),(3,.box [.s (.int .i64 s.now),.s (.int .i64 s.hor),.sl 4 (s.opn.map seC),.own 222 2 0 (s.usr.take k).length,.sl 4 (s.sub.map enC),.own 223 2 0 0]),(2,.box [.s (.int .i64 0),.s (.int .i64 0),.s (.slice none 0 0),.s (.slice none 0 0),.s (.slice none 0 0),.s (.slice none 0 0)])]⟩) (fun k=>k≤s.usr.length) (fun k=>s.usr.length - k) 0 ?_ ?_ ?_))))
  · exact Nat.zero_le _
  · exact cN ⟨rfl,rfl,rfl,rfl,rfl,rfl,trivial⟩ rfl
  ·
   rintro k hC
   refine aC (fun K5 hK5=>(aB (aE aA 1 rfl (aD (hK5 _ (aC (fun K6 hK6=>(aO rfl (fun hc1=>?_) (fun hc1=>?_)))))))))
   ·
    simp only[bs] at hc1
    refine aR (hK6 _ (aC (fun K7 hK7=>(aU (aC (fun K8 hK8=>(aB ?_)))))))
    have hk:k<s.usr.length:=by omega
    have htl:(s.usr.take k).length=k:=by rw[List.length_take]; omega
    refine aI rfl (bJ rfl rfl zJ sL (by first | exact ixm (by omega) | assumption | exact⟨by decide,rfl⟩)) ?_
    refine aE aA 1 rfl (cC hf rfl aLo rfl sL rfl rfl rfl rfl (lf rfl) (aD (hK8 _ (kV hf (L:=#[true,true,true,true,true,true,true,true,true,false,false,false]) 9 3 bK (by kernel_rfl) rfl (by kernel_rfl) rfl ?_))))
    refine bC aA 6 rfl (bT [(31,_)] rfl rfl ⟨⟨rfl,rfl⟩,trivial⟩ rfl (aP rfl rfl aPk rfl (aRa s.usr[k].2 (by have:=hz.y _ (List.getElem_mem hk); omega))) ?_)
    refine bN [(29,_),(32,_)] rfl rfl ⟨⟨rfl,rfl⟩,⟨rfl,rfl⟩,trivial⟩ rfl (dD rfl jM xQ (l3 rfl) rfl) (bT [(33,_)] rfl rfl ⟨⟨rfl,rfl⟩,trivial⟩ rfl (bR jP rfl rfl rfl rfl (l2 rfl)) (aAc [1,2,3,20,21,22,27,34] rfl rfl rfl ?_))
    refine aH 9 [] (by kernel_rfl) ⟨?_,trivial⟩
    ·
     refine⟨_,rfl,rfl,(ao rfl (dQ hf rfl jP rfl rfl rfl (.inl rfl) (by rw[List.length_map]) rfl (by first | rfl | simp [iS,bU]) (by first | (simp only[maxLen,List.length_map,List.length_append,List.length_cons,List.length_nil]; omega) | (simp [maxLen] <;> omega)) (by first | (simp only[List.length_map,List.length_append,List.length_cons,List.length_nil]; omega) | (simp <;> omega)) ?_))⟩
     refine cB (iK [1,2,3,20,21,22,35] rfl) (aF (aH 10 [] (by kernel_rfl) ⟨?_,trivial⟩))
     ·
      refine⟨_,rfl,rfl,(ao rfl (aE aA 1 rfl (aF (aH 11 [] (by kernel_rfl) ⟨?_,trivial⟩))))⟩
      ·
       refine⟨_,rfl,rfl,(ao rfl (bD hf rfl rfl mZ rfl rfl (l1 rfl) (l4 rfl) rfl (aF (dF (by kernel_rfl) ?_))))⟩
       refine hK7 _ (aB ?_)
       refine aI rfl (bQ rfl rfl (by omega) (by omega)) ?_
       refine aE aA 1 rfl (aD ?_)
       exact⟨k+1,by omega,by omega,cN ⟨rfl,rfl,rfl,rfl,rfl,rfl,trivial⟩ (by rw[pM s.usr usC k hk,pB s.usr k hk]; rfl)⟩
   ·
    simp only[bs] at hc1
    refine bI (hK3 _ (aC (fun K9 hK9=>(aC (fun K10 hK10=>(aB (aE aA 4 rfl (aD (hK10 _ (aU (bW (ι:=Nat) (fun q=>⟨53,[(2,.ref 2 0 0 0),(3,.ref 3 0 0 0),(39,.sl 2 (s.tmb.map tmC)),(40,.s (.int .i64 ((s.tmb.map tmC).length:Nat))),(41,.s (.int .i64 (q:Nat)))],[(223,.buf 2 ((s.tmb.take q).map tmC)),(222,.buf 2 (s.usr.map usC)),(3,.box [.s (.int .i64 s.now),.s (.int .i64 s.hor),.sl 4 (s.opn.map seC),.own 222 2 0 s.usr.length,.sl 4 (s.sub.map enC),.own 223 2 0 (s.tmb.take q).length]),(2,.box [.s (.int .i64 0),.s (.int .i64 0),.s (.slice none 0 0),.s (.slice none 0 0),.s (.slice none 0 0),.s (.slice none 0 0)])]⟩) (fun q=>q≤s.tmb.length) (fun q=>s.tmb.length - q) 0 ?_ ?_ ?_)))))))))))
    · exact Nat.zero_le _
    · exact aTl ⟨rfl,rfl,rfl,rfl,rfl,trivial⟩ (fun g=>by rw[List.take_of_length_le (show s.usr.length≤k by omega)]; exact aRc (by decide))
    ·
     rintro q hC
     refine aC (fun K11 hK11=>(aB (aE aA 1 rfl (aD (hK11 _ (aC (fun K12 hK12=>(aO rfl (fun hc2=>?_) (fun hc2=>?_)))))))))
     ·
      simp only[bs] at hc2
      refine aR (hK12 _ (aC (fun K13 hK13=>(aU (aC (fun K14 hK14=>(aB ?_)))))))
      have hq:q<s.tmb.length:=by omega
      have htl:(s.tmb.take q).length=q:=by rw[List.length_take]; omega
      refine aI rfl (bJ rfl rfl aFi sM (by first | exact ixm (by omega) | assumption | exact⟨by decide,rfl⟩)) ?_
      refine aE aA 1 rfl (cC hf rfl aHe rfl sM rfl rfl rfl rfl (lf rfl) (aD (hK14 _ (aB (aE aA 3 rfl (aN hf rfl (bR kX rfl rfl rfl rfl (l2 rfl)) (dQ hf rfl kX rfl rfl rfl (.inl rfl) (by rw[List.length_map]) rfl (by first | rfl | simp [iS,bU]) (by first | (simp only[maxLen,List.length_map,List.length_append,List.length_cons,List.length_nil]; omega) | (simp [maxLen] <;> omega)) (by first | (simp only[List.length_map,List.length_append,List.length_cons,List.length_nil]; omega) | (simp <;> omega)) ?_)))))))
      refine cB (iK [2,3,39,40,41,49] rfl) (aE aA 1 rfl (bD hf rfl rfl qP rfl rfl (l1 rfl) (l4 rfl) rfl ?_))
      refine bV ?_
      refine hK13 _ (aB ?_)
      refine aI rfl (bQ rfl rfl (by omega) (by omega)) ?_
      refine aE aA 1 rfl (aD ?_)
      exact⟨q+1,by omega,by omega,cN ⟨rfl,rfl,rfl,rfl,rfl,trivial⟩ (by rw[pM s.tmb tmC q hq,pB s.tmb q hq]; rfl)⟩
     ·
      simp only[bs] at hc2
      refine bI (hK9 _ (aC (fun K15 hK15=>(aB (aI rfl (cD (cs':=[.s (.int .i64 s.now),.s (.int .i64 s.hor),.sl 4 (s.opn.map seC),.own 222 2 0 s.usr.length,.sl 4 (s.sub.map enC),.own 223 2 0 (s.tmb.take q).length]) rfl jH bS rfl rfl rfl) (bD hf rfl rfl bS rfl rfl (l1 rfl) (l4 rfl) rfl (aD (hK15 _ (aM ?_)))))))))
      refine⟨_,rfl,?_⟩
      show AV.agg [_,_,_,AV.conv _ (.own 222 2 0 s.usr.length),_,AV.conv _ (.own 223 2 0 (s.tmb.take q).length)]=_
      rw[cL (g:=222) rfl (by rw[List.length_map]),cL (g:=223) rfl (by rw[List.length_map]),List.take_of_length_le (by omega)]; rfl
 refine aK 1 #[true,true,true,true,true,true,true,true,true,true,true,true,false] ⟨53,[(1,.adr (aL s)),(2,.ref 2 0 0 0),(3,.ref 3 0 0 0),(18,.agg [.s (.int .i64 s.now),.s (.int .i64 s.hor),.sl 4 (s.opn.map seC),.s (.slice none 0 0),.sl 4 (s.sub.map enC),.s (.slice none 0 0)])],[(3,.box [.s (.int .i64 0),.s (.int .i64 0),.s (.slice none 0 0),.s (.slice none 0 0),.s (.slice none 0 0),.s (.slice none 0 0)]),(2,.box [.s (.int .i64 0),.s (.int .i64 0),.s (.slice none 0 0),.s (.slice none 0 0),.s (.slice none 0 0),.s (.slice none 0 0)])]⟩ ?_ (fun hD1=>?_)
 ·
  refine aH 12 [] (by kernel_rfl) ⟨?_,trivial⟩
  ·
   refine⟨_,rfl,rfl,(ao rfl (bD hf rfl rfl bS rfl rfl (l1 rfl) (l4 rfl) rfl (aF (ag hD0 rfl rfl rfl))))⟩
 refine aK 2 #[true,true,true,true,true,true,true,true,true,true,true,false,false] ⟨53,[(1,.adr (aL s)),(2,.ref 2 0 0 0),(18,.agg [.s (.int .i64 s.now),.s (.int .i64 s.hor),.sl 4 (s.opn.map seC),.s (.slice none 0 0),.sl 4 (s.sub.map enC),.s (.slice none 0 0)])],[(2,.box [.s (.int .i64 0),.s (.int .i64 0),.s (.slice none 0 0),.s (.slice none 0 0),.s (.slice none 0 0),.s (.slice none 0 0)])]⟩ ?_ (fun hD2=>?_)
 ·
  refine aH 11 [] (by kernel_rfl) ⟨?_,trivial⟩
  ·
   refine⟨_,rfl,rfl,(ao rfl (aZ hf rfl rfl rfl aX (aF (ag hD1 rfl rfl rfl))))⟩
 refine aK 2 #[true,true,true,true,true,true,true,true,true,true,false,true,false] ⟨53,[(1,.adr (aL s)),(2,.ref 2 0 0 0),(3,.ref 3 0 0 0),(9,.s (.int .i64 s.now)),(11,.s (.int .i64 s.hor)),(14,.sl 4 (s.opn.map seC)),(17,.sl 4 (s.sub.map enC))],[(3,.box [.s (.int .i64 0),.s (.int .i64 0),.s (.slice none 0 0),.s (.slice none 0 0),.s (.slice none 0 0),.s (.slice none 0 0)]),(2,.box [.s (.int .i64 0),.s (.int .i64 0),.s (.slice none 0 0),.s (.slice none 0 0),.s (.slice none 0 0),.s (.slice none 0 0)])]⟩ ?_ (fun hD3=>?_)
 ·
  refine aH 10 [] (by kernel_rfl) ⟨?_,trivial⟩
  ·
   refine⟨_,rfl,rfl,(ao rfl (aI rfl (dD rfl aX kW (l3 rfl) rfl) (aF (ag hD1 rfl rfl rfl))))⟩
 refine aK 3 #[true,true,true,true,true,true,true,true,true,true,false,false,false] ⟨53,[(1,.adr (aL s)),(2,.ref 2 0 0 0),(9,.s (.int .i64 s.now)),(11,.s (.int .i64 s.hor)),(14,.sl 4 (s.opn.map seC)),(17,.sl 4 (s.sub.map enC))],[(2,.box [.s (.int .i64 0),.s (.int .i64 0),.s (.slice none 0 0),.s (.slice none 0 0),.s (.slice none 0 0),.s (.slice none 0 0)])]⟩ ?_ (fun hD4=>?_)
 ·
  refine aH 10 [11] (by kernel_rfl) ⟨?_,?_,trivial⟩
  ·
   refine⟨_,rfl,rfl,(ao rfl (aI rfl (dD rfl aX kW (l3 rfl) rfl) (aF (ag hD2 rfl rfl rfl))))⟩
  ·
   refine⟨_,rfl,rfl,(ao rfl (aZ hf rfl rfl rfl aX (aF (ag hD3 rfl rfl rfl))))⟩
 refine aK 3 #[true,true,true,true,true,true,true,true,true,false,false,true,false] ⟨53,[(1,.adr (aL s)),(2,.ref 2 0 0 0),(3,.ref 3 0 0 0),(9,.s (.int .i64 s.now)),(11,.s (.int .i64 s.hor)),(14,.sl 4 (s.opn.map seC)),(16,.sl 4 (s.sub.map enC))],[(3,.box [.s (.int .i64 0),.s (.int .i64 0),.s (.slice none 0 0),.s (.slice none 0 0),.s (.slice none 0 0),.s (.slice none 0 0)]),(2,.box [.s (.int .i64 0),.s (.int .i64 0),.s (.slice none 0 0),.s (.slice none 0 0),.s (.slice none 0 0),.s (.slice none 0 0)])]⟩ ?_ (fun hD5=>?_)
 ·
  refine aH 9 [] (by kernel_rfl) ⟨?_,trivial⟩
  ·
   refine⟨_,rfl,rfl,(ao rfl (aN hf rfl (aP rfl rfl kK rfl (lT s.sub (by omega))) (aF (ag hD3 rfl rfl rfl))))⟩
 refine aK 3 #[true,true,true,false,true,true,true,true,true,true,false,true,false] ⟨53,[(1,.adr (aL s)),(2,.ref 2 0 0 0),(3,.ref 3 0 0 0),(9,.s (.int .i64 s.now)),(10,.adr ((aL s).drop 1)),(14,.sl 4 (s.opn.map seC)),(17,.sl 4 (s.sub.map enC))],[(3,.box [.s (.int .i64 0),.s (.int .i64 0),.s (.slice none 0 0),.s (.slice none 0 0),.s (.slice none 0 0),.s (.slice none 0 0)]),(2,.box [.s (.int .i64 0),.s (.int .i64 0),.s (.slice none 0 0),.s (.slice none 0 0),.s (.slice none 0 0),.s (.slice none 0 0)])]⟩ ?_ (fun hD6=>?_)
 ·
  refine aH 3 [] (by kernel_rfl) ⟨?_,trivial⟩
  ·
   refine⟨_,rfl,rfl,(ao rfl (aE aA 1 rfl (aF (ag hD3 rfl rfl rfl))))⟩
 refine aK 3 #[true,false,true,true,true,true,true,true,true,true,false,true,false] ⟨53,[(1,.adr (aL s)),(2,.ref 2 0 0 0),(3,.ref 3 0 0 0),(8,.adr ((aL s).drop 0)),(11,.s (.int .i64 s.hor)),(14,.sl 4 (s.opn.map seC)),(17,.sl 4 (s.sub.map enC))],[(3,.box [.s (.int .i64 0),.s (.int .i64 0),.s (.slice none 0 0),.s (.slice none 0 0),.s (.slice none 0 0),.s (.slice none 0 0)]),(2,.box [.s (.int .i64 0),.s (.int .i64 0),.s (.slice none 0 0),.s (.slice none 0 0),.s (.slice none 0 0),.s (.slice none 0 0)])]⟩ ?_ (fun hD7=>?_)
 ·
  refine aH 1 [] (by kernel_rfl) ⟨?_,trivial⟩
  ·
   refine⟨_,rfl,rfl,(ao rfl (aE aA 1 rfl (aF (ag hD3 rfl rfl rfl))))⟩
 refine aK 4 #[true,true,true,true,true,true,true,true,true,false,false,false,false] ⟨53,[(1,.adr (aL s)),(2,.ref 2 0 0 0),(9,.s (.int .i64 s.now)),(11,.s (.int .i64 s.hor)),(14,.sl 4 (s.opn.map seC)),(16,.sl 4 (s.sub.map enC))],[(2,.box [.s (.int .i64 0),.s (.int .i64 0),.s (.slice none 0 0),.s (.slice none 0 0),.s (.slice none 0 0),.s (.slice none 0 0)])]⟩ ?_ (fun hD8=>?_)
 ·
  refine aH 9 [11] (by kernel_rfl) ⟨?_,?_,trivial⟩
  ·
   refine⟨_,rfl,rfl,(ao rfl (aN hf rfl (aP rfl rfl kK rfl (lT s.sub (by omega))) (aF (ag hD4 rfl rfl rfl))))⟩
  ·
   refine⟨_,rfl,rfl,(ao rfl (aZ hf rfl rfl rfl aX (aF (ag hD5 rfl rfl rfl))))⟩
 refine aK 4 #[true,true,true,true,true,true,true,true,false,false,false,true,false] ⟨53,[(1,.adr (aL s)),(2,.ref 2 0 0 0),(3,.ref 3 0 0 0),(9,.s (.int .i64 s.now)),(11,.s (.int .i64 s.hor)),(14,.sl 4 (s.opn.map seC)),(15,.adr ((aL s).drop 4))],[(3,.box [.s (.int .i64 0),.s (.int .i64 0),.s (.slice none 0 0),.s (.slice none 0 0),.s (.slice none 0 0),.s (.slice none 0 0)]),(2,.box [.s (.int .i64 0),.s (.int .i64 0),.s (.slice none 0 0),.s (.slice none 0 0),.s (.slice none 0 0),.s (.slice none 0 0)])]⟩ ?_ (fun hD9=>?_)
 ·
  refine aH 8 [] (by kernel_rfl) ⟨?_,trivial⟩
  ·
   refine⟨_,rfl,rfl,(ao rfl (aE aA 1 rfl (aF (ag hD5 rfl rfl rfl))))⟩
 refine aK 4 #[true,true,true,true,true,true,false,true,true,false,false,true,false] ⟨53,[(1,.adr (aL s)),(2,.ref 2 0 0 0),(3,.ref 3 0 0 0),(9,.s (.int .i64 s.now)),(11,.s (.int .i64 s.hor)),(13,.sl 4 (s.opn.map seC)),(16,.sl 4 (s.sub.map enC))],[(3,.box [.s (.int .i64 0),.s (.int .i64 0),.s (.slice none 0 0),.s (.slice none 0 0),.s (.slice none 0 0),.s (.slice none 0 0)]),(2,.box [.s (.int .i64 0),.s (.int .i64 0),.s (.slice none 0 0),.s (.slice none 0 0),.s (.slice none 0 0),.s (.slice none 0 0)])]⟩ ?_ (fun hD10=>?_)
 ·
  refine aH 6 [] (by kernel_rfl) ⟨?_,trivial⟩
  ·
   refine⟨_,rfl,rfl,(ao rfl (aN hf rfl (aP rfl rfl fB rfl (eZ s.opn (by omega))) (aF (ag hD5 rfl rfl rfl))))⟩
 refine aK 4 #[true,true,true,false,true,true,true,true,true,true,false,false,false] ⟨53,[(1,.adr (aL s)),(2,.ref 2 0 0 0),(9,.s (.int .i64 s.now)),(10,.adr ((aL s).drop 1)),(14,.sl 4 (s.opn.map seC)),(17,.sl 4 (s.sub.map enC))],[(2,.box [.s (.int .i64 0),.s (.int .i64 0),.s (.slice none 0 0),.s (.slice none 0 0),.s (.slice none 0 0),.s (.slice none 0 0)])]⟩ ?_ (fun hD11=>?_)
 ·
  refine aH 3 [11] (by kernel_rfl) ⟨?_,?_,trivial⟩
  ·
   refine⟨_,rfl,rfl,(ao rfl (aE aA 1 rfl (aF (ag hD4 rfl rfl rfl))))⟩
  ·
   refine⟨_,rfl,rfl,(ao rfl (aZ hf rfl rfl rfl aX (aF (ag hD6 rfl rfl rfl))))⟩
 refine aK 4 #[true,true,true,false,true,true,true,true,true,false,false,true,false] ⟨53,[(1,.adr (aL s)),(2,.ref 2 0 0 0),(3,.ref 3 0 0 0),(9,.s (.int .i64 s.now)),(10,.adr ((aL s).drop 1)),(14,.sl 4 (s.opn.map seC)),(16,.sl 4 (s.sub.map enC))],[(3,.box [.s (.int .i64 0),.s (.int .i64 0),.s (.slice none 0 0),.s (.slice none 0 0),.s (.slice none 0 0),.s (.slice none 0 0)]),(2,.box [.s (.int .i64 0),.s (.int .i64 0),.s (.slice none 0 0),.s (.slice none 0 0),.s (.slice none 0 0),.s (.slice none 0 0)])]⟩ ?_ (fun hD12=>?_)
 ·
  refine aH 3 [9] (by kernel_rfl) ⟨?_,?_,trivial⟩
  ·
   refine⟨_,rfl,rfl,(ao rfl (aE aA 1 rfl (aF (ag hD5 rfl rfl rfl))))⟩
  ·
   refine⟨_,rfl,rfl,(ao rfl (aN hf rfl (aP rfl rfl kK rfl (lT s.sub (by omega))) (aF (ag hD6 rfl rfl rfl))))⟩
 refine aK 4 #[true,false,true,true,true,true,true,true,true,true,false,false,false] ⟨53,[(1,.adr (aL s)),(2,.ref 2 0 0 0),(8,.adr ((aL s).drop 0)),(11,.s (.int .i64 s.hor)),(14,.sl 4 (s.opn.map seC)),(17,.sl 4 (s.sub.map enC))],[(2,.box [.s (.int .i64 0),.s (.int .i64 0),.s (.slice none 0 0),.s (.slice none 0 0),.s (.slice none 0 0),.s (.slice none 0 0)])]⟩ ?_ (fun hD13=>?_)
 ·
  refine aH 1 [11] (by kernel_rfl) ⟨?_,?_,trivial⟩
  ·
   refine⟨_,rfl,rfl,(ao rfl (aE aA 1 rfl (aF (ag hD4 rfl rfl rfl))))⟩
  ·
   refine⟨_,rfl,rfl,(ao rfl (aZ hf rfl rfl rfl aX (aF (ag hD7 rfl rfl rfl))))⟩
 refine aK 4 #[true,false,true,true,true,true,true,true,true,false,false,true,false] ⟨53,[(1,.adr (aL s)),(2,.ref 2 0 0 0),(3,.ref 3 0 0 0),(8,.adr ((aL s).drop 0)),(11,.s (.int .i64 s.hor)),(14,.sl 4 (s.opn.map seC)),(16,.sl 4 (s.sub.map enC))],[(3,.box [.s (.int .i64 0),.s (.int .i64 0),.s (.slice none 0 0),.s (.slice none 0 0),.s (.slice none 0 0),.s (.slice none 0 0)]),(2,.box [.s (.int .i64 0),.s (.int .i64 0),.s (.slice none 0 0),.s (.slice none 0 0),.s (.slice none 0 0),.s (.slice none 0 0)])]⟩ ?_ (fun hD14=>?_)
 ·
  refine aH 1 [9] (by kernel_rfl) ⟨?_,?_,trivial⟩
  ·
   refine⟨_,rfl,rfl,(ao rfl (aE aA 1 rfl (aF (ag hD5 rfl rfl rfl))))⟩
  ·
   refine⟨_,rfl,rfl,(ao rfl (aN hf rfl (aP rfl rfl kK rfl (lT s.sub (by omega))) (aF (ag hD7 rfl rfl rfl))))⟩
 refine aK 4 #[true,false,true,false,true,true,true,true,true,true,false,true,false] ⟨53,[(1,.adr (aL s)),(2,.ref 2 0 0 0),(3,.ref 3 0 0 0),(8,.adr ((aL s).drop 0)),(10,.adr ((aL s).drop 1)),(14,.sl 4 (s.opn.map seC)),(17,.sl 4 (s.sub.map enC))],[(3,.box [.s (.int .i64 0),.s (.int .i64 0),.s (.slice none 0 0),.s (.slice none 0 0),.s (.slice none 0 0),.s (.slice none 0 0)]),(2,.box [.s (.int .i64 0),.s (.int .i64 0),.s (.slice none 0 0),.s (.slice none 0 0),.s (.slice none 0 0),.s (.slice none 0 0)])]⟩ ?_ (fun hD15=>?_)
 ·
  refine aH 1 [3] (by kernel_rfl) ⟨?_,?_,trivial⟩
  ·
   refine⟨_,rfl,rfl,(ao rfl (aE aA 1 rfl (aF (ag hD6 rfl rfl rfl))))⟩
  ·
   refine⟨_,rfl,rfl,(ao rfl (aE aA 1 rfl (aF (ag hD7 rfl rfl rfl))))⟩
 refine aK 5 #[true,true,true,true,true,true,true,true,false,false,false,false,false] ⟨53,[(1,.adr (aL s)),(2,.ref 2 0 0 0),(9,.s (.int .i64 s.now)),(11,.s (.int .i64 s.hor)),(14,.sl 4 (s.opn.map seC)),(15,.adr ((aL s).drop 4))],[(2,.box [.s (.int .i64 0),.s (.int .i64 0),.s (.slice none 0 0),.s (.slice none 0 0),.s (.slice none 0 0),.s (.slice none 0 0)])]⟩ ?_ (fun hD16=>?_)
 ·
  refine aH 8 [11] (by kernel_rfl) ⟨?_,?_,trivial⟩
  ·
   refine⟨_,rfl,rfl,(ao rfl (aE aA 1 rfl (aF (ag hD8 rfl rfl rfl))))⟩
  ·
   refine⟨_,rfl,rfl,(ao rfl (aZ hf rfl rfl rfl aX (aF (ag hD9 rfl rfl rfl))))⟩
 refine aK 5 #[true,true,true,true,true,true,false,true,true,false,false,false,false] ⟨53,[(1,.adr (aL s)),(2,.ref 2 0 0 0),(9,.s (.int .i64 s.now)),(11,.s (.int .i64 s.hor)),(13,.sl 4 (s.opn.map seC)),(16,.sl 4 (s.sub.map enC))],[(2,.box [.s (.int .i64 0),.s (.int .i64 0),.s (.slice none 0 0),.s (.slice none 0 0),.s (.slice none 0 0),.s (.slice none 0 0)])]⟩ ?_ (fun hD17=>?_)
 ·
  refine aH 6 [11] (by kernel_rfl) ⟨?_,?_,trivial⟩
  ·
   refine⟨_,rfl,rfl,(ao rfl (aN hf rfl (aP rfl rfl fB rfl (eZ s.opn (by omega))) (aF (ag hD8 rfl rfl rfl))))⟩
  ·
   refine⟨_,rfl,rfl,(ao rfl (aZ hf rfl rfl rfl aX (aF (ag hD10 rfl rfl rfl))))⟩
 refine aK 5 #[true,true,true,true,true,true,false,true,false,false,false,true,false] ⟨53,[(1,.adr (aL s)),(2,.ref 2 0 0 0),(3,.ref 3 0 0 0),(9,.s (.int .i64 s.now)),(11,.s (.int .i64 s.hor)),(13,.sl 4 (s.opn.map seC)),(15,.adr ((aL s).drop 4))],[(3,.box [.s (.int .i64 0),.s (.int .i64 0),.s (.slice none 0 0),.s (.slice none 0 0),.s (.slice none 0 0),.s (.slice none 0 0)]),(2,.box [.s (.int .i64 0),.s (.int .i64 0),.s (.slice none 0 0),.s (.slice none 0 0),.s (.slice none 0 0),.s (.slice none 0 0)])]⟩ ?_ (fun hD18=>?_)
 ·
  refine aH 6 [8] (by kernel_rfl) ⟨?_,?_,trivial⟩
  ·
   refine⟨_,rfl,rfl,(ao rfl (aN hf rfl (aP rfl rfl fB rfl (eZ s.opn (by omega))) (aF (ag hD9 rfl rfl rfl))))⟩
  ·
   refine⟨_,rfl,rfl,(ao rfl (aE aA 1 rfl (aF (ag hD10 rfl rfl rfl))))⟩
 refine aK 5 #[true,true,true,true,true,false,false,true,true,false,false,true,false] ⟨53,[(1,.adr (aL s)),(2,.ref 2 0 0 0),(3,.ref 3 0 0 0),(9,.s (.int .i64 s.now)),(11,.s (.int .i64 s.hor)),(12,.adr ((aL s).drop 2)),(16,.sl 4 (s.sub.map enC))],[(3,.box [.s (.int .i64 0),.s (.int .i64 0),.s (.slice none 0 0),.s (.slice none 0 0),.s (.slice none 0 0),.s (.slice none 0 0)]),(2,.box [.s (.int .i64 0),.s (.int .i64 0),.s (.slice none 0 0),.s (.slice none 0 0),.s (.slice none 0 0),.s (.slice none 0 0)])]⟩ ?_ (fun hD19=>?_)
 ·
  refine aH 5 [] (by kernel_rfl) ⟨?_,trivial⟩
  ·
   refine⟨_,rfl,rfl,(ao rfl (aE aA 1 rfl (aF (ag hD10 rfl rfl rfl))))⟩
 refine aK 5 #[true,true,true,false,true,true,true,true,true,false,false,false,false] ⟨53,[(1,.adr (aL s)),(2,.ref 2 0 0 0),(9,.s (.int .i64 s.now)),(10,.adr ((aL s).drop 1)),(14,.sl 4 (s.opn.map seC)),(16,.sl 4 (s.sub.map enC))],[(2,.box [.s (.int .i64 0),.s (.int .i64 0),.s (.slice none 0 0),.s (.slice none 0 0),.s (.slice none 0 0),.s (.slice none 0 0)])]⟩ ?_ (fun hD20=>?_)
 ·
  refine aH 3 [9,11] (by kernel_rfl) ⟨?_,?_,?_,trivial⟩
  ·
   refine⟨_,rfl,rfl,(ao rfl (aE aA 1 rfl (aF (ag hD8 rfl rfl rfl))))⟩
  ·
   refine⟨_,rfl,rfl,(ao rfl (aN hf rfl (aP rfl rfl kK rfl (lT s.sub (by omega))) (aF (ag hD11 rfl rfl rfl))))⟩
  ·
   refine⟨_,rfl,rfl,(ao rfl (aZ hf rfl rfl rfl aX (aF (ag hD12 rfl rfl rfl))))⟩
 refine aK 5 #[true,true,true,false,true,true,true,true,false,false,false,true,false] ⟨53,[(1,.adr (aL s)),(2,.ref 2 0 0 0),(3,.ref 3 0 0 0),(9,.s (.int .i64 s.now)),(10,.adr ((aL s).drop 1)),(14,.sl 4 (s.opn.map seC)),(15,.adr ((aL s).drop 4))],[(3,.box [.s (.int .i64 0),.s (.int .i64 0),.s (.slice none 0 0),.s (.slice none 0 0),.s (.slice none 0 0),.s (.slice none 0 0)]),(2,.box [.s (.int .i64 0),.s (.int .i64 0),.s (.slice none 0 0),.s (.slice none 0 0),.s (.slice none 0 0),.s (.slice none 0 0)])]⟩ ?_ (fun hD21=>?_)
 ·
  refine aH 3 [8] (by kernel_rfl) ⟨?_,?_,trivial⟩
  ·
   refine⟨_,rfl,rfl,(ao rfl (aE aA 1 rfl (aF (ag hD9 rfl rfl rfl))))⟩
  ·
   refine⟨_,rfl,rfl,(ao rfl (aE aA 1 rfl (aF (ag hD12 rfl rfl rfl))))⟩
 refine aK 5 #[true,true,true,false,true,true,false,true,true,false,false,true,false] ⟨53,[(1,.adr (aL s)),(2,.ref 2 0 0 0),(3,.ref 3 0 0 0),(9,.s (.int .i64 s.now)),(10,.adr ((aL s).drop 1)),(13,.sl 4 (s.opn.map seC)),(16,.sl 4 (s.sub.map enC))],[(3,.box [.s (.int .i64 0),.s (.int .i64 0),.s (.slice none 0 0),.s (.slice none 0 0),.s (.slice none 0 0),.s (.slice none 0 0)]),(2,.box [.s (.int .i64 0),.s (.int .i64 0),.s (.slice none 0 0),.s (.slice none 0 0),.s (.slice none 0 0),.s (.slice none 0 0)])]⟩ ?_ (fun hD22=>?_)
 ·
  refine aH 3 [6] (by kernel_rfl) ⟨?_,?_,trivial⟩
  ·
   refine⟨_,rfl,rfl,(ao rfl (aE aA 1 rfl (aF (ag hD10 rfl rfl rfl))))⟩
  ·
   refine⟨_,rfl,rfl,(ao rfl (aN hf rfl (aP rfl rfl fB rfl (eZ s.opn (by omega))) (aF (ag hD12 rfl rfl rfl))))⟩
 refine aK 5 #[true,false,true,true,true,true,true,true,true,false,false,false,false] ⟨53,[(1,.adr (aL s)),(2,.ref 2 0 0 0),(8,.adr ((aL s).drop 0)),(11,.s (.int .i64 s.hor)),(14,.sl 4 (s.opn.map seC)),(16,.sl 4 (s.sub.map enC))],[(2,.box [.s (.int .i64 0),.s (.int .i64 0),.s (.slice none 0 0),.s (.slice none 0 0),.s (.slice none 0 0),.s (.slice none 0 0)])]⟩ ?_ (fun hD23=>?_)
 ·
  refine aH 1 [9,11] (by kernel_rfl) ⟨?_,?_,?_,trivial⟩
  ·
   refine⟨_,rfl,rfl,(ao rfl (aE aA 1 rfl (aF (ag hD8 rfl rfl rfl))))⟩
  ·
   refine⟨_,rfl,rfl,(ao rfl (aN hf rfl (aP rfl rfl kK rfl (lT s.sub (by omega))) (aF (ag hD13 rfl rfl rfl))))⟩
  ·
   refine⟨_,rfl,rfl,(ao rfl (aZ hf rfl rfl rfl aX (aF (ag hD14 rfl rfl rfl))))⟩
 refine aK 5 #[true,false,true,true,true,true,true,true,false,false,false,true,false] ⟨53,[(1,.adr (aL s)),(2,.ref 2 0 0 0),(3,.ref 3 0 0 0),(8,.adr ((aL s).drop 0)),(11,.s (.int .i64 s.hor)),(14,.sl 4 (s.opn.map seC)),(15,.adr ((aL s).drop 4))],[(3,.box [.s (.int .i64 0),.s (.int .i64 0),.s (.slice none 0 0),.s (.slice none 0 0),.s (.slice none 0 0),.s (.slice none 0 0)]),(2,.box [.s (.int .i64 0),.s (.int .i64 0),.s (.slice none 0 0),.s (.slice none 0 0),.s (.slice none 0 0),.s (.slice none 0 0)])]⟩ ?_ (fun hD24=>?_)
 ·
  refine aH 1 [8] (by kernel_rfl) ⟨?_,?_,trivial⟩
  ·
   refine⟨_,rfl,rfl,(ao rfl (aE aA 1 rfl (aF (ag hD9 rfl rfl rfl))))⟩
  ·
   refine⟨_,rfl,rfl,(ao rfl (aE aA 1 rfl (aF (ag hD14 rfl rfl rfl))))⟩
 refine aK 5 #[true,false,true,true,true,true,false,true,true,false,false,true,false] ⟨53,[(1,.adr (aL s)),(2,.ref 2 0 0 0),(3,.ref 3 0 0 0),(8,.adr ((aL s).drop 0)),(11,.s (.int .i64 s.hor)),(13,.sl 4 (s.opn.map seC)),(16,.sl 4 (s.sub.map enC))],[(3,.box [.s (.int .i64 0),.s (.int .i64 0),.s (.slice none 0 0),.s (.slice none 0 0),.s (.slice none 0 0),.s (.slice none 0 0)]),(2,.box [.s (.int .i64 0),.s (.int .i64 0),.s (.slice none 0 0),.s (.slice none 0 0),.s (.slice none 0 0),.s (.slice none 0 0)])]⟩ ?_ (fun hD25=>?_)
 ·
  refine aH 1 [6] (by kernel_rfl) ⟨?_,?_,trivial⟩
  ·
   refine⟨_,rfl,rfl,(ao rfl (aE aA 1 rfl (aF (ag hD10 rfl rfl rfl))))⟩
  ·
   refine⟨_,rfl,rfl,(ao rfl (aN hf rfl (aP rfl rfl fB rfl (eZ s.opn (by omega))) (aF (ag hD14 rfl rfl rfl))))⟩
 refine aK 5 #[true,false,true,false,true,true,true,true,true,true,false,false,false] ⟨53,[(1,.adr (aL s)),(2,.ref 2 0 0 0),(8,.adr ((aL s).drop 0)),(10,.adr ((aL s).drop 1)),(14,.sl 4 (s.opn.map seC)),(17,.sl 4 (s.sub.map enC))],[(2,.box [.s (.int .i64 0),.s (.int .i64 0),.s (.slice none 0 0),.s (.slice none 0 0),.s (.slice none 0 0),.s (.slice none 0 0)])]⟩ ?_ (fun hD26=>?_)
 ·
  refine aH 1 [3,11] (by kernel_rfl) ⟨?_,?_,?_,trivial⟩
  ·
   refine⟨_,rfl,rfl,(ao rfl (aE aA 1 rfl (aF (ag hD11 rfl rfl rfl))))⟩
  ·
   refine⟨_,rfl,rfl,(ao rfl (aE aA 1 rfl (aF (ag hD13 rfl rfl rfl))))⟩
  ·
   refine⟨_,rfl,rfl,(ao rfl (aZ hf rfl rfl rfl aX (aF (ag hD15 rfl rfl rfl))))⟩
 refine aK 5 #[true,false,true,false,true,true,true,true,true,false,false,true,false] ⟨53,[(1,.adr (aL s)),(2,.ref 2 0 0 0),(3,.ref 3 0 0 0),(8,.adr ((aL s).drop 0)),(10,.adr ((aL s).drop 1)),(14,.sl 4 (s.opn.map seC)),(16,.sl 4 (s.sub.map enC))],[(3,.box [.s (.int .i64 0),.s (.int .i64 0),.s (.slice none 0 0),.s (.slice none 0 0),.s (.slice none 0 0),.s (.slice none 0 0)]),(2,.box [.s (.int .i64 0),.s (.int .i64 0),.s (.slice none 0 0),.s (.slice none 0 0),.s (.slice none 0 0),.s (.slice none 0 0)])]⟩ ?_ (fun hD27=>?_)
 ·
  refine aH 1 [3,9] (by kernel_rfl) ⟨?_,?_,?_,trivial⟩
  ·
   refine⟨_,rfl,rfl,(ao rfl (aE aA 1 rfl (aF (ag hD12 rfl rfl rfl))))⟩
  ·
   refine⟨_,rfl,rfl,(ao rfl (aE aA 1 rfl (aF (ag hD14 rfl rfl rfl))))⟩
  ·
   refine⟨_,rfl,rfl,(ao rfl (aN hf rfl (aP rfl rfl kK rfl (lT s.sub (by omega))) (aF (ag hD15 rfl rfl rfl))))⟩
 refine aK 6 #[true,true,true,true,true,true,false,true,false,false,false,false,false] ⟨53,[(1,.adr (aL s)),(2,.ref 2 0 0 0),(9,.s (.int .i64 s.now)),(11,.s (.int .i64 s.hor)),(13,.sl 4 (s.opn.map seC)),(15,.adr ((aL s).drop 4))],[(2,.box [.s (.int .i64 0),.s (.int .i64 0),.s (.slice none 0 0),.s (.slice none 0 0),.s (.slice none 0 0),.s (.slice none 0 0)])]⟩ ?_ (fun hD28=>?_)
 ·
  refine aH 6 [8,11] (by kernel_rfl) ⟨?_,?_,?_,trivial⟩
  ·
   refine⟨_,rfl,rfl,(ao rfl (aN hf rfl (aP rfl rfl fB rfl (eZ s.opn (by omega))) (aF (ag hD16 rfl rfl rfl))))⟩
  ·
   refine⟨_,rfl,rfl,(ao rfl (aE aA 1 rfl (aF (ag hD17 rfl rfl rfl))))⟩
  ·
   refine⟨_,rfl,rfl,(ao rfl (aZ hf rfl rfl rfl aX (aF (ag hD18 rfl rfl rfl))))⟩
 refine aK 6 #[true,true,true,true,true,false,false,true,true,false,false,false,false] ⟨53,[(1,.adr (aL s)),(2,.ref 2 0 0 0),(9,.s (.int .i64 s.now)),(11,.s (.int .i64 s.hor)),(12,.adr ((aL s).drop 2)),(16,.sl 4 (s.sub.map enC))],[(2,.box [.s (.int .i64 0),.s (.int .i64 0),.s (.slice none 0 0),.s (.slice none 0 0),.s (.slice none 0 0),.s (.slice none 0 0)])]⟩ ?_ (fun hD29=>?_)
 ·
  refine aH 5 [11] (by kernel_rfl) ⟨?_,?_,trivial⟩
  ·
   refine⟨_,rfl,rfl,(ao rfl (aE aA 1 rfl (aF (ag hD17 rfl rfl rfl))))⟩
  ·
   refine⟨_,rfl,rfl,(ao rfl (aZ hf rfl rfl rfl aX (aF (ag hD19 rfl rfl rfl))))⟩
 refine aK 6 #[true,true,true,true,true,false,false,true,false,false,false,true,false] ⟨53,[(1,.adr (aL s)),(2,.ref 2 0 0 0),(3,.ref 3 0 0 0),(9,.s (.int .i64 s.now)),(11,.s (.int .i64 s.hor)),(12,.adr ((aL s).drop 2)),(15,.adr ((aL s).drop 4))],[(3,.box [.s (.int .i64 0),.s (.int .i64 0),.s (.slice none 0 0),.s (.slice none 0 0),.s (.slice none 0 0),.s (.slice none 0 0)]),(2,.box [.s (.int .i64 0),.s (.int .i64 0),.s (.slice none 0 0),.s (.slice none 0 0),.s (.slice none 0 0),.s (.slice none 0 0)])]⟩ ?_ (fun hD30=>?_)
 ·
  refine aH 5 [8] (by kernel_rfl) ⟨?_,?_,trivial⟩
  ·
   refine⟨_,rfl,rfl,(ao rfl (aE aA 1 rfl (aF (ag hD18 rfl rfl rfl))))⟩
  ·
   refine⟨_,rfl,rfl,(ao rfl (aE aA 1 rfl (aF (ag hD19 rfl rfl rfl))))⟩
 refine aK 6 #[true,true,true,false,true,true,true,true,false,false,false,false,false] ⟨53,[(1,.adr (aL s)),(2,.ref 2 0 0 0),(9,.s (.int .i64 s.now)),(10,.adr ((aL s).drop 1)),(14,.sl 4 (s.opn.map seC)),(15,.adr ((aL s).drop 4))],[(2,.box [.s (.int .i64 0),.s (.int .i64 0),.s (.slice none 0 0),.s (.slice none 0 0),.s (.slice none 0 0),.s (.slice none 0 0)])]⟩ ?_ (fun hD31=>?_)
 ·
  refine aH 3 [8,11] (by kernel_rfl) ⟨?_,?_,?_,trivial⟩
  ·
   refine⟨_,rfl,rfl,(ao rfl (aE aA 1 rfl (aF (ag hD16 rfl rfl rfl))))⟩
  ·
   refine⟨_,rfl,rfl,(ao rfl (aE aA 1 rfl (aF (ag hD20 rfl rfl rfl))))⟩
  ·
   refine⟨_,rfl,rfl,(ao rfl (aZ hf rfl rfl rfl aX (aF (ag hD21 rfl rfl rfl))))⟩
 refine aK 6 #[true,true,true,false,true,true,false,true,true,false,false,false,false] ⟨53,[(1,.adr (aL s)),(2,.ref 2 0 0 0),(9,.s (.int .i64 s.now)),(10,.adr ((aL s).drop 1)),(13,.sl 4 (s.opn.map seC)),(16,.sl 4 (s.sub.map enC))],[(2,.box [.s (.int .i64 0),.s (.int .i64 0),.s (.slice none 0 0),.s (.slice none 0 0),.s (.slice none 0 0),.s (.slice none 0 0)])]⟩ ?_ (fun hD32=>?_)
 ·
  refine aH 3 [6,11] (by kernel_rfl) ⟨?_,?_,?_,trivial⟩
  ·
   refine⟨_,rfl,rfl,(ao rfl (aE aA 1 rfl (aF (ag hD17 rfl rfl rfl))))⟩
  ·
   refine⟨_,rfl,rfl,(ao rfl (aN hf rfl (aP rfl rfl fB rfl (eZ s.opn (by omega))) (aF (ag hD20 rfl rfl rfl))))⟩
  ·
   refine⟨_,rfl,rfl,(ao rfl (aZ hf rfl rfl rfl aX (aF (ag hD22 rfl rfl rfl))))⟩
 refine aK 6 #[true,true,true,false,true,true,false,true,false,false,false,true,false] ⟨53,[(1,.adr (aL s)),(2,.ref 2 0 0 0),(3,.ref 3 0 0 0),(9,.s (.int .i64 s.now)),(10,.adr ((aL s).drop 1)),(13,.sl 4 (s.opn.map seC)),(15,.adr ((aL s).drop 4))],[(3,.box [.s (.int .i64 0),.s (.int .i64 0),.s (.slice none 0 0),.s (.slice none 0 0),.s (.slice none 0 0),.s (.slice none 0 0)]),(2,.box [.s (.int .i64 0),.s (.int .i64 0),.s (.slice none 0 0),.s (.slice none 0 0),.s (.slice none 0 0),.s (.slice none 0 0)])]⟩ ?_ (fun hD33=>?_)
 ·
  refine aH 3 [6,8] (by kernel_rfl) ⟨?_,?_,?_,trivial⟩
  ·
   refine⟨_,rfl,rfl,(ao rfl (aE aA 1 rfl (aF (ag hD18 rfl rfl rfl))))⟩
  ·
   refine⟨_,rfl,rfl,(ao rfl (aN hf rfl (aP rfl rfl fB rfl (eZ s.opn (by omega))) (aF (ag hD21 rfl rfl rfl))))⟩
  ·
   refine⟨_,rfl,rfl,(ao rfl (aE aA 1 rfl (aF (ag hD22 rfl rfl rfl))))⟩
 refine aK 6 #[true,true,true,false,true,false,false,true,true,false,false,true,false] ⟨53,[(1,.adr (aL s)),(2,.ref 2 0 0 0),(3,.ref 3 0 0 0),(9,.s (.int .i64 s.now)),(10,.adr ((aL s).drop 1)),(12,.adr ((aL s).drop 2)),(16,.sl 4 (s.sub.map enC))],[(3,.box [.s (.int .i64 0),.s (.int .i64 0),.s (.slice none 0 0),.s (.slice none 0 0),.s (.slice none 0 0),.s (.slice none 0 0)]),(2,.box [.s (.int .i64 0),.s (.int .i64 0),.s (.slice none 0 0),.s (.slice none 0 0),.s (.slice none 0 0),.s (.slice none 0 0)])]⟩ ?_ (fun hD34=>?_)
 ·
  refine aH 3 [5] (by kernel_rfl) ⟨?_,?_,trivial⟩
  ·
   refine⟨_,rfl,rfl,(ao rfl (aE aA 1 rfl (aF (ag hD19 rfl rfl rfl))))⟩
  ·
   refine⟨_,rfl,rfl,(ao rfl (aE aA 1 rfl (aF (ag hD22 rfl rfl rfl))))⟩
 refine aK 6 #[true,false,true,true,true,true,true,true,false,false,false,false,false] ⟨53,[(1,.adr (aL s)),(2,.ref 2 0 0 0),(8,.adr ((aL s).drop 0)),(11,.s (.int .i64 s.hor)),(14,.sl 4 (s.opn.map seC)),(15,.adr ((aL s).drop 4))],[(2,.box [.s (.int .i64 0),.s (.int .i64 0),.s (.slice none 0 0),.s (.slice none 0 0),.s (.slice none 0 0),.s (.slice none 0 0)])]⟩ ?_ (fun hD35=>?_)
 ·
  refine aH 1 [8,11] (by kernel_rfl) ⟨?_,?_,?_,trivial⟩
  ·
   refine⟨_,rfl,rfl,(ao rfl (aE aA 1 rfl (aF (ag hD16 rfl rfl rfl))))⟩
  ·
   refine⟨_,rfl,rfl,(ao rfl (aE aA 1 rfl (aF (ag hD23 rfl rfl rfl))))⟩
  ·
   refine⟨_,rfl,rfl,(ao rfl (aZ hf rfl rfl rfl aX (aF (ag hD24 rfl rfl rfl))))⟩
 refine aK 6 #[true,false,true,true,true,true,false,true,true,false,false,false,false] ⟨53,[(1,.adr (aL s)),(2,.ref 2 0 0 0),(8,.adr ((aL s).drop 0)),(11,.s (.int .i64 s.hor)),(13,.sl 4 (s.opn.map seC)),(16,.sl 4 (s.sub.map enC))],[(2,.box [.s (.int .i64 0),.s (.int .i64 0),.s (.slice none 0 0),.s (.slice none 0 0),.s (.slice none 0 0),.s (.slice none 0 0)])]⟩ ?_ (fun hD36=>?_)
 ·
  refine aH 1 [6,11] (by kernel_rfl) ⟨?_,?_,?_,trivial⟩
  ·
   refine⟨_,rfl,rfl,(ao rfl (aE aA 1 rfl (aF (ag hD17 rfl rfl rfl))))⟩
  ·
   refine⟨_,rfl,rfl,(ao rfl (aN hf rfl (aP rfl rfl fB rfl (eZ s.opn (by omega))) (aF (ag hD23 rfl rfl rfl))))⟩
  ·
   refine⟨_,rfl,rfl,(ao rfl (aZ hf rfl rfl rfl aX (aF (ag hD25 rfl rfl rfl))))⟩
 refine aK 6 #[true,false,true,true,true,true,false,true,false,false,false,true,false] ⟨53,[(1,.adr (aL s)),(2,.ref 2 0 0 0),(3,.ref 3 0 0 0),(8,.adr ((aL s).drop 0)),(11,.s (.int .i64 s.hor)),(13,.sl 4 (s.opn.map seC)),(15,.adr ((aL s).drop 4))],[(3,.box [.s (.int .i64 0),.s (.int .i64 0),.s (.slice none 0 0),.s (.slice none 0 0),.s (.slice none 0 0),.s (.slice none 0 0)]),(2,.box [.s (.int .i64 0),.s (.int .i64 0),.s (.slice none 0 0),.s (.slice none 0 0),.s (.slice none 0 0),.s (.slice none 0 0)])]⟩ ?_ (fun hD37=>?_)
 ·
  refine aH 1 [6,8] (by kernel_rfl) ⟨?_,?_,?_,trivial⟩
  ·
   refine⟨_,rfl,rfl,(ao rfl (aE aA 1 rfl (aF (ag hD18 rfl rfl rfl))))⟩
  ·
   refine⟨_,rfl,rfl,(ao rfl (aN hf rfl (aP rfl rfl fB rfl (eZ s.opn (by omega))) (aF (ag hD24 rfl rfl rfl))))⟩
  ·
   refine⟨_,rfl,rfl,(ao rfl (aE aA 1 rfl (aF (ag hD25 rfl rfl rfl))))⟩
 refine aK 6 #[true,false,true,true,true,false,false,true,true,false,false,true,false] ⟨53,[(1,.adr (aL s)),(2,.ref 2 0 0 0),(3,.ref 3 0 0 0),(8,.adr ((aL s).drop 0)),(11,.s (.int .i64 s.hor)),(12,.adr ((aL s).drop 2)),(16,.sl 4 (s.sub.map enC))],[(3,.box [.s (.int .i64 0),.s (.int .i64 0),.s (.slice none 0 0),.s (.slice none 0 0),.s (.slice none 0 0),.s (.slice none 0 0)]),(2,.box [.s (.int .i64 0),.s (.int .i64 0),.s (.slice none 0 0),.s (.slice none 0 0),.s (.slice none 0 0),.s (.slice none 0 0)])]⟩ ?_ (fun hD38=>?_)
 ·
  refine aH 1 [5] (by kernel_rfl) ⟨?_,?_,trivial⟩
  ·
   refine⟨_,rfl,rfl,(ao rfl (aE aA 1 rfl (aF (ag hD19 rfl rfl rfl))))⟩
  ·
   refine⟨_,rfl,rfl,(ao rfl (aE aA 1 rfl (aF (ag hD25 rfl rfl rfl))))⟩
 refine aK 6 #[true,false,true,false,true,true,true,true,true,false,false,false,false] ⟨53,[(1,.adr (aL s)),(2,.ref 2 0 0 0),(8,.adr ((aL s).drop 0)),(10,.adr ((aL s).drop 1)),(14,.sl 4 (s.opn.map seC)),(16,.sl 4 (s.sub.map enC))],[(2,.box [.s (.int .i64 0),.s (.int .i64 0),.s (.slice none 0 0),.s (.slice none 0 0),.s (.slice none 0 0),.s (.slice none 0 0)])]⟩ ?_ (fun hD39=>?_)
 ·
  refine aH 1 [3,9,11] (by kernel_rfl) ⟨?_,?_,?_,?_,trivial⟩
  ·
   refine⟨_,rfl,rfl,(ao rfl (aE aA 1 rfl (aF (ag hD20 rfl rfl rfl))))⟩
  ·
   refine⟨_,rfl,rfl,(ao rfl (aE aA 1 rfl (aF (ag hD23 rfl rfl rfl))))⟩
  ·
   refine⟨_,rfl,rfl,(ao rfl (aN hf rfl (aP rfl rfl kK rfl (lT s.sub (by omega))) (aF (ag hD26 rfl rfl rfl))))⟩
  ·
   refine⟨_,rfl,rfl,(ao rfl (aZ hf rfl rfl rfl aX (aF (ag hD27 rfl rfl rfl))))⟩
 refine aK 6 #[true,false,true,false,true,true,true,true,false,false,false,true,false] ⟨53,[(1,.adr (aL s)),(2,.ref 2 0 0 0),(3,.ref 3 0 0 0),(8,.adr ((aL s).drop 0)),(10,.adr ((aL s).drop 1)),(14,.sl 4 (s.opn.map seC)),(15,.adr ((aL s).drop 4))],[(3,.box [.s (.int .i64 0),.s (.int .i64 0),.s (.slice none 0 0),.s (.slice none 0 0),.s (.slice none 0 0),.s (.slice none 0 0)]),(2,.box [.s (.int .i64 0),.s (.int .i64 0),.s (.slice none 0 0),.s (.slice none 0 0),.s (.slice none 0 0),.s (.slice none 0 0)])]⟩ ?_ (fun hD40=>?_)
 ·
  refine aH 1 [3,8] (by kernel_rfl) ⟨?_,?_,?_,trivial⟩
  ·
   refine⟨_,rfl,rfl,(ao rfl (aE aA 1 rfl (aF (ag hD21 rfl rfl rfl))))⟩
  ·
   refine⟨_,rfl,rfl,(ao rfl (aE aA 1 rfl (aF (ag hD24 rfl rfl rfl))))⟩
  ·
   refine⟨_,rfl,rfl,(ao rfl (aE aA 1 rfl (aF (ag hD27 rfl rfl rfl))))⟩
 refine aK 6 #[true,false,true,false,true,true,false,true,true,false,false,true,false] ⟨53,[(1,.adr (aL s)),(2,.ref 2 0 0 0),(3,.ref 3 0 0 0),(8,.adr ((aL s).drop 0)),(10,.adr ((aL s).drop 1)),(13,.sl 4 (s.opn.map seC)),(16,.sl 4 (s.sub.map enC))],[(3,.box [.s (.int .i64 0),.s (.int .i64 0),.s (.slice none 0 0),.s (.slice none 0 0),.s (.slice none 0 0),.s (.slice none 0 0)]),(2,.box [.s (.int .i64 0),.s (.int .i64 0),.s (.slice none 0 0),.s (.slice none 0 0),.s (.slice none 0 0),.s (.slice none 0 0)])]⟩ ?_ (fun hD41=>?_)
 ·
  refine aH 1 [3,6] (by kernel_rfl) ⟨?_,?_,?_,trivial⟩
  ·
   refine⟨_,rfl,rfl,(ao rfl (aE aA 1 rfl (aF (ag hD22 rfl rfl rfl))))⟩
  ·
   refine⟨_,rfl,rfl,(ao rfl (aE aA 1 rfl (aF (ag hD25 rfl rfl rfl))))⟩
  ·
   refine⟨_,rfl,rfl,(ao rfl (aN hf rfl (aP rfl rfl fB rfl (eZ s.opn (by omega))) (aF (ag hD27 rfl rfl rfl))))⟩
 refine aK 7 #[true,true,true,true,true,false,false,true,false,false,false,false,false] ⟨53,[(1,.adr (aL s)),(2,.ref 2 0 0 0),(9,.s (.int .i64 s.now)),(11,.s (.int .i64 s.hor)),(12,.adr ((aL s).drop 2)),(15,.adr ((aL s).drop 4))],[(2,.box [.s (.int .i64 0),.s (.int .i64 0),.s (.slice none 0 0),.s (.slice none 0 0),.s (.slice none 0 0),.s (.slice none 0 0)])]⟩ ?_ (fun hD42=>?_)
 ·
  refine aH 5 [8,11] (by kernel_rfl) ⟨?_,?_,?_,trivial⟩
  ·
   refine⟨_,rfl,rfl,(ao rfl (aE aA 1 rfl (aF (ag hD28 rfl rfl rfl))))⟩
  ·
   refine⟨_,rfl,rfl,(ao rfl (aE aA 1 rfl (aF (ag hD29 rfl rfl rfl))))⟩
  ·
   refine⟨_,rfl,rfl,(ao rfl (aZ hf rfl rfl rfl aX (aF (ag hD30 rfl rfl rfl))))⟩
 refine aK 7 #[true,true,true,false,true,true,false,true,false,false,false,false,false] ⟨53,[(1,.adr (aL s)),(2,.ref 2 0 0 0),(9,.s (.int .i64 s.now)),(10,.adr ((aL s).drop 1)),(13,.sl 4 (s.opn.map seC)),(15,.adr ((aL s).drop 4))],[(2,.box [.s (.int .i64 0),.s (.int .i64 0),.s (.slice none 0 0),.s (.slice none 0 0),.s (.slice none 0 0),.s (.slice none 0 0)])]⟩ ?_ (fun hD43=>?_)
 ·
  refine aH 3 [6,8,11] (by kernel_rfl) ⟨?_,?_,?_,?_,trivial⟩
  ·
   refine⟨_,rfl,rfl,(ao rfl (aE aA 1 rfl (aF (ag hD28 rfl rfl rfl))))⟩
  ·
   refine⟨_,rfl,rfl,(ao rfl (aN hf rfl (aP rfl rfl fB rfl (eZ s.opn (by omega))) (aF (ag hD31 rfl rfl rfl))))⟩
  ·
   refine⟨_,rfl,rfl,(ao rfl (aE aA 1 rfl (aF (ag hD32 rfl rfl rfl))))⟩
  ·
   refine⟨_,rfl,rfl,(ao rfl (aZ hf rfl rfl rfl aX (aF (ag hD33 rfl rfl rfl))))⟩
 refine aK 7 #[true,true,true,false,true,false,false,true,true,false,false,false,false] ⟨53,[(1,.adr (aL s)),(2,.ref 2 0 0 0),(9,.s (.int .i64 s.now)),(10,.adr ((aL s).drop 1)),(12,.adr ((aL s).drop 2)),(16,.sl 4 (s.sub.map enC))],[(2,.box [.s (.int .i64 0),.s (.int .i64 0),.s (.slice none 0 0),.s (.slice none 0 0),.s (.slice none 0 0),.s (.slice none 0 0)])]⟩ ?_ (fun hD44=>?_)
 ·
  refine aH 3 [5,11] (by kernel_rfl) ⟨?_,?_,?_,trivial⟩
  ·
   refine⟨_,rfl,rfl,(ao rfl (aE aA 1 rfl (aF (ag hD29 rfl rfl rfl))))⟩
  ·
   refine⟨_,rfl,rfl,(ao rfl (aE aA 1 rfl (aF (ag hD32 rfl rfl rfl))))⟩
  ·
   refine⟨_,rfl,rfl,(ao rfl (aZ hf rfl rfl rfl aX (aF (ag hD34 rfl rfl rfl))))⟩
 refine aK 7 #[true,true,true,false,true,false,false,true,false,false,false,true,false] ⟨53,[(1,.adr (aL s)),(2,.ref 2 0 0 0),(3,.ref 3 0 0 0),(9,.s (.int .i64 s.now)),(10,.adr ((aL s).drop 1)),(12,.adr ((aL s).drop 2)),(15,.adr ((aL s).drop 4))],[(3,.box [.s (.int .i64 0),.s (.int .i64 0),.s (.slice none 0 0),.s (.slice none 0 0),.s (.slice none 0 0),.s (.slice none 0 0)]),(2,.box [.s (.int .i64 0),.s (.int .i64 0),.s (.slice none 0 0),.s (.slice none 0 0),.s (.slice none 0 0),.s (.slice none 0 0)])]⟩ ?_ (fun hD45=>?_)
 ·
  refine aH 3 [5,8] (by kernel_rfl) ⟨?_,?_,?_,trivial⟩
  ·
   refine⟨_,rfl,rfl,(ao rfl (aE aA 1 rfl (aF (ag hD30 rfl rfl rfl))))⟩
  ·
   refine⟨_,rfl,rfl,(ao rfl (aE aA 1 rfl (aF (ag hD33 rfl rfl rfl))))⟩
  ·
   refine⟨_,rfl,rfl,(ao rfl (aE aA 1 rfl (aF (ag hD34 rfl rfl rfl))))⟩
 refine aK 7 #[true,false,true,true,true,true,false,true,false,false,false,false,false] ⟨53,[(1,.adr (aL s)),(2,.ref 2 0 0 0),(8,.adr ((aL s).drop 0)),(11,.s (.int .i64 s.hor)),(13,.sl 4 (s.opn.map seC)),(15,.adr ((aL s).drop 4))],[(2,.box [.s (.int .i64 0),.s (.int .i64 0),.s (.slice none 0 0),.s (.slice none 0 0),.s (.slice none 0 0),.s (.slice none 0 0)])]⟩ ?_ (fun hD46=>?_)
 ·
  refine aH 1 [6,8,11] (by kernel_rfl) ⟨?_,?_,?_,?_,trivial⟩
  ·
   refine⟨_,rfl,rfl,(ao rfl (aE aA 1 rfl (aF (ag hD28 rfl rfl rfl))))⟩
  ·
   refine⟨_,rfl,rfl,(ao rfl (aN hf rfl (aP rfl rfl fB rfl (eZ s.opn (by omega))) (aF (ag hD35 rfl rfl rfl))))⟩
  ·
   refine⟨_,rfl,rfl,(ao rfl (aE aA 1 rfl (aF (ag hD36 rfl rfl rfl))))⟩
  ·
   refine⟨_,rfl,rfl,(ao rfl (aZ hf rfl rfl rfl aX (aF (ag hD37 rfl rfl rfl))))⟩
 refine aK 7 #[true,false,true,true,true,false,false,true,true,false,false,false,false] ⟨53,[(1,.adr (aL s)),(2,.ref 2 0 0 0),(8,.adr ((aL s).drop 0)),(11,.s (.int .i64 s.hor)),(12,.adr ((aL s).drop 2)),(16,.sl 4 (s.sub.map enC))],[(2,.box [.s (.int .i64 0),.s (.int .i64 0),.s (.slice none 0 0),.s (.slice none 0 0),.s (.slice none 0 0),.s (.slice none 0 0)])]⟩ ?_ (fun hD47=>?_)
 ·
  refine aH 1 [5,11] (by kernel_rfl) ⟨?_,?_,?_,trivial⟩
  ·
   refine⟨_,rfl,rfl,(ao rfl (aE aA 1 rfl (aF (ag hD29 rfl rfl rfl))))⟩
  ·
   refine⟨_,rfl,rfl,(ao rfl (aE aA 1 rfl (aF (ag hD36 rfl rfl rfl))))⟩
  ·
   refine⟨_,rfl,rfl,(ao rfl (aZ hf rfl rfl rfl aX (aF (ag hD38 rfl rfl rfl))))⟩
 refine aK 7 #[true,false,true,true,true,false,false,true,false,false,false,true,false] ⟨53,[(1,.adr (aL s)),(2,.ref 2 0 0 0),(3,.ref 3 0 0 0),(8,.adr ((aL s).drop 0)),(11,.s (.int .i64 s.hor)),(12,.adr ((aL s).drop 2)),(15,.adr ((aL s).drop 4))],[(3,.box [.s (.int .i64 0),.s (.int .i64 0),.s (.slice none 0 0),.s (.slice none 0 0),.s (.slice none 0 0),.s (.slice none 0 0)]),(2,.box [.s (.int .i64 0),.s (.int .i64 0),.s (.slice none 0 0),.s (.slice none 0 0),.s (.slice none 0 0),.s (.slice none 0 0)])]⟩ ?_ (fun hD48=>?_)
 ·
  refine aH 1 [5,8] (by kernel_rfl) ⟨?_,?_,?_,trivial⟩
  ·
   refine⟨_,rfl,rfl,(ao rfl (aE aA 1 rfl (aF (ag hD30 rfl rfl rfl))))⟩
  ·
   refine⟨_,rfl,rfl,(ao rfl (aE aA 1 rfl (aF (ag hD37 rfl rfl rfl))))⟩
  ·
   refine⟨_,rfl,rfl,(ao rfl (aE aA 1 rfl (aF (ag hD38 rfl rfl rfl))))⟩
 refine aK 7 #[true,false,true,false,true,true,true,true,false,false,false,false,false] ⟨53,[(1,.adr (aL s)),(2,.ref 2 0 0 0),(8,.adr ((aL s).drop 0)),(10,.adr ((aL s).drop 1)),(14,.sl 4 (s.opn.map seC)),(15,.adr ((aL s).drop 4))],[(2,.box [.s (.int .i64 0),.s (.int .i64 0),.s (.slice none 0 0),.s (.slice none 0 0),.s (.slice none 0 0),.s (.slice none 0 0)])]⟩ ?_ (fun hD49=>?_)
 ·
  refine aH 1 [3,8,11] (by kernel_rfl) ⟨?_,?_,?_,?_,trivial⟩
  ·
   refine⟨_,rfl,rfl,(ao rfl (aE aA 1 rfl (aF (ag hD31 rfl rfl rfl))))⟩
  ·
   refine⟨_,rfl,rfl,(ao rfl (aE aA 1 rfl (aF (ag hD35 rfl rfl rfl))))⟩
  ·
   refine⟨_,rfl,rfl,(ao rfl (aE aA 1 rfl (aF (ag hD39 rfl rfl rfl))))⟩
  ·
   refine⟨_,rfl,rfl,(ao rfl (aZ hf rfl rfl rfl aX (aF (ag hD40 rfl rfl rfl))))⟩
 refine aK 7 #[true,false,true,false,true,true,false,true,true,false,false,false,false] ⟨53,[(1,.adr (aL s)),(2,.ref 2 0 0 0),(8,.adr ((aL s).drop 0)),(10,.adr ((aL s).drop 1)),(13,.sl 4 (s.opn.map seC)),(16,.sl 4 (s.sub.map enC))],[(2,.box [.s (.int .i64 0),.s (.int .i64 0),.s (.slice none 0 0),.s (.slice none 0 0),.s (.slice none 0 0),.s (.slice none 0 0)])]⟩ ?_ (fun hD50=>?_)
 ·
  refine aH 1 [3,6,11] (by kernel_rfl) ⟨?_,?_,?_,?_,trivial⟩
  ·
   refine⟨_,rfl,rfl,(ao rfl (aE aA 1 rfl (aF (ag hD32 rfl rfl rfl))))⟩
  ·
   refine⟨_,rfl,rfl,(ao rfl (aE aA 1 rfl (aF (ag hD36 rfl rfl rfl))))⟩
  ·
   refine⟨_,rfl,rfl,(ao rfl (aN hf rfl (aP rfl rfl fB rfl (eZ s.opn (by omega))) (aF (ag hD39 rfl rfl rfl))))⟩
  ·
   refine⟨_,rfl,rfl,(ao rfl (aZ hf rfl rfl rfl aX (aF (ag hD41 rfl rfl rfl))))⟩
 refine aK 7 #[true,false,true,false,true,true,false,true,false,false,false,true,false] ⟨53,[(1,.adr (aL s)),(2,.ref 2 0 0 0),(3,.ref 3 0 0 0),(8,.adr ((aL s).drop 0)),(10,.adr ((aL s).drop 1)),(13,.sl 4 (s.opn.map seC)),(15,.adr ((aL s).drop 4))],[(3,.box [.s (.int .i64 0),.s (.int .i64 0),.s (.slice none 0 0),.s (.slice none 0 0),.s (.slice none 0 0),.s (.slice none 0 0)]),(2,.box [.s (.int .i64 0),.s (.int .i64 0),.s (.slice none 0 0),.s (.slice none 0 0),.s (.slice none 0 0),.s (.slice none 0 0)])]⟩ ?_ (fun hD51=>?_)
 ·
  refine aH 1 [3,6,8] (by kernel_rfl) ⟨?_,?_,?_,?_,trivial⟩
  ·
   refine⟨_,rfl,rfl,(ao rfl (aE aA 1 rfl (aF (ag hD33 rfl rfl rfl))))⟩
  ·
   refine⟨_,rfl,rfl,(ao rfl (aE aA 1 rfl (aF (ag hD37 rfl rfl rfl))))⟩
  ·
   refine⟨_,rfl,rfl,(ao rfl (aN hf rfl (aP rfl rfl fB rfl (eZ s.opn (by omega))) (aF (ag hD40 rfl rfl rfl))))⟩
  ·
   refine⟨_,rfl,rfl,(ao rfl (aE aA 1 rfl (aF (ag hD41 rfl rfl rfl))))⟩
 refine aK 7 #[true,false,true,false,true,false,false,true,true,false,false,true,false] ⟨53,[(1,.adr (aL s)),(2,.ref 2 0 0 0),(3,.ref 3 0 0 0),(8,.adr ((aL s).drop 0)),(10,.adr ((aL s).drop 1)),(12,.adr ((aL s).drop 2)),(16,.sl 4 (s.sub.map enC))],[(3,.box [.s (.int .i64 0),.s (.int .i64 0),.s (.slice none 0 0),.s (.slice none 0 0),.s (.slice none 0 0),.s (.slice none 0 0)]),(2,.box [.s (.int .i64 0),.s (.int .i64 0),.s (.slice none 0 0),.s (.slice none 0 0),.s (.slice none 0 0),.s (.slice none 0 0)])]⟩ ?_ (fun hD52=>?_)
 ·
  refine aH 1 [3,5] (by kernel_rfl) ⟨?_,?_,?_,trivial⟩
  ·
   refine⟨_,rfl,rfl,(ao rfl (aE aA 1 rfl (aF (ag hD34 rfl rfl rfl))))⟩
  ·
   refine⟨_,rfl,rfl,(ao rfl (aE aA 1 rfl (aF (ag hD38 rfl rfl rfl))))⟩
  ·
   refine⟨_,rfl,rfl,(ao rfl (aE aA 1 rfl (aF (ag hD41 rfl rfl rfl))))⟩
 refine aK 8 #[true,true,true,false,true,false,false,true,false,false,false,false,false] ⟨53,[(1,.adr (aL s)),(2,.ref 2 0 0 0),(9,.s (.int .i64 s.now)),(10,.adr ((aL s).drop 1)),(12,.adr ((aL s).drop 2)),(15,.adr ((aL s).drop 4))],[(2,.box [.s (.int .i64 0),.s (.int .i64 0),.s (.slice none 0 0),.s (.slice none 0 0),.s (.slice none 0 0),.s (.slice none 0 0)])]⟩ ?_ (fun hD53=>?_)
 ·
  refine aH 3 [5,8,11] (by kernel_rfl) ⟨?_,?_,?_,?_,trivial⟩
  ·
   refine⟨_,rfl,rfl,(ao rfl (aE aA 1 rfl (aF (ag hD42 rfl rfl rfl))))⟩
  ·
   refine⟨_,rfl,rfl,(ao rfl (aE aA 1 rfl (aF (ag hD43 rfl rfl rfl))))⟩
  ·
   refine⟨_,rfl,rfl,(ao rfl (aE aA 1 rfl (aF (ag hD44 rfl rfl rfl))))⟩
  ·
   refine⟨_,rfl,rfl,(ao rfl (aZ hf rfl rfl rfl aX (aF (ag hD45 rfl rfl rfl))))⟩
 refine aK 8 #[true,false,true,true,true,false,false,true,false,false,false,false,false] ⟨53,[(1,.adr (aL s)),(2,.ref 2 0 0 0),(8,.adr ((aL s).drop 0)),(11,.s (.int .i64 s.hor)),(12,.adr ((aL s).drop 2)),(15,.adr ((aL s).drop 4))],[(2,.box [.s (.int .i64 0),.s (.int .i64 0),.s (.slice none 0 0),.s (.slice none 0 0),.s (.slice none 0 0),.s (.slice none 0 0)])]⟩ ?_ (fun hD54=>?_)
 ·
  refine aH 1 [5,8,11] (by kernel_rfl) ⟨?_,?_,?_,?_,trivial⟩
  ·
   refine⟨_,rfl,rfl,(ao rfl (aE aA 1 rfl (aF (ag hD42 rfl rfl rfl))))⟩
  ·
   refine⟨_,rfl,rfl,(ao rfl (aE aA 1 rfl (aF (ag hD46 rfl rfl rfl))))⟩
  ·
   refine⟨_,rfl,rfl,(ao rfl (aE aA 1 rfl (aF (ag hD47 rfl rfl rfl))))⟩
  ·
   refine⟨_,rfl,rfl,(ao rfl (aZ hf rfl rfl rfl aX (aF (ag hD48 rfl rfl rfl))))⟩
 refine aK 8 #[true,false,true,false,true,true,false,true,false,false,false,false,false] ⟨53,[(1,.adr (aL s)),(2,.ref 2 0 0 0),(8,.adr ((aL s).drop 0)),(10,.adr ((aL s).drop 1)),(13,.sl 4 (s.opn.map seC)),(15,.adr ((aL s).drop 4))],[(2,.box [.s (.int .i64 0),.s (.int .i64 0),.s (.slice none 0 0),.s (.slice none 0 0),.s (.slice none 0 0),.s (.slice none 0 0)])]⟩ ?_ (fun hD55=>?_)
 ·
  refine aH 1 [3,6,8,11] (by kernel_rfl) ⟨?_,?_,?_,?_,?_,trivial⟩
  ·
   refine⟨_,rfl,rfl,(ao rfl (aE aA 1 rfl (aF (ag hD43 rfl rfl rfl))))⟩
  ·
   refine⟨_,rfl,rfl,(ao rfl (aE aA 1 rfl (aF (ag hD46 rfl rfl rfl))))⟩
  ·
   refine⟨_,rfl,rfl,(ao rfl (aN hf rfl (aP rfl rfl fB rfl (eZ s.opn (by omega))) (aF (ag hD49 rfl rfl rfl))))⟩
  ·
   refine⟨_,rfl,rfl,(ao rfl (aE aA 1 rfl (aF (ag hD50 rfl rfl rfl))))⟩
  ·
   refine⟨_,rfl,rfl,(ao rfl (aZ hf rfl rfl rfl aX (aF (ag hD51 rfl rfl rfl))))⟩
 refine aK 8 #[true,false,true,false,true,false,false,true,true,false,false,false,false] ⟨53,[(1,.adr (aL s)),(2,.ref 2 0 0 0),(8,.adr ((aL s).drop 0)),(10,.adr ((aL s).drop 1)),(12,.adr ((aL s).drop 2)),(16,.sl 4 (s.sub.map enC))],[(2,.box [.s (.int .i64 0),.s (.int .i64 0),.s (.slice none 0 0),.s (.slice none 0 0),.s (.slice none 0 0),.s (.slice none 0 0)])]⟩ ?_ (fun hD56=>?_)
 ·
  refine aH 1 [3,5,11] (by kernel_rfl) ⟨?_,?_,?_,?_,trivial⟩
  ·
   refine⟨_,rfl,rfl,(ao rfl (aE aA 1 rfl (aF (ag hD44 rfl rfl rfl))))⟩
  ·
   refine⟨_,rfl,rfl,(ao rfl (aE aA 1 rfl (aF (ag hD47 rfl rfl rfl))))⟩
  ·
   refine⟨_,rfl,rfl,(ao rfl (aE aA 1 rfl (aF (ag hD50 rfl rfl rfl))))⟩
  ·
   refine⟨_,rfl,rfl,(ao rfl (aZ hf rfl rfl rfl aX (aF (ag hD52 rfl rfl rfl))))⟩
 refine aK 8 #[true,false,true,false,true,false,false,true,false,false,false,true,false] ⟨53,[(1,.adr (aL s)),(2,.ref 2 0 0 0),(3,.ref 3 0 0 0),(8,.adr ((aL s).drop 0)),(10,.adr ((aL s).drop 1)),(12,.adr ((aL s).drop 2)),(15,.adr ((aL s).drop 4))],[(3,.box [.s (.int .i64 0),.s (.int .i64 0),.s (.slice none 0 0),.s (.slice none 0 0),.s (.slice none 0 0),.s (.slice none 0 0)]),(2,.box [.s (.int .i64 0),.s (.int .i64 0),.s (.slice none 0 0),.s (.slice none 0 0),.s (.slice none 0 0),.s (.slice none 0 0)])]⟩ ?_ (fun hD57=>?_)
 ·
  refine aH 1 [3,5,8] (by kernel_rfl) ⟨?_,?_,?_,?_,trivial⟩
  ·
   refine⟨_,rfl,rfl,(ao rfl (aE aA 1 rfl (aF (ag hD45 rfl rfl rfl))))⟩
  ·
   refine⟨_,rfl,rfl,(ao rfl (aE aA 1 rfl (aF (ag hD48 rfl rfl rfl))))⟩
  ·
   refine⟨_,rfl,rfl,(ao rfl (aE aA 1 rfl (aF (ag hD51 rfl rfl rfl))))⟩
  ·
   refine⟨_,rfl,rfl,(ao rfl (aE aA 1 rfl (aF (ag hD52 rfl rfl rfl))))⟩
 refine gZ (mQ (sl':=[(1,.adr (aL s)),(2,.ref 2 0 0 0),(8,.adr ((aL s).drop 0)),(10,.adr ((aL s).drop 1)),(12,.adr ((aL s).drop 2)),(15,.adr ((aL s).drop 4))]) (m':=[(2,.box [.s (.int .i64 0),.s (.int .i64 0),.s (.slice none 0 0),.s (.slice none 0 0),.s (.slice none 0 0),.s (.slice none 0 0)])]) rfl rfl rfl) (aH 1 [3,5,8,11] (by kernel_rfl) ⟨?_,?_,?_,?_,?_,trivial⟩)
 ·
  refine⟨_,rfl,rfl,(ao rfl (aE aA 1 rfl (aF (ag hD53 rfl rfl rfl))))⟩
 ·
  refine⟨_,rfl,rfl,(ao rfl (aE aA 1 rfl (aF (ag hD54 rfl rfl rfl))))⟩
 ·
  refine⟨_,rfl,rfl,(ao rfl (aE aA 1 rfl (aF (ag hD55 rfl rfl rfl))))⟩
 ·
  refine⟨_,rfl,rfl,(ao rfl (aE aA 1 rfl (aF (ag hD56 rfl rfl rfl))))⟩
 ·
  refine⟨_,rfl,rfl,(ao rfl (aZ hf rfl rfl rfl aX (aF (ag hD57 rfl rfl rfl))))⟩
theorem aD9 (s:Sta) (hz:SzS 140737488353280 s) :Den Tryz.prog 11 [.agg (aL s)]  (·=.s (.int .i64 (manyI s))):=by
 refine aY Tryz.func11 rfl (Nat.le_of_ble_eq_true rfl) (fun w0 A hf=>(aC (fun K1 hK1=>(aB (aN hf rfl (cS rfl rfl (lf rfl)) (aE aA 1 rfl (aD (hK1 _ (aC (fun K2 hK2=>(dE hf bK (by kernel_rfl) rfl (bC aA 1 rfl (bT [(3,_)] rfl rfl ⟨⟨rfl,rfl⟩,trivial⟩ rfl (aP rfl rfl aPo rfl (aDt s hz)) (bC aA 3 rfl (bN [(4,_),(7,_)] rfl rfl ⟨⟨rfl,rfl⟩,⟨rfl,rfl⟩,trivial⟩ rfl (eO rfl rfl rfl) ?_)))))))))))))))
 refine bC aA 1 rfl (dC [2] rfl rfl rfl (hK2 _ (aM ?_)))
 refine⟨_,rfl,?_⟩
 simp only[manyI,List.length_map]; rfl
end Go.Proofs.YtijnkglkchhomaaGreat
set_option linter.unusedVariables false
set_option linter.unusedSimpArgs false
namespace Go.Proofs.YtijnkglkchhomaaGreat
open Go Go.Abs
theorem aDg (a b:Sta) (ha:SzS 140737488355328 a) (hb:SzS 140737488355328 b) :Den Tryz.prog 34 [.agg (aL a),.agg (aL b)]  (·=.s (.bool (decide (a=b)))):=by
 have a1:=ha.o
 have a2:=ha.u
 have a3:=ha.b
 have a4:=ha.t
 have b1:=hb.o
 have b2:=hb.u
 have b3:=hb.b
 have b4:=hb.t
 refine aY Tryz.func34 rfl (Nat.le_of_ble_eq_true rfl) (fun w0 A hf=>(aC (fun K1 hK1=>(aB (aN hf rfl (cS rfl rfl (lf rfl)) (aN hf rfl (cS rfl rfl (lf rfl)) (aE aA 1 rfl (aD (hK1 _ (aC (fun K2 hK2=>(aB (aE aA 4 rfl (aN hf rfl (aP rfl rfl aPd rfl (aCz a.usr b.usr (by omega) (by omega) (fun x hx=>by have:=ha.y x hx; omega) (fun x hx=>by have:=hb.y x hx; omega))) ?_))))))))))))))
 refine aE aA 1 rfl (aD (hK2 _ (aC (fun K3 hK3=>(aB (aE aA 4 rfl (aI rfl (aA2 rfl aHc aFj cP (l3 rfl) rfl) (aE aA 4 rfl (aI rfl (aA2 rfl aHc aFj cP (l3 rfl) rfl) (aI rfl (iA rfl rfl aSc rfl) (aE aA 1 rfl (aD (hK3 _ ?_)))))))))))))
 refine aC (fun K4 hK4=>(aB (aE aA 2 rfl (bA rfl rfl rfl (fun hg1=>?_) (fun hg1=>?_)))))
 ·
  simp only[bs] at hg1
  refine aI rfl (fV rfl) (aE aA 2 rfl (bA rfl rfl rfl (fun hg2=>?_) (fun hg2=>?_)))
  ·
   simp only[bs] at hg2
   refine aI rfl (bM rfl rK jI rfl) ?_
   refine aE aA 3 rfl (bF rfl rfl rfl (aN hf rfl (aP rfl rfl aPa rfl (aN1 a.opn b.opn (by omega) (by omega))) (aE aA 2 rfl (bA rfl rfl rfl (fun hg3=>?_) (fun hg3=>?_)))))
   ·
    simp only[bs] at hg3
    refine aI rfl (bM rfl rJ kM rfl) ?_
    refine aE aA 3 rfl (bF rfl rfl rfl (aN hf rfl (aP rfl rfl aO9 rfl (aQw a.sub b.sub (by omega) (by omega))) (aE aA 2 rfl (bA rfl rfl rfl (fun hg4=>?_) (fun hg4=>?_)))))
    ·
     simp only[bs] at hg4
     refine aI rfl (bM rfl vD qP rfl) ?_
     refine aE aA 3 rfl (bF rfl rfl rfl (aN hf rfl (aP rfl rfl aO8 rfl (aNy a.tmb b.tmb (by omega) (by omega))) (aE aA 2 rfl (aD (hK4 _ (aM ?_))))))
     refine⟨_,rfl,?_⟩
     refine aQ ?_
     rw[Bool.eq_iff_iff]
     simp only[yE]
     simp_all
    ·
     simp only[bs] at hg4
     refine aE aA 6 rfl (aD (hK4 _ (aM ?_)))
     refine⟨_,rfl,?_⟩
     refine aQ ?_
     rw[Bool.eq_iff_iff]
     simp only[yE]
     simp_all
   ·
    simp only[bs] at hg3
    refine aE aA 13 rfl (aD (hK4 _ (aM ?_)))
    refine⟨_,rfl,?_⟩
    refine aQ ?_
    rw[Bool.eq_iff_iff]
    simp only[yE]
    simp_all
  ·
   simp only[bs] at hg2
   refine aE aA 20 rfl (aD (hK4 _ (aM ?_)))
   refine⟨_,rfl,?_⟩
   refine aQ ?_
   rw[Bool.eq_iff_iff]
   simp only[yE]
   simp_all
 ·
  simp only[bs] at hg1
  refine aE aA 23 rfl (aD (hK4 _ (aM ?_)))
  refine⟨_,rfl,?_⟩
  refine aQ ?_
  rw[Bool.eq_iff_iff]
  simp only[yE]
  simp_all
end Go.Proofs.YtijnkglkchhomaaGreat
set_option linter.unusedVariables false
set_option linter.unusedSimpArgs false
namespace Go.Proofs.YtijnkglkchhomaaGreat
open Go Go.Abs
theorem aIp (e:Se) (t:Int):Den Tryz.prog 89 [.sl 4 ([e].map seC),.s (.int .i64 e.1.1),.s (.string e.1.2),.s (.int .i64 t)] (·=.tup [.sl 4 (([]:List Se).map seC),.agg (stC (eW e t)),.s (.int .i64 0)]):=by
  obtain ⟨h1,h2,h3⟩:=aRv e t
  exact fH (aBa [e] e.1.1 e.1.2 t (by simp)) (by rw[h1,h2,h3])
theorem uK (s:Sta) (hz:SzS 140737488353280 s) (ho:s.opn.length≤40) (hr:dG cM s.usr) :Den Tryz.prog 43 [.agg (aL s)]  (·=.agg (aL (kZ s))):=by
 have z1:=hz.o
 have z2:=hz.u
 have z3:=hz.b
 have z4:=hz.t
 refine aY Tryz.func43 rfl (Nat.le_of_ble_eq_true rfl) (fun w0 A hf=>(aC (fun K1 hK1=>(aB (rQ hf rfl rfl rfl rfl (l1 rfl) ?_)))))
 refine aZ hf rfl rfl rfl aX (aD (hK1 _ (aC (fun K2 hK2=>(aB (aE aA 1 rfl (gO hf [] [(E0,222),(E1,223)] rfl rfl rfl rfl rfl rfl (by decide) (by decide) (by decide) rfl lM (kF s (hz.mono (by omega))) ?_)))))))
 rintro r m1 ⟨rfl,rfl⟩
 rw[oC]
 refine cB (cN (sl':=[(1,.ref 1 0 0 0),(2,.ref 2 0 0 0),(9,.agg (eA s 222 223))]) (m':=[(222,.buf 2 (s.usr.map usC)),(223,.buf 2 (s.tmb.map tmC)),(2,.box [.s (.int .i64 0),.s (.int .i64 0),.s (.slice none 0 0),.s (.slice none 0 0),.s (.slice none 0 0),.s (.slice none 0 0)]),(1,.box (aL s))]) ⟨rfl,rfl,rfl,trivial⟩ rfl) (bD hf rfl rfl bS rfl rfl (l1 rfl) (l4 rfl) rfl (aD (hK2 _ (aC (fun K3 hK3=>(aC (fun K4 hK4=>(aB (aE aA 4 rfl (aD (hK4 _ (aU (bW (ι:=Nat) (fun k=>⟨38,[(1,.ref 1 0 0 0),(2,.ref 2 0 0 0),(11,.sl 4 (s.opn.map seC)),(12,.s (.int .i64 ((s.opn.map seC).length:Nat))),(13,.s (.int .i64 (k:Nat)))],[(222,.buf 2 ((oB s k).usr.map usC)),(223,.buf 2 ((oB s k).tmb.map tmC)),(2,.box [.s (.int .i64 0),.s (.int .i64 0),.s (.slice none 0 0),.s (.slice none 0 0),.s (.slice none 0 0),.s (.slice none 0 0)]),(1,.box (eA (oB s k) 222 223))]⟩) (fun k=>k≤s.opn.length) (fun k=>s.opn.length - k) 0 ?_ ?_ ?_)))))))))))))
 · exact Nat.zero_le _
 · exact cN ⟨rfl,rfl,rfl,rfl,rfl,trivial⟩ rfl
 ·
  rintro k hC
  refine aC (fun K5 hK5=>(aB (aE aA 1 rfl (aD (hK5 _ (aC (fun K6 hK6=>(aO rfl (fun hc1=>?_) (fun hc1=>?_)))))))))
  ·
   simp only[bs] at hc1
   refine aR (hK6 _ (aC (fun K7 hK7=>(aU (aC (fun K8 hK8=>(aB ?_)))))))
   have hk:k<s.opn.length:=by omega
   refine aI rfl (bJ rfl rfl dY cX (by first | exact ixm (by omega) | assumption | exact⟨by decide,rfl⟩)) ?_
   refine aE aA 1 rfl (cC hf rfl nK rfl cX rfl rfl rfl rfl (lf rfl) (aD (hK8 _ (aC (fun K9 hK9=>(aB (aE aA 1 rfl (aN hf rfl (bR jQ rfl rfl rfl rfl (l2 rfl)) (aE aA 6 rfl (aN hf rfl (aP rfl rfl aFa rfl (aIp s.opn[k] s.now)) (aE aA 4 rfl (aZ hf rfl rfl rfl dX (aE aA 1 rfl ?_)))))))))))))
   refine bD hf rfl rfl bB rfl rfl (l1 rfl) (l4 rfl) rfl (cB (jC (nee 6) (sl':=[(1,_),(2,_),(4,_),(6,_),(11,_),(12,_),(13,_),(29,_)]) (m':=[(222,.buf 2 ((oB s k).usr.map usC)),(223,.buf 2 ((oB s k).tmb.map tmC)),(2,.box [.s (.int .i64 0),.s (.int .i64 0),.s (.slice none 0 0),.s (.slice none 0 0),.s (.slice none 0 0),.s (.slice none 0 0)]),(1,.box (eA (oB s k) 222 223))]) ⟨⟨_,rfl,rfl⟩,⟨_,rfl,rfl⟩,⟨_,rfl,rfl⟩,⟨_,rfl,rfl⟩,⟨_,rfl,rfl⟩,⟨_,rfl,rfl⟩,⟨_,rfl,rfl⟩,⟨_,rfl,rfl⟩,trivial⟩ rfl) (aE aA 1 rfl (aD ?_)))
   refine hK9 _ (aB (aI rfl (cD (cs':=eA (oB s k) 222 223) rfl jH bS rfl rfl rfl) (aE aA 3 rfl (gO hf [(E0,222),(E1,223)] [(E0,222),(E1,223)] rfl rfl rfl rfl rfl rfl (by decide) (by decide) (by decide) rfl kJ (mB (oB s k) s.opn[k].1.2 (eW s.opn[k] s.now) ((aHv hz hr k (by omega)).mono (by omega)) (aDo hr k (by omega))) ?_))))
   rintro r m1 ⟨rfl,rfl⟩
   rw[oC,← zW hk]
   refine cB (cN (sl':=[(1,.ref 1 0 0 0),(2,.ref 2 0 0 0),(11,.sl 4 (s.opn.map seC)),(12,.s (.int .i64 ((s.opn.map seC).length:Nat))),(13,.s (.int .i64 (k:Nat))),(34,.agg (eA (oB s (k+1)) 222 223))]) (m':=[(222,.buf 2 ((oB s (k+1)).usr.map usC)),(223,.buf 2 ((oB s (k+1)).tmb.map tmC)),(2,.box [.s (.int .i64 0),.s (.int .i64 0),.s (.slice none 0 0),.s (.slice none 0 0),.s (.slice none 0 0),.s (.slice none 0 0)]),(1,.box [.s (.int .i64 (oB s k).now),.s (.int .i64 (oB s k).hor),.sl 4 ((oB s k).opn.map seC),.bad,.sl 4 ((oB s k).sub.map enC),.bad])]) ⟨rfl,rfl,rfl,rfl,rfl,rfl,trivial⟩ rfl) ?_
   refine bD hf rfl rfl bS rfl rfl (l1 rfl) (l4 rfl) rfl ?_
   refine bV ?_
   refine hK7 _ (aB ?_)
   refine aI rfl (bQ rfl rfl (by omega) (by omega)) ?_
   refine aE aA 1 rfl (aD ?_)
   exact⟨k+1,by omega,by omega,cN ⟨rfl,rfl,rfl,rfl,rfl,trivial⟩ rfl⟩
  ·
   simp only[bs] at hc1
   refine bI (hK3 _ (aC (fun K10 hK10=>(aB (aE aA 1 rfl (bD hf rfl rfl jI rfl rfl (l1 rfl) (l4 rfl) rfl (aD (hK10 _ (aC (fun K11 hK11=>(aB (aI rfl (cD (cs':=[.s (.int .i64 s.now),.s (.int .i64 s.hor),.s (.slice none 0 0),.own 222 2 0 ((oB s k).usr.map usC).length,.sl 4 (s.sub.map enC),.own 223 2 0 (s.tmb.map tmC).length]) rfl jH bS rfl rfl rfl) (cB (rA (fun w p v h=>aQ2 (k:=4) h)) (bD hf rfl rfl bS rfl rfl (l1 rfl) (l4 rfl) rfl ?_))))))))))))))
   refine aD (hK11 _ (aM ?_))
   refine⟨_,rfl,?_⟩
   show AV.agg [_,_,_,AV.conv _ (.own 222 2 0 ((oB s k).usr.map usC).length),_,AV.conv _ (.own 223 2 0 (s.tmb.map tmC).length)]=_
   rw[cL (g:=222) rfl rfl,cL (g:=223) rfl rfl,show (oB s k).usr=xB s s.opn s.usr from by unfold oB; rw[List.take_of_length_le (by omega)]]; rfl
end Go.Proofs.YtijnkglkchhomaaGreat
set_option linter.unusedVariables false
set_option linter.unusedSimpArgs false
namespace Go.Proofs.YtijnkglkchhomaaGreat
open Go Go.Abs
theorem aA1 (s:Sta) (hz:SzS 140737488353280 s) :Den Tryz.prog 44 [.agg (aL s)]  (·=.agg (aL (pR s))):=by
 have z1:=hz.o
 have z2:=hz.u
 have z3:=hz.b
 have z4:=hz.t
 have hlm:(s.usr.map usC).length=s.usr.length:=List.length_map _
 refine aY Tryz.func44 rfl (Nat.le_of_ble_eq_true rfl) (fun w0 A hf=>(aC (fun K1 hK1=>(aB (rQ hf rfl rfl rfl rfl (l1 rfl) ?_)))))
 refine aZ hf rfl rfl rfl aX (aD (hK1 _ (aC (fun K2 hK2=>(aB (aE aA 1 rfl (gO hf [] [(E0,222),(E1,223)] rfl rfl rfl rfl rfl rfl (by decide) (by decide) (by decide) rfl lM (kF s (hz.mono (by omega))) ?_)))))))
 rintro r m1 ⟨rfl,rfl⟩
 rw[oC]
 refine cB (cN (sl':=[(1,.ref 1 0 0 0),(2,.ref 2 0 0 0),(8,.agg (eA s 222 223))]) (m':=[(222,.buf 2 (s.usr.map usC)),(223,.buf 2 (s.tmb.map tmC)),(2,.box [.s (.int .i64 0),.s (.int .i64 0),.s (.slice none 0 0),.s (.slice none 0 0),.s (.slice none 0 0),.s (.slice none 0 0)]),(1,.box (aL s))]) ⟨rfl,rfl,rfl,trivial⟩ rfl) (bD hf rfl rfl bS rfl rfl (l1 rfl) (l4 rfl) rfl (aD (hK2 _ (aC (fun K3 hK3=>(aB (qS hf 2 rfl rfl rfl (aD (hK3 _ (aC (fun K4 hK4=>(aC (fun K5 hK5=>(aB (aE aA 4 rfl ?_)))))))))))))))
 refine aD (hK5 _ (aU (bW (ι:=Nat) (fun k=>⟨41,[(1,.ref 1 0 0 0),(2,.ref 2 0 0 0),(3,.own 3 2 0 (lK s.hor (s.usr.take k)).length),(10,.own 222 2 0 (s.usr.map usC).length),(11,.s (.int .i64 ((s.usr.map usC).length:Nat))),(12,.s (.int .i64 (k:Nat)))],[(3,.buf 2 ((lK s.hor (s.usr.take k)).map usC)),(222,.buf 2 (s.usr.map usC)),(223,.buf 2 (s.tmb.map tmC)),(2,.box [.s (.int .i64 0),.s (.int .i64 0),.s (.slice none 0 0),.s (.slice none 0 0),.s (.slice none 0 0),.s (.slice none 0 0)]),(1,.box (eA s 222 223))]⟩) (fun k=>k≤s.usr.length) (fun k=>s.usr.length - k) 0 ?_ ?_ ?_)))
 · exact Nat.zero_le _
 · exact cN ⟨rfl,rfl,rfl,rfl,rfl,rfl,trivial⟩ rfl
 ·
  rintro k hC
  refine aC (fun K6 hK6=>(aB (aE aA 1 rfl (aD (hK6 _ (aC (fun K7 hK7=>(aO rfl (fun hc1=>?_) (fun hc1=>?_)))))))))
  ·
   simp only[bs] at hc1
   refine aR (hK7 _ (aC (fun K8 hK8=>(aU (aC (fun K9 hK9=>(aB ?_)))))))
   have hk:k<s.usr.length:=by omega
   have hpl:=xE s.hor (s.usr.take k)
   have htl:(s.usr.take k).length=k:=by rw[List.length_take]; omega
   refine aI rfl (cF rfl rfl eC cV (by omega)) (aI rfl (cD rfl aHf cV rfl (qZ (by omega) hk rfl) (oD (by omega) hk rfl)) (cC hf rfl jM rfl cV rfl rfl rfl rfl (lf rfl) (aD (hK9 _ (aC (fun K10 hK10=>(aB (aE aA 4 rfl (aN hf rfl (aP rfl rfl aO4 rfl (aOv s.usr[k].2 s.hor (by have:=hz.y _ (List.getElem_mem hk); omega))) ?_)))))))))
   refine aE aA 1 rfl (aD (hK10 _ (aC (fun K11 hK11=>(aB (aE aA 3 rfl (aD (hK11 _ (aO rfl (fun hc2=>?_) (fun hc2=>?_))))))))))
   ·
    simp only[bs] at hc2
    have hne:¬ mW s.hor s.usr[k].2=[]:=fun h=>by
     have h2:(mW s.hor s.usr[k].2).length=0:=by rw[h]; rfl
     simp only[mW,List.length_map] at *
     omega
    refine aB (aE aA 4 rfl (aI rfl (dD rfl jM xQ (l3 rfl) rfl) (aN hf rfl (bR jP rfl rfl rfl rfl (l2 rfl)) (dQ hf rfl jP rfl rfl rfl (.inl rfl) (by rw[List.length_map]) rfl (by first | rfl | simp [iS,bU]) (by first | (simp only[maxLen,List.length_map,List.length_append,List.length_cons,List.length_nil]; omega) | (simp [maxLen] <;> omega)) (by first | (simp only[List.length_map,List.length_append,List.length_cons,List.length_nil]; omega) | (simp <;> omega)) ?_))))
    refine cB (iK [1,2,10,11,12,30] rfl) (aE aA 1 rfl ?_)
    refine bV ?_
    refine hK8 _ (aB ?_)
    refine aI rfl (bQ rfl rfl (by omega) (by omega)) ?_
    refine aE aA 1 rfl (aD ?_)
    exact⟨k+1,by omega,by omega,cN ⟨rfl,rfl,(by rw[qX hk,nA,if_neg hne,List.length_append]; rfl),rfl,rfl,rfl,trivial⟩ (by rw[qX hk,nA,if_neg hne,List.map_append]; rfl)⟩
   ·
    simp only[bs] at hc2
    have hem:mW s.hor s.usr[k].2=[]:=List.eq_nil_of_length_eq_zero (by simp only[mW,List.length_map] at *; omega)
    refine aR (hK8 _ (aB ?_))
    refine aI rfl (bQ rfl rfl (by omega) (by omega)) ?_
    refine aE aA 1 rfl (aD ?_)
    exact⟨k+1,by omega,by omega,cN ⟨rfl,rfl,(by rw[qX hk,nA,if_pos hem,List.append_nil]; rfl),rfl,rfl,rfl,trivial⟩ (by rw[qX hk,nA,if_pos hem,List.append_nil])⟩
  ·
   simp only[bs] at hc1
   refine bI (hK4 _ (aC (fun K12 hK12=>(aB (aE aA 5 rfl (aN hf rfl (aP rfl rfl aO3 rfl (aR7 s.sub s.hor (by omega))) (aE aA 1 rfl (bD hf rfl rfl mZ rfl rfl (l1 rfl) (l4 rfl) rfl (aE aA 1 rfl (bD hf rfl rfl kM rfl rfl (l1 rfl) (l4 rfl) rfl (aD (hK12 _ (aC (fun K13 hK13=>?_))))))))))))))
   refine aB (aI rfl (cD (cs':=[.s (.int .i64 s.now),.s (.int .i64 s.hor),.sl 4 (s.opn.map seC),.own 3 2 0 (lK s.hor (s.usr.take k)).length,.sl 4 ((s.sub.filter fun e=>!decide (e.2.2≤s.hor)).map enC),.own 223 2 0 (s.tmb.map tmC).length]) rfl jH bS rfl rfl rfl) (bD hf rfl rfl bS rfl rfl (l1 rfl) (l4 rfl) rfl (aD (hK13 _ (aM ?_)))))
   refine⟨_,rfl,?_⟩
   show AV.agg [_,_,_,AV.conv _ (.own 3 2 0 (lK s.hor (s.usr.take k)).length),_,AV.conv _ (.own 223 2 0 (s.tmb.map tmC).length)]=_
   rw[cL (g:=3) rfl (by rw[List.length_map]),cL (g:=223) rfl rfl,List.take_of_length_le (by omega)]; rfl
end Go.Proofs.YtijnkglkchhomaaGreat
set_option linter.unusedVariables false
set_option linter.unusedSimpArgs false
namespace Go.Proofs.YtijnkglkchhomaaGreat
open Go Go.Abs
theorem aHs (l:List Se) (hl:l.length≤9223372036854775807) (ht:∀ e∈l,TS e.1.2) :Den Tryz.prog 145 [.sl 4 (l.map seC)]  (·=.s (.bool (fU l))):=by
 refine aY Tryz.func145 rfl (Nat.le_of_ble_eq_true rfl) (fun w0 A hf=>(aC (fun K1 hK1=>(aB (aE aA 1 rfl (aD (hK1 _ (aC (fun K2 hK2=>(aC (fun K3 hK3=>(aB (aE aA 3 rfl (aD (hK3 _ (aU ?_))))))))))))))))
 refine bW (ι:=Nat) (fun k=>⟨52,[(0,.sl 4 (l.map seC)),(6,.sl 4 (l.map seC)),(7,.s (.int .i64 ((l.map seC).length:Nat))),(8,.s (.int .i64 (k:Nat)))],[]⟩) (fun k=>k≤l.length∧mK fG fY none l=mK fG fY (gU l k) (l.drop k)) (fun k=>l.length - k) 0 ?_ ?_ ?_
 · exact⟨Nat.zero_le _,rfl⟩
 · exact cU rfl
 ·
  rintro k hC
  obtain ⟨h1,h2⟩:=hC
  refine aC (fun K4 hK4=>(aB (aE aA 1 rfl (aD (hK4 _ (aC (fun K5 hK5=>(aO rfl (fun hc1=>?_) (fun hc1=>?_)))))))))
  ·
   simp only[bs] at hc1
   refine aR (hK5 _ (aC (fun K6 hK6=>(aU (aC (fun K7 hK7=>(aB (aE aA 1 rfl ?_))))))))
   refine aI rfl (bJ rfl rfl dY cX (by first | exact ixm (by omega) | assumption | exact⟨by decide,rfl⟩)) ?_
   refine aE aA 1 rfl (aZ hf rfl rfl rfl nK (aE aA 1 rfl (bD hf rfl rfl cX rfl rfl (l1 rfl) (l4 rfl) rfl (cB (jC (nee 4) (sl':=[(0,_),(3,_),(4,_),(6,_),(7,_),(8,_)]) (m':=[]) ⟨⟨_,rfl,rfl⟩,⟨_,rfl,rfl⟩,⟨_,rfl,rfl⟩,⟨_,rfl,rfl⟩,⟨_,rfl,rfl⟩,⟨_,rfl,rfl⟩,trivial⟩ rfl) (aD (hK7 _ (aC (fun K8 hK8=>(aB (aE aA 2 rfl (aN hf rfl (aP rfl rfl iX rfl (Nm.right_den _ (ht _ (List.getElem_mem _)))) (aE aA 1 rfl (bA rfl rfl rfl (fun hg2=>?_) (fun hg2=>?_))))))))))))))
   ·
    refine aI rfl (bM rfl aIz cP rfl) ?_
    refine aE aA 1 rfl (bF rfl rfl rfl (aN hf rfl (aP rfl rfl vG rfl (wU _ _ _)) (aE aA 2 rfl (bA rfl rfl rfl (fun hg3=>?_) (fun hg3=>?_)))))
    ·
     simp only[bs] at hg3
     refine aI rfl (bM rfl aIy cP rfl) ?_
     refine aE aA 1 rfl (bF rfl rfl rfl (aN hf rfl (aP rfl rfl vG rfl (wU _ _ _)) (aE aA 2 rfl (bA rfl rfl rfl (fun hg4=>?_) (fun hg4=>?_)))))
     ·
      simp only[bs] at hg4
      refine aI rfl (bM rfl aIx cP rfl) ?_
      refine aE aA 1 rfl (bF rfl rfl rfl (aN hf rfl (aP rfl rfl vG rfl (wU _ _ _)) (aE aA 2 rfl (aD (hK8 _ (aC (fun K9 hK9=>(dE hf bK (by kernel_rfl) rfl (bC aA 3 rfl (eI 33 false rfl (fun hg5=>?_) (fun hg5=>?_)))))))))))
      ·
       simp only[bs] at hg5
       refine bC aA 3 rfl (eI 36 true rfl (fun hg6=>?_) (fun hg6=>?_))
       ·
        simp only[bs] at hg6
        refine bC aA 2 rfl ?_
        refine bN [(38,_)] rfl rfl ⟨⟨rfl,rfl⟩,trivial⟩ rfl (eU rfl rfl (by omega) (by omega)) ?_
        refine bN [(37,_),(39,_)] rfl rfl ⟨⟨rfl,rfl⟩,⟨rfl,rfl⟩,trivial⟩ rfl (bJ rfl rfl dY cX (gQ (k:=k - 1) (by omega) (by omega))) (bC aA 7 rfl (dC [0,6,7,8,47] rfl rfl rfl (hK9 _ (aO rfl (fun hc7=>?_) (fun hc7=>?_)))))
        ·
         simp only[bs] at hc7
         refine aC (fun K10 hK10=>(aB (aE aA 1 rfl (aD (hK10 _ (aM ?_))))))
         refine⟨_,rfl,?_⟩
         refine aQ ?_
         first | (rw[fU,eT h2 (by omega) (show fG l[k]=false from by
          unfold fG
          rw[Bool.eq_false_iff]
          simp only[ne_eq,Bool.and_eq_true,decide_eq_true_eq]
          rintro ⟨q1,⟨⟨q2,q3⟩,⟨q4,q5⟩⟩,q6,q7⟩
          first | omega | (simp_all; done) | (simp_all; omega))]; rfl) | (rw[fU,fF h2 (by omega) (by omega) (show fY _ _=false from by simp only[fY,decide_eq_false_iff_not]; omega)]; rfl)
        ·
         simp only[bs] at hc7
         refine aR (hK6 _ (aB ?_))
         refine aI rfl (bQ rfl rfl (by omega) (by omega)) ?_
         refine aE aA 1 rfl (aD ?_)
         exact⟨k+1,⟨by omega,fL h2 (by omega) (show fG l[k]=true from by
          unfold fG
          simp only[Bool.and_eq_true,decide_eq_true_eq]
          exact⟨by first | assumption | (simp_all; done),⟨⟨by omega,by omega⟩,by omega,by omega⟩,by omega,by omega⟩) (fun h0=>by simp only[fY,decide_eq_true_eq]; omega)⟩,by omega,cU rfl⟩
       ·
        simp only[bs] at hg6
        refine bC aA 11 rfl (dC [0,6,7,8,47] rfl rfl rfl (hK9 _ (bZ rfl (aR (hK6 _ (aB ?_))))))
        refine aI rfl (bQ rfl rfl (by omega) (by omega)) ?_
        refine aE aA 1 rfl (aD ?_)
        exact⟨k+1,⟨by omega,fL h2 (by omega) (show fG l[k]=true from by
         unfold fG
         simp only[Bool.and_eq_true,decide_eq_true_eq]
         exact⟨by first | assumption | (simp_all; done),⟨⟨by omega,by omega⟩,by omega,by omega⟩,by omega,by omega⟩) (fun h0=>by simp only[fY,decide_eq_true_eq]; omega)⟩,by omega,cU rfl⟩
      ·
       simp only[bs] at hg5
       refine bC aA 3 rfl (bE rfl rfl ?_)
       refine bE rfl rfl ?_
       refine bE rfl rfl ?_
       refine bE rfl rfl ?_
       refine bE rfl rfl ?_
       refine bE rfl rfl ?_
       refine bE rfl rfl ?_
       refine bE rfl rfl ?_
       refine bE rfl rfl ?_
       refine bC aA 2 rfl (dC [0,6,7,8,47] rfl rfl rfl (hK9 _ (bP rfl (aC (fun K11 hK11=>(aB (aE aA 1 rfl (aD (hK11 _ (aM ?_))))))))))
       refine⟨_,rfl,?_⟩
       refine aQ ?_
       first | (rw[fU,eT h2 (by omega) (show fG l[k]=false from by
        unfold fG
        rw[Bool.eq_false_iff]
        simp only[ne_eq,Bool.and_eq_true,decide_eq_true_eq]
        rintro ⟨q1,⟨⟨q2,q3⟩,⟨q4,q5⟩⟩,q6,q7⟩
        first | omega | (simp_all; done) | (simp_all; omega))]; rfl) | (rw[fU,fF h2 (by omega) (by omega) (show fY _ _=false from by simp only[fY,decide_eq_false_iff_not]; omega)]; rfl)
     ·
      simp only[bs] at hg4
      refine aE aA 4 rfl (aD (hK8 _ (aC (fun K12 hK12=>(dE hf bK (by kernel_rfl) rfl (bC aA 6 rfl (bE rfl rfl ?_)))))))
      refine bE rfl rfl ?_
      refine bE rfl rfl ?_
      refine bE rfl rfl ?_
      refine bE rfl rfl ?_
      refine bE rfl rfl ?_
      refine bE rfl rfl ?_
      refine bE rfl rfl ?_
      refine bE rfl rfl ?_
      refine bC aA 2 rfl (dC [0,6,7,8,47] rfl rfl rfl (hK12 _ (bP rfl (aC (fun K13 hK13=>(aB (aE aA 1 rfl (aD (hK13 _ (aM ?_))))))))))
      refine⟨_,rfl,?_⟩
      refine aQ ?_
      first | (rw[fU,eT h2 (by omega) (show fG l[k]=false from by
       unfold fG
       rw[Bool.eq_false_iff]
       simp only[ne_eq,Bool.and_eq_true,decide_eq_true_eq]
       rintro ⟨q1,⟨⟨q2,q3⟩,⟨q4,q5⟩⟩,q6,q7⟩
       first | omega | (simp_all; done) | (simp_all; omega))]; rfl) | (rw[fU,fF h2 (by omega) (by omega) (show fY _ _=false from by simp only[fY,decide_eq_false_iff_not]; omega)]; rfl)
    ·
     simp only[bs] at hg3
     refine aE aA 9 rfl (aD (hK8 _ (aC (fun K14 hK14=>(dE hf bK (by kernel_rfl) rfl (bC aA 6 rfl (bE rfl rfl ?_)))))))
     refine bE rfl rfl ?_
     refine bE rfl rfl ?_
     refine bE rfl rfl ?_
     refine bE rfl rfl ?_
     refine bE rfl rfl ?_
     refine bE rfl rfl ?_
     refine bE rfl rfl ?_
     refine bE rfl rfl ?_
     refine bC aA 2 rfl (dC [0,6,7,8,47] rfl rfl rfl (hK14 _ (bP rfl (aC (fun K15 hK15=>(aB (aE aA 1 rfl (aD (hK15 _ (aM ?_))))))))))
     refine⟨_,rfl,?_⟩
     refine aQ ?_
     first | (rw[fU,eT h2 (by omega) (show fG l[k]=false from by
      unfold fG
      rw[Bool.eq_false_iff]
      simp only[ne_eq,Bool.and_eq_true,decide_eq_true_eq]
      rintro ⟨q1,⟨⟨q2,q3⟩,⟨q4,q5⟩⟩,q6,q7⟩
      first | omega | (simp_all; done) | (simp_all; omega))]; rfl) | (rw[fU,fF h2 (by omega) (by omega) (show fY _ _=false from by simp only[fY,decide_eq_false_iff_not]; omega)]; rfl)
   ·
    simp only[bs] at hg2
    refine aE aA 14 rfl (aD (hK8 _ (aC (fun K16 hK16=>(dE hf bK (by kernel_rfl) rfl (bC aA 6 rfl (bE rfl rfl ?_)))))))
    refine bE rfl rfl ?_
    refine bE rfl rfl ?_
    refine bE rfl rfl ?_
    refine bE rfl rfl ?_
    refine bE rfl rfl ?_
    refine bE rfl rfl ?_
    refine bE rfl rfl ?_
    refine bE rfl rfl ?_
    refine bC aA 2 rfl (dC [0,6,7,8,47] rfl rfl rfl (hK16 _ (bP rfl (aC (fun K17 hK17=>(aB (aE aA 1 rfl (aD (hK17 _ (aM ?_))))))))))
    refine⟨_,rfl,?_⟩
    refine aQ ?_
    first | (rw[fU,eT h2 (by omega) (show fG l[k]=false from by
     unfold fG
     rw[Bool.eq_false_iff]
     simp only[ne_eq,Bool.and_eq_true,decide_eq_true_eq]
     rintro ⟨q1,⟨⟨q2,q3⟩,⟨q4,q5⟩⟩,q6,q7⟩
     first | omega | (simp_all; done) | (simp_all; omega))]; rfl) | (rw[fU,fF h2 (by omega) (by omega) (show fY _ _=false from by simp only[fY,decide_eq_false_iff_not]; omega)]; rfl)
  ·
   simp only[bs] at hc1
   refine bI (hK2 _ (aC (fun K18 hK18=>(aB (aE aA 4 rfl (aD (hK18 _ (aM ?_))))))))
   refine⟨_,rfl,?_⟩
   refine aQ ?_
   rw[fU,oA h2 (by omega),Bool.true_and,Bool.eq_iff_iff]
   simp only[decide_eq_true_eq,List.length_map]
   omega
theorem aB8 (l:List Se) (hl:l.length≤9223372036854775807) (ht:∀ e∈l,TS e.1.2) :Den Tryz.prog 46 [.sl 4 (l.map seC)]  (·=.s (.bool (fU l))):=by
 refine aY Tryz.func46 rfl (Nat.le_of_ble_eq_true rfl) (fun w0 A hf=>(aC (fun K1 hK1=>(aB (aE aA 1 rfl (aD (hK1 _ (aC (fun K2 hK2=>(aC (fun K3 hK3=>(aB (aE aA 3 rfl (aD (hK3 _ (aO rfl (fun hc1=>?_) (fun hc1=>?_)))))))))))))))))
 ·
  simp only[bs] at hc1
  refine aC (fun K4 hK4=>(aB (aE aA 1 rfl (aD (hK4 _ (aM ?_))))))
  refine⟨_,rfl,?_⟩
  refine aQ ?_
  rw[fU,show decide (l.length≤16)=false from by simp only[decide_eq_false_iff_not]; omega,Bool.and_false]
 ·
  simp only[bs] at hc1
  refine aR (hK2 _ (aC (fun K5 hK5=>(aC (fun K6 hK6=>(aB (aE aA 1 rfl (aD (hK6 _ (aU (bW (ι:=Nat) (fun k=>⟨65,[(0,.sl 4 (l.map seC)),(3,.s (.int .i64 (k:Nat)))],[]⟩) (fun k=>k≤l.length∧mK fG fY none l=mK fG fY (gU l k) (l.drop k)) (fun k=>l.length - k) 0 ?_ ?_ ?_)))))))))))
  · exact⟨Nat.zero_le _,rfl⟩
  · exact cU rfl
  ·
   rintro k hC
   obtain ⟨h1,h2⟩:=hC
   refine aC (fun K7 hK7=>(aC (fun K8 hK8=>(aB (aE aA 4 rfl (aD (hK8 _ (aO rfl (fun hc2=>?_) (fun hc2=>?_)))))))))
   ·
    simp only[bs] at hc2
    refine aR (hK7 _ (aC (fun K9 hK9=>(aU (aC (fun K10 hK10=>(aB (aE aA 2 rfl ?_))))))))
    refine aI rfl (bJ rfl rfl sK oK (by first | exact ixm (by omega) | assumption | exact⟨by decide,rfl⟩)) ?_
    refine aE aA 1 rfl (cC hf rfl aLp rfl oK rfl rfl rfl rfl (lf rfl) (aD (hK10 _ (aC (fun K11 hK11=>(aC (fun K12 hK12=>(aB (aE aA 2 rfl (aN hf rfl (aP rfl rfl nO rfl (Nm.refRight_den _ (ht _ (List.getElem_mem _)))) (aE aA 2 rfl (bA rfl rfl rfl (fun hg3=>?_) (fun hg3=>?_)))))))))))))
    ·
     simp only[bs] at hg3
     refine aI rfl (bM rfl aBg cP rfl) ?_
     refine aE aA 4 rfl (bA rfl rfl rfl (fun hg4=>?_) (fun hg4=>?_))
     ·
      simp only[bs] at hg4
      refine aI rfl (bM rfl aBg cP rfl) ?_
      refine aE aA 4 rfl (bA rfl rfl rfl (fun hg5=>?_) (fun hg5=>?_))
      ·
       simp only[bs] at hg5
       refine aI rfl (bM rfl aBf cP rfl) ?_
       refine aE aA 4 rfl (bA rfl rfl rfl (fun hg6=>?_) (fun hg6=>?_))
       ·
        simp only[bs] at hg6
        refine aI rfl (bM rfl aBf cP rfl) ?_
        refine aE aA 4 rfl (bA rfl rfl rfl (fun hg7=>?_) (fun hg7=>?_))
        ·
         simp only[bs] at hg7
         refine aI rfl (bM rfl aBe cP rfl) ?_
         refine aE aA 4 rfl (bA rfl rfl rfl (fun hg8=>?_) (fun hg8=>?_))
         ·
          simp only[bs] at hg8
          refine aI rfl (bM rfl aBe cP rfl) ?_
          refine aE aA 3 rfl (aD (hK12 _ (aO rfl (fun hc9=>?_) (fun hc9=>?_))))
          ·
           simp only[bs] at hc9
           refine aC (fun K13 hK13=>(aB (aE aA 1 rfl (aD (hK13 _ (aM ?_))))))
           refine⟨_,rfl,?_⟩
           refine aQ ?_
           first | (rw[fU,eT h2 (by omega) (show fG l[k]=false from by
            unfold fG
            rw[Bool.eq_false_iff]
            simp only[ne_eq,Bool.and_eq_true,decide_eq_true_eq]
            rintro ⟨q1,⟨⟨q2,q3⟩,⟨q4,q5⟩⟩,q6,q7⟩
            first | omega | (simp_all; done) | (simp_all; omega))]; rfl) | (rw[fU,fF h2 (by omega) (by omega) (show fY _ _=false from by simp only[fY,decide_eq_false_iff_not]; omega)]; rfl)
          ·
           simp only[bs] at hc9
           refine aR (hK11 _ (aC (fun K14 hK14=>(dE hf bK (by kernel_rfl) rfl (bC aA 3 rfl (eI 54 true rfl (fun hg10=>?_) (fun hg10=>?_)))))))
           ·
            simp only[bs] at hg10
            refine bC aA 2 rfl ?_
            refine bN [(56,_)] rfl rfl ⟨⟨rfl,rfl⟩,trivial⟩ rfl (eU rfl rfl (by omega) (by omega)) ?_
            refine bN [(55,_),(57,_)] rfl rfl ⟨⟨rfl,rfl⟩,⟨rfl,rfl⟩,trivial⟩ rfl (bJ rfl rfl sK oK (gQ (k:=k - 1) (by omega) (by omega))) (bC aA 6 rfl (dC [0,3,64] rfl rfl rfl (hK14 _ (aO rfl (fun hc11=>?_) (fun hc11=>?_)))))
            ·
             simp only[bs] at hc11
             refine aC (fun K15 hK15=>(aB (aE aA 1 rfl (aD (hK15 _ (aM ?_))))))
             refine⟨_,rfl,?_⟩
             refine aQ ?_
             first | (rw[fU,eT h2 (by omega) (show fG l[k]=false from by
              unfold fG
              rw[Bool.eq_false_iff]
              simp only[ne_eq,Bool.and_eq_true,decide_eq_true_eq]
              rintro ⟨q1,⟨⟨q2,q3⟩,⟨q4,q5⟩⟩,q6,q7⟩
              first | omega | (simp_all; done) | (simp_all; omega))]; rfl) | (rw[fU,fF h2 (by omega) (by omega) (show fY _ _=false from by simp only[fY,decide_eq_false_iff_not]; omega)]; rfl)
            ·
             simp only[bs] at hc11
             refine aR (hK9 _ (aB (aE aA 1 rfl ?_)))
             refine aI rfl (bQ rfl rfl (by omega) (by omega)) ?_
             refine aE aA 1 rfl (aD ?_)
             exact⟨k+1,⟨by omega,fL h2 (by omega) (show fG l[k]=true from by
              unfold fG
              simp only[Bool.and_eq_true,decide_eq_true_eq]
              exact⟨by first | assumption | (simp_all; done),⟨⟨by omega,by omega⟩,by omega,by omega⟩,by omega,by omega⟩) (fun h0=>by simp only[fY,decide_eq_true_eq]; omega)⟩,by omega,cU rfl⟩
           ·
            simp only[bs] at hg10
            refine bC aA 10 rfl (dC [0,3,64] rfl rfl rfl (hK14 _ (bZ rfl (aR (hK9 _ (aB (aE aA 1 rfl ?_)))))))
            refine aI rfl (bQ rfl rfl (by omega) (by omega)) ?_
            refine aE aA 1 rfl (aD ?_)
            exact⟨k+1,⟨by omega,fL h2 (by omega) (show fG l[k]=true from by
             unfold fG
             simp only[Bool.and_eq_true,decide_eq_true_eq]
             exact⟨by first | assumption | (simp_all; done),⟨⟨by omega,by omega⟩,by omega,by omega⟩,by omega,by omega⟩) (fun h0=>by simp only[fY,decide_eq_true_eq]; omega)⟩,by omega,cU rfl⟩
         ·
          simp only[bs] at hg8
          refine aE aA 3 rfl (aD (hK12 _ (bP rfl (aC (fun K16 hK16=>(aB (aE aA 1 rfl (aD (hK16 _ (aM ?_))))))))))
          refine⟨_,rfl,?_⟩
          refine aQ ?_
          first | (rw[fU,eT h2 (by omega) (show fG l[k]=false from by
           unfold fG
           rw[Bool.eq_false_iff]
           simp only[ne_eq,Bool.and_eq_true,decide_eq_true_eq]
           rintro ⟨q1,⟨⟨q2,q3⟩,⟨q4,q5⟩⟩,q6,q7⟩
           first | omega | (simp_all; done) | (simp_all; omega))]; rfl) | (rw[fU,fF h2 (by omega) (by omega) (show fY _ _=false from by simp only[fY,decide_eq_false_iff_not]; omega)]; rfl)
        ·
         simp only[bs] at hg7
         refine aE aA 8 rfl (aD (hK12 _ (bP rfl (aC (fun K17 hK17=>(aB (aE aA 1 rfl (aD (hK17 _ (aM ?_))))))))))
         refine⟨_,rfl,?_⟩
         refine aQ ?_
         first | (rw[fU,eT h2 (by omega) (show fG l[k]=false from by
          unfold fG
          rw[Bool.eq_false_iff]
          simp only[ne_eq,Bool.and_eq_true,decide_eq_true_eq]
          rintro ⟨q1,⟨⟨q2,q3⟩,⟨q4,q5⟩⟩,q6,q7⟩
          first | omega | (simp_all; done) | (simp_all; omega))]; rfl) | (rw[fU,fF h2 (by omega) (by omega) (show fY _ _=false from by simp only[fY,decide_eq_false_iff_not]; omega)]; rfl)
       ·
        simp only[bs] at hg6
        refine aE aA 13 rfl (aD (hK12 _ (bP rfl (aC (fun K18 hK18=>(aB (aE aA 1 rfl (aD (hK18 _ (aM ?_))))))))))
        refine⟨_,rfl,?_⟩
        refine aQ ?_
        first | (rw[fU,eT h2 (by omega) (show fG l[k]=false from by
         unfold fG
         rw[Bool.eq_false_iff]
         simp only[ne_eq,Bool.and_eq_true,decide_eq_true_eq]
         rintro ⟨q1,⟨⟨q2,q3⟩,⟨q4,q5⟩⟩,q6,q7⟩
         first | omega | (simp_all; done) | (simp_all; omega))]; rfl) | (rw[fU,fF h2 (by omega) (by omega) (show fY _ _=false from by simp only[fY,decide_eq_false_iff_not]; omega)]; rfl)
      ·
       simp only[bs] at hg5
       refine aE aA 18 rfl (aD (hK12 _ (bP rfl (aC (fun K19 hK19=>(aB (aE aA 1 rfl (aD (hK19 _ (aM ?_))))))))))
       refine⟨_,rfl,?_⟩
       refine aQ ?_
       first | (rw[fU,eT h2 (by omega) (show fG l[k]=false from by
        unfold fG
        rw[Bool.eq_false_iff]
        simp only[ne_eq,Bool.and_eq_true,decide_eq_true_eq]
        rintro ⟨q1,⟨⟨q2,q3⟩,⟨q4,q5⟩⟩,q6,q7⟩
        first | omega | (simp_all; done) | (simp_all; omega))]; rfl) | (rw[fU,fF h2 (by omega) (by omega) (show fY _ _=false from by simp only[fY,decide_eq_false_iff_not]; omega)]; rfl)
     ·
      simp only[bs] at hg4
      refine aE aA 23 rfl (aD (hK12 _ (bP rfl (aC (fun K20 hK20=>(aB (aE aA 1 rfl (aD (hK20 _ (aM ?_))))))))))
      refine⟨_,rfl,?_⟩
      refine aQ ?_
      first | (rw[fU,eT h2 (by omega) (show fG l[k]=false from by
       unfold fG
       rw[Bool.eq_false_iff]
       simp only[ne_eq,Bool.and_eq_true,decide_eq_true_eq]
       rintro ⟨q1,⟨⟨q2,q3⟩,⟨q4,q5⟩⟩,q6,q7⟩
       first | omega | (simp_all; done) | (simp_all; omega))]; rfl) | (rw[fU,fF h2 (by omega) (by omega) (show fY _ _=false from by simp only[fY,decide_eq_false_iff_not]; omega)]; rfl)
    ·
     simp only[bs] at hg3
     refine aE aA 28 rfl (aD (hK12 _ (bP rfl (aC (fun K21 hK21=>(aB (aE aA 1 rfl (aD (hK21 _ (aM ?_))))))))))
     refine⟨_,rfl,?_⟩
     refine aQ ?_
     first | (rw[fU,eT h2 (by omega) (show fG l[k]=false from by
      unfold fG
      rw[Bool.eq_false_iff]
      simp only[ne_eq,Bool.and_eq_true,decide_eq_true_eq]
      rintro ⟨q1,⟨⟨q2,q3⟩,⟨q4,q5⟩⟩,q6,q7⟩
      first | omega | (simp_all; done) | (simp_all; omega))]; rfl) | (rw[fU,fF h2 (by omega) (by omega) (show fY _ _=false from by simp only[fY,decide_eq_false_iff_not]; omega)]; rfl)
   ·
    simp only[bs] at hc2
    refine bI (hK5 _ (aC (fun K22 hK22=>(aB (aE aA 1 rfl (aD (hK22 _ (aM ?_))))))))
    refine⟨_,rfl,?_⟩
    refine aQ ?_
    rw[fU,oA h2 (by omega),show decide (l.length≤16)=true from by simp only[decide_eq_true_eq]; omega]; rfl
end Go.Proofs.YtijnkglkchhomaaGreat
set_option linter.unusedVariables false
set_option linter.unusedSimpArgs false
namespace Go.Proofs.YtijnkglkchhomaaGreat
open Go Go.Abs
theorem aI9 (l:List Us) (hl:l.length≤9223372036854775807) (ht:∀ x∈l,TS x.1) :Den Tryz.prog 146 [.sl 2 (l.map usC),.fn 68 []]  (·=.s (.bool (nB cM l))):=by
 refine aY Tryz.func146 rfl (Nat.le_of_ble_eq_true rfl) (fun w0 A hf=>(aC (fun K1 hK1=>(aB (aE aA 1 rfl (aD (hK1 _ (aC (fun K2 hK2=>(aC (fun K3 hK3=>(aB (aE aA 3 rfl (aD (hK3 _ (aU ?_))))))))))))))))
 refine bW (ι:=Nat) (fun k=>⟨38,[(0,.sl 2 (l.map usC)),(1,.fn 68 []),(7,.sl 2 (l.map usC)),(8,.s (.int .i64 (((l.map usC)).length:Nat))),(9,.s (.int .i64 (k:Nat)))],[]⟩) (fun k=>k≤l.length∧nB cM l=mK (fun x=>cK (cM x)) (nxK cM) (gU l k) (l.drop k)) (fun k=>l.length - k) 0 ?_ ?_ ?_
 · exact⟨Nat.zero_le _,rfl⟩
 · exact cU rfl
 ·
  rintro k hC
  obtain ⟨h1,h2⟩:=hC
  refine aC (fun K4 hK4=>(aB (aE aA 1 rfl (aD (hK4 _ (aC (fun K5 hK5=>(aO rfl (fun hc1=>?_) (fun hc1=>?_)))))))))
  ·
   simp only[bs] at hc1
   refine aR (hK5 _ (aC (fun K6 hK6=>(aU (aC (fun K7 hK7=>(aB (aE aA 1 rfl ?_))))))))
   refine aI rfl (bJ rfl rfl eC cV (by first | exact ixm (by omega) | assumption | exact⟨by decide,rfl⟩)) ?_
   refine aE aA 1 rfl (aZ hf rfl rfl rfl jM (aE aA 1 rfl (bD hf rfl rfl cV rfl rfl (l1 rfl) (l4 rfl) rfl (cB (jC (nee 6) (sl':=[(0,_),(1,_),(5,_),(6,_),(7,_),(8,_),(9,_)]) (m':=[]) ⟨⟨_,rfl,rfl⟩,⟨_,rfl,rfl⟩,⟨_,rfl,rfl⟩,⟨_,rfl,rfl⟩,⟨_,rfl,rfl⟩,⟨_,rfl,rfl⟩,⟨_,rfl,rfl⟩,trivial⟩ rfl) (aD (hK7 _ (aC (fun K8 hK8=>(dE hf bK (by kernel_rfl) rfl (bC aA 2 rfl (bT [(14,_),(15,_)] rfl rfl ⟨⟨rfl,rfl⟩,⟨rfl,rfl⟩,trivial⟩ rfl (aP rfl rfl tN rfl (tF l[k])) ?_)))))))))))
   refine bT [(16,_)] rfl rfl ⟨⟨rfl,rfl⟩,trivial⟩ rfl (aP rfl rfl iX rfl (Nm.right_den _ (ht _ (List.getElem_mem _)))) (bC aA 2 rfl (eI 19 false rfl (fun hg2=>?_) (fun hg2=>?_)))
   ·
    simp only[bs] at hg2
    refine bC aA 3 rfl (eI 22 true rfl (fun hg3=>?_) (fun hg3=>?_))
    ·
     simp only[bs] at hg3
     refine bC aA 3 rfl ?_
     refine bN [(25,_)] rfl rfl ⟨⟨rfl,rfl⟩,trivial⟩ rfl (eU rfl rfl (by omega) (by omega)) ?_
     refine bN [(24,_),(26,_)] rfl rfl ⟨⟨rfl,rfl⟩,⟨rfl,rfl⟩,trivial⟩ rfl (bJ rfl rfl eC cV (gQ (k:=k - 1) (by omega) (by omega))) (bC aA 1 rfl (bT [(23,_),(28,_)] rfl rfl ⟨⟨rfl,rfl⟩,⟨rfl,rfl⟩,trivial⟩ rfl (aP rfl rfl tN rfl (tF l[k - 1])) (bC aA 2 rfl (bT [(30,_),(31,_)] rfl rfl ⟨⟨rfl,rfl⟩,⟨rfl,rfl⟩,trivial⟩ rfl (aP rfl rfl tN rfl (tF l[k])) (bT [(29,_),(32,_)] rfl rfl ⟨⟨rfl,rfl⟩,⟨rfl,rfl⟩,trivial⟩ rfl (aP rfl rfl mH rfl (Nm.cmp_den _ _)) (bC aA 3 rfl ?_))))))
     refine dC [0,1,7,8,9,36] rfl rfl rfl (hK8 _ (aO rfl (fun hc4=>?_) (fun hc4=>?_)))
     ·
      simp only[bs] at hc4
      refine aC (fun K9 hK9=>(aB (aE aA 1 rfl (aD (hK9 _ (aM ?_))))))
      refine⟨_,rfl,?_⟩
      refine aQ ?_
      rw[fF h2 (by omega) (by omega) (show nxK cM l[k - 1] l[k]=false from by simp only[nxK,decide_eq_false_iff_not]; show ¬ eG (l[k - 1]).1 (l[k]).1<0; omega)]
     ·
      simp only[bs] at hc4
      refine aR (hK6 _ (aB ?_))
      refine aI rfl (bQ rfl rfl (by omega) (by omega)) ?_
      refine aE aA 1 rfl (aD ?_)
      exact⟨k+1,⟨by omega,fL h2 (by omega) (show cK (cM l[k])=true from by simp_all) (fun h0=>by simp only[nxK,decide_eq_true_eq]; show eG (l[k - 1]).1 (l[k]).1<0; omega)⟩,by omega,cU rfl⟩
    ·
     simp only[bs] at hg3
     refine bC aA 14 rfl (dC [0,1,7,8,9,36] rfl rfl rfl (hK8 _ (bZ rfl (aR (hK6 _ (aB ?_))))))
     refine aI rfl (bQ rfl rfl (by omega) (by omega)) ?_
     refine aE aA 1 rfl (aD ?_)
     exact⟨k+1,⟨by omega,fL h2 (by omega) (show cK (cM l[k])=true from by simp_all) (fun h0=>by simp only[nxK,decide_eq_true_eq]; show eG (l[k - 1]).1 (l[k]).1<0; omega)⟩,by omega,cU rfl⟩
   ·
    simp only[bs] at hg2
    refine bC aA 3 rfl (bE rfl rfl ?_)
    refine bE rfl rfl ?_
    refine bE rfl rfl ?_
    refine bE rfl rfl ?_
    refine bE rfl rfl ?_
    refine bE rfl rfl ?_
    refine bE rfl rfl ?_
    refine bE rfl rfl ?_
    refine bE rfl rfl ?_
    refine bE rfl rfl ?_
    refine bE rfl rfl ?_
    refine bE rfl rfl ?_
    refine bC aA 2 rfl (dC [0,1,7,8,9,36] rfl rfl rfl (hK8 _ (bP rfl (aC (fun K10 hK10=>(aB (aE aA 1 rfl (aD (hK10 _ (aM ?_))))))))))
    refine⟨_,rfl,?_⟩
    refine aQ ?_
    rw[eT h2 (by omega) (show cK (cM l[k])=false from by simp_all)]
  ·
   simp only[bs] at hc1
   refine bI (hK2 _ (aC (fun K11 hK11=>(aB (aE aA 1 rfl (aD (hK11 _ (aM ?_))))))))
   refine⟨_,rfl,?_⟩
   refine aQ ?_
   rw[oA h2 (by omega)]
theorem aJg (l:List Tm) (hl:l.length≤9223372036854775807) (ht:∀ x∈l,TS x.1) :Den Tryz.prog 150 [.sl 2 (l.map tmC),.fn 132 []]  (·=.s (.bool (nB dH l))):=by
 refine aY Tryz.func150 rfl (Nat.le_of_ble_eq_true rfl) (fun w0 A hf=>(aC (fun K1 hK1=>(aB (aE aA 1 rfl (aD (hK1 _ (aC (fun K2 hK2=>(aC (fun K3 hK3=>(aB (aE aA 3 rfl (aD (hK3 _ (aU ?_))))))))))))))))
 refine bW (ι:=Nat) (fun k=>⟨38,[(0,.sl 2 (l.map tmC)),(1,.fn 132 []),(7,.sl 2 (l.map tmC)),(8,.s (.int .i64 (((l.map tmC)).length:Nat))),(9,.s (.int .i64 (k:Nat)))],[]⟩) (fun k=>k≤l.length∧nB dH l=mK (fun x=>cK (dH x)) (nxK dH) (gU l k) (l.drop k)) (fun k=>l.length - k) 0 ?_ ?_ ?_
 · exact⟨Nat.zero_le _,rfl⟩
 · exact cU rfl
 ·
  rintro k hC
  obtain ⟨h1,h2⟩:=hC
  refine aC (fun K4 hK4=>(aB (aE aA 1 rfl (aD (hK4 _ (aC (fun K5 hK5=>(aO rfl (fun hc1=>?_) (fun hc1=>?_)))))))))
  ·
   simp only[bs] at hc1
   refine aR (hK5 _ (aC (fun K6 hK6=>(aU (aC (fun K7 hK7=>(aB (aE aA 1 rfl ?_))))))))
   refine aI rfl (bJ rfl rfl gN eR (by first | exact ixm (by omega) | assumption | exact⟨by decide,rfl⟩)) ?_
   refine aE aA 1 rfl (aZ hf rfl rfl rfl wC (aE aA 1 rfl (bD hf rfl rfl eR rfl rfl (l1 rfl) (l4 rfl) rfl (cB (jC (nee 6) (sl':=[(0,_),(1,_),(5,_),(6,_),(7,_),(8,_),(9,_)]) (m':=[]) ⟨⟨_,rfl,rfl⟩,⟨_,rfl,rfl⟩,⟨_,rfl,rfl⟩,⟨_,rfl,rfl⟩,⟨_,rfl,rfl⟩,⟨_,rfl,rfl⟩,⟨_,rfl,rfl⟩,trivial⟩ rfl) (aD (hK7 _ (aC (fun K8 hK8=>(dE hf bK (by kernel_rfl) rfl (bC aA 2 rfl (bT [(14,_),(15,_)] rfl rfl ⟨⟨rfl,rfl⟩,⟨rfl,rfl⟩,trivial⟩ rfl (aP rfl rfl rN rfl (sP l[k])) ?_)))))))))))
   refine bT [(16,_)] rfl rfl ⟨⟨rfl,rfl⟩,trivial⟩ rfl (aP rfl rfl iX rfl (Nm.right_den _ (ht _ (List.getElem_mem _)))) (bC aA 2 rfl (eI 19 false rfl (fun hg2=>?_) (fun hg2=>?_)))
   ·
    simp only[bs] at hg2
    refine bC aA 3 rfl (eI 22 true rfl (fun hg3=>?_) (fun hg3=>?_))
    ·
     simp only[bs] at hg3
     refine bC aA 3 rfl ?_
     refine bN [(25,_)] rfl rfl ⟨⟨rfl,rfl⟩,trivial⟩ rfl (eU rfl rfl (by omega) (by omega)) ?_
     refine bN [(24,_),(26,_)] rfl rfl ⟨⟨rfl,rfl⟩,⟨rfl,rfl⟩,trivial⟩ rfl (bJ rfl rfl gN eR (gQ (k:=k - 1) (by omega) (by omega))) (bC aA 1 rfl (bT [(23,_),(28,_)] rfl rfl ⟨⟨rfl,rfl⟩,⟨rfl,rfl⟩,trivial⟩ rfl (aP rfl rfl rN rfl (sP l[k - 1])) (bC aA 2 rfl (bT [(30,_),(31,_)] rfl rfl ⟨⟨rfl,rfl⟩,⟨rfl,rfl⟩,trivial⟩ rfl (aP rfl rfl rN rfl (sP l[k])) (bT [(29,_),(32,_)] rfl rfl ⟨⟨rfl,rfl⟩,⟨rfl,rfl⟩,trivial⟩ rfl (aP rfl rfl mH rfl (Nm.cmp_den _ _)) (bC aA 3 rfl ?_))))))
     refine dC [0,1,7,8,9,36] rfl rfl rfl (hK8 _ (aO rfl (fun hc4=>?_) (fun hc4=>?_)))
     ·
      simp only[bs] at hc4
      refine aC (fun K9 hK9=>(aB (aE aA 1 rfl (aD (hK9 _ (aM ?_))))))
      refine⟨_,rfl,?_⟩
      refine aQ ?_
      rw[fF h2 (by omega) (by omega) (show nxK dH l[k - 1] l[k]=false from by simp only[nxK,decide_eq_false_iff_not]; show ¬ eG (l[k - 1]).1 (l[k]).1<0; omega)]
     ·
      simp only[bs] at hc4
      refine aR (hK6 _ (aB ?_))
      refine aI rfl (bQ rfl rfl (by omega) (by omega)) ?_
      refine aE aA 1 rfl (aD ?_)
      exact⟨k+1,⟨by omega,fL h2 (by omega) (show cK (dH l[k])=true from by simp_all) (fun h0=>by simp only[nxK,decide_eq_true_eq]; show eG (l[k - 1]).1 (l[k]).1<0; omega)⟩,by omega,cU rfl⟩
    ·
     simp only[bs] at hg3
     refine bC aA 14 rfl (dC [0,1,7,8,9,36] rfl rfl rfl (hK8 _ (bZ rfl (aR (hK6 _ (aB ?_))))))
     refine aI rfl (bQ rfl rfl (by omega) (by omega)) ?_
     refine aE aA 1 rfl (aD ?_)
     exact⟨k+1,⟨by omega,fL h2 (by omega) (show cK (dH l[k])=true from by simp_all) (fun h0=>by simp only[nxK,decide_eq_true_eq]; show eG (l[k - 1]).1 (l[k]).1<0; omega)⟩,by omega,cU rfl⟩
   ·
    simp only[bs] at hg2
    refine bC aA 3 rfl (bE rfl rfl ?_)
    refine bE rfl rfl ?_
    refine bE rfl rfl ?_
    refine bE rfl rfl ?_
    refine bE rfl rfl ?_
    refine bE rfl rfl ?_
    refine bE rfl rfl ?_
    refine bE rfl rfl ?_
    refine bE rfl rfl ?_
    refine bE rfl rfl ?_
    refine bE rfl rfl ?_
    refine bE rfl rfl ?_
    refine bC aA 2 rfl (dC [0,1,7,8,9,36] rfl rfl rfl (hK8 _ (bP rfl (aC (fun K10 hK10=>(aB (aE aA 1 rfl (aD (hK10 _ (aM ?_))))))))))
    refine⟨_,rfl,?_⟩
    refine aQ ?_
    rw[eT h2 (by omega) (show cK (dH l[k])=false from by simp_all)]
  ·
   simp only[bs] at hc1
   refine bI (hK2 _ (aC (fun K11 hK11=>(aB (aE aA 1 rfl (aD (hK11 _ (aM ?_))))))))
   refine⟨_,rfl,?_⟩
   refine aQ ?_
   rw[oA h2 (by omega)]
theorem aJv (s:Sta) (h1:s.opn.length≤9223372036854775807) (h2:s.usr.length≤9223372036854775807) (h3:s.sub.length≤9223372036854775807) (h4:s.tmb.length≤9223372036854775807) (h5:∀ x∈s.usr,x.2.length≤9223372036854775807) (t1:∀ e∈s.opn,TS e.1.2) (t2:∀ x∈s.usr,TS x.1) (t3:∀ e∈s.sub,TS e.1.1∧TS e.1.2) (t4:∀ x∈s.tmb,TS x.1) :Den Tryz.prog 86 [.agg (aL s)]  (·=.s (.bool (fM s))):=by
 refine aY Tryz.func86 rfl (Nat.le_of_ble_eq_true rfl) (fun w0 A hf=>(aC (fun K1 hK1=>(aB (aN hf rfl (cS rfl rfl (lf rfl)) (aE aA 1 rfl (aD (hK1 _ (aC (fun K2 hK2=>(aB (aI rfl (eK rfl) (aE aA 1 rfl (aD (hK2 _ ?_)))))))))))))))
 refine aC (fun K3 hK3=>(aB (aI rfl (eK rfl) (cC hf rfl aR9 rfl aSl rfl rfl rfl rfl (lf rfl) (aD (hK3 _ (aC (fun K4 hK4=>(aB (aI rfl (eK rfl) (aE aA 1 rfl (aD (hK4 _ (aC (fun K5 hK5=>?_)))))))))))))))
 refine aB (aI rfl (eK rfl) (aE aA 1 rfl (aD (hK5 _ (aC (fun K6 hK6=>(aB (aI rfl (eK rfl) (aE aA 1 rfl (aD (hK6 _ (aC (fun K7 hK7=>(aC (fun K8 hK8=>?_)))))))))))))))
 refine aB (aE aA 2 rfl (aN hf rfl (aP rfl rfl mF rfl (kN _ _ _)) (aE aA 2 rfl (bA rfl rfl rfl (fun hg1=>?_) (fun hg1=>?_)))))
 ·
  simp only[bs] at hg1
  refine aI rfl (bM rfl aLw cP rfl) ?_
  refine aE aA 1 rfl (bF rfl rfl rfl (aN hf rfl (aP rfl rfl mF rfl (kN _ _ _)) (aE aA 3 rfl (bA rfl rfl rfl (fun hg2=>?_) (fun hg2=>?_)))))
  ·
   simp only[bs] at hg2
   refine aI rfl (bM rfl rK jI rfl) ?_
   refine aE aA 1 rfl (bF rfl rfl rfl (aN hf rfl (aP rfl rfl aM6 rfl (aHs s.opn (by omega) t1)) (aE aA 3 rfl (bA rfl rfl rfl (fun hg3=>?_) (fun hg3=>?_)))))
   ·
    simp only[bs] at hg3
    refine aI rfl (bM rfl rK jI rfl) ?_
    refine aE aA 2 rfl (bF rfl rfl rfl (aN hf rfl (aP rfl rfl aBv rfl (wK aNe rfl (fun e=>decide (s.now<e.2.2)) s.opn h1 (fun e _=>aFy e s))) (aE aA 1 rfl (aD (hK8 _ (aO rfl (fun hc4=>?_) (fun hc4=>?_)))))))
    ·
     refine aC (fun K9 hK9=>(aB (aE aA 1 rfl (aD (hK9 _ (aM ?_))))))
     refine⟨_,rfl,?_⟩
     refine aQ ?_
     unfold fM
     try simp only[lE,nW] at *
     generalize fU s.opn=b0 at *
     generalize s.opn.all (fun e=>decide (e.2.2≤s.now))=b1 at *
     generalize nB cM s.usr=b2 at *
     generalize s.usr.all (lA s)=b3 at *
     generalize qQ s.sub=b4 at *
     generalize s.sub.all (jG s)=b5 at *
     generalize nB dH s.tmb=b6 at *
     generalize s.tmb.all (pV s)=b7 at *
     rw[Bool.eq_iff_iff]
     (simp_all; done)
    ·
     refine aR (hK7 _ (aC (fun K10 hK10=>(aC (fun K11 hK11=>(aB (aE aA 2 rfl (aN hf rfl (aP rfl rfl aM5 rfl (aI9 s.usr h2 t2)) (aE aA 2 rfl (bA rfl rfl rfl (fun hg5=>?_) (fun hg5=>?_)))))))))))
     ·
      simp only[bs] at hg5
      refine aI rfl (bM rfl aBi mZ rfl) ?_
      refine aE aA 2 rfl (bF rfl rfl rfl (aN hf rfl (aP rfl rfl aM4 rfl (aFm aNb rfl (fun x=>!lA s x) s.usr h2 (fun x hx=>aFw x s h1 (h5 x hx)))) (aE aA 2 rfl (bA rfl rfl rfl (fun hg6=>?_) (fun hg6=>?_)))))
      ·
       refine aI rfl (bM rfl rJ kM rfl) ?_
       refine aE aA 1 rfl (bF rfl rfl rfl (aN hf rfl (aP rfl rfl aM3 rfl (aN5 s.sub h3 t3)) (aE aA 3 rfl (bA rfl rfl rfl (fun hg7=>?_) (fun hg7=>?_)))))
       ·
        simp only[bs] at hg7
        refine aI rfl (bM rfl rJ kM rfl) ?_
        refine aE aA 2 rfl (bF rfl rfl rfl (aN hf rfl (aP rfl rfl aM2 rfl (aGc aM8 rfl (fun e=>!jG s e) s.sub h3 (fun e _=>aHt e s))) (aE aA 1 rfl (aD (hK11 _ (aO rfl (fun hc8=>?_) (fun hc8=>?_)))))))
        ·
         refine aC (fun K12 hK12=>(aB (aE aA 1 rfl (aD (hK12 _ (aM ?_))))))
         refine⟨_,rfl,?_⟩
         refine aQ ?_
         unfold fM
         try simp only[lE,nW] at *
         generalize fU s.opn=b0 at *
         generalize s.opn.all (fun e=>decide (e.2.2≤s.now))=b1 at *
         generalize nB cM s.usr=b2 at *
         generalize s.usr.all (lA s)=b3 at *
         generalize qQ s.sub=b4 at *
         generalize s.sub.all (jG s)=b5 at *
         generalize nB dH s.tmb=b6 at *
         generalize s.tmb.all (pV s)=b7 at *
         rw[Bool.eq_iff_iff]
         (simp_all; done)
        ·
         refine aR (hK10 _ (aC (fun K13 hK13=>(aB (aE aA 2 rfl (aN hf rfl (aP rfl rfl aM1 rfl (aJg s.tmb h4 t4)) (aE aA 1 rfl (bA rfl rfl rfl (fun hg9=>?_) (fun hg9=>?_)))))))))
         ·
          refine aI rfl (bM rfl vD qP rfl) ?_
          refine aE aA 2 rfl (bF rfl rfl rfl (aN hf rfl (aP rfl rfl aM0 rfl (aFn aM7 rfl (fun x=>!pV s x) s.tmb h4 (fun x _=>aFx x s))) (aE aA 3 rfl (aD (hK13 _ (aM ?_))))))
          refine⟨_,rfl,?_⟩
          refine aQ ?_
          unfold fM
          try simp only[lE,nW] at *
          generalize fU s.opn=b0 at *
          generalize s.opn.all (fun e=>decide (e.2.2≤s.now))=b1 at *
          generalize nB cM s.usr=b2 at *
          generalize s.usr.all (lA s)=b3 at *
          generalize qQ s.sub=b4 at *
          generalize s.sub.all (jG s)=b5 at *
          generalize nB dH s.tmb=b6 at *
          generalize s.tmb.all (pV s)=b7 at *
          rw[Bool.eq_iff_iff]
          (cases b7 <;> simp_all <;> omega)
         ·
          simp only[bs] at hg9
          refine aE aA 6 rfl (aD (hK13 _ (aM ?_)))
          refine⟨_,rfl,?_⟩
          refine aQ ?_
          unfold fM
          try simp only[lE,nW] at *
          generalize fU s.opn=b0 at *
          generalize s.opn.all (fun e=>decide (e.2.2≤s.now))=b1 at *
          generalize nB cM s.usr=b2 at *
          generalize s.usr.all (lA s)=b3 at *
          generalize qQ s.sub=b4 at *
          generalize s.sub.all (jG s)=b5 at *
          generalize nB dH s.tmb=b6 at *
          generalize s.tmb.all (pV s)=b7 at *
          rw[Bool.eq_iff_iff]
          (simp_all; done)
       ·
        simp only[bs] at hg7
        refine aE aA 4 rfl (aD (hK11 _ (bP rfl (aC (fun K14 hK14=>(aB (aE aA 1 rfl (aD (hK14 _ (aM ?_))))))))))
        refine⟨_,rfl,?_⟩
        refine aQ ?_
        unfold fM
        try simp only[lE,nW] at *
        generalize fU s.opn=b0 at *
        generalize s.opn.all (fun e=>decide (e.2.2≤s.now))=b1 at *
        generalize nB cM s.usr=b2 at *
        generalize s.usr.all (lA s)=b3 at *
        generalize qQ s.sub=b4 at *
        generalize s.sub.all (jG s)=b5 at *
        generalize nB dH s.tmb=b6 at *
        generalize s.tmb.all (pV s)=b7 at *
        rw[Bool.eq_iff_iff]
        (simp_all; done)
      ·
       simp only[bs] at hg6
       refine aE aA 10 rfl (aD (hK11 _ (bP rfl (aC (fun K15 hK15=>(aB (aE aA 1 rfl (aD (hK15 _ (aM ?_))))))))))
       refine⟨_,rfl,?_⟩
       refine aQ ?_
       unfold fM
       try simp only[lE,nW] at *
       generalize fU s.opn=b0 at *
       generalize s.opn.all (fun e=>decide (e.2.2≤s.now))=b1 at *
       generalize nB cM s.usr=b2 at *
       generalize s.usr.all (lA s)=b3 at *
       generalize qQ s.sub=b4 at *
       generalize s.sub.all (jG s)=b5 at *
       generalize nB dH s.tmb=b6 at *
       generalize s.tmb.all (pV s)=b7 at *
       rw[Bool.eq_iff_iff]
       (simp_all; done)
     ·
      simp only[bs] at hg5
      refine aE aA 16 rfl (aD (hK11 _ (bP rfl (aC (fun K16 hK16=>(aB (aE aA 1 rfl (aD (hK16 _ (aM ?_))))))))))
      refine⟨_,rfl,?_⟩
      refine aQ ?_
      unfold fM
      try simp only[lE,nW] at *
      generalize fU s.opn=b0 at *
      generalize s.opn.all (fun e=>decide (e.2.2≤s.now))=b1 at *
      generalize nB cM s.usr=b2 at *
      generalize s.usr.all (lA s)=b3 at *
      generalize qQ s.sub=b4 at *
      generalize s.sub.all (jG s)=b5 at *
      generalize nB dH s.tmb=b6 at *
      generalize s.tmb.all (pV s)=b7 at *
      rw[Bool.eq_iff_iff]
      (simp_all; done)
   ·
    simp only[bs] at hg3
    refine aE aA 4 rfl (aD (hK8 _ (bP rfl (aC (fun K17 hK17=>(aB (aE aA 1 rfl (aD (hK17 _ (aM ?_))))))))))
    refine⟨_,rfl,?_⟩
    refine aQ ?_
    unfold fM
    try simp only[lE,nW] at *
    generalize fU s.opn=b0 at *
    generalize s.opn.all (fun e=>decide (e.2.2≤s.now))=b1 at *
    generalize nB cM s.usr=b2 at *
    generalize s.usr.all (lA s)=b3 at *
    generalize qQ s.sub=b4 at *
    generalize s.sub.all (jG s)=b5 at *
    generalize nB dH s.tmb=b6 at *
    generalize s.tmb.all (pV s)=b7 at *
    rw[Bool.eq_iff_iff]
    (simp_all; done)
  ·
   simp only[bs] at hg2
   refine aE aA 10 rfl (aD (hK8 _ (bP rfl (aC (fun K18 hK18=>(aB (aE aA 1 rfl (aD (hK18 _ (aM ?_))))))))))
   refine⟨_,rfl,?_⟩
   refine aQ ?_
   unfold fM
   try simp only[lE,nW] at *
   generalize fU s.opn=b0 at *
   generalize s.opn.all (fun e=>decide (e.2.2≤s.now))=b1 at *
   generalize nB cM s.usr=b2 at *
   generalize s.usr.all (lA s)=b3 at *
   generalize qQ s.sub=b4 at *
   generalize s.sub.all (jG s)=b5 at *
   generalize nB dH s.tmb=b6 at *
   generalize s.tmb.all (pV s)=b7 at *
   rw[Bool.eq_iff_iff]
   (simp_all; omega)
 ·
  simp only[bs] at hg1
  refine aE aA 16 rfl (aD (hK8 _ (bP rfl (aC (fun K19 hK19=>(aB (aE aA 1 rfl (aD (hK19 _ (aM ?_))))))))))
  refine⟨_,rfl,?_⟩
  refine aQ ?_
  unfold fM
  try simp only[lE,nW] at *
  generalize fU s.opn=b0 at *
  generalize s.opn.all (fun e=>decide (e.2.2≤s.now))=b1 at *
  generalize nB cM s.usr=b2 at *
  generalize s.usr.all (lA s)=b3 at *
  generalize qQ s.sub=b4 at *
  generalize s.sub.all (jG s)=b5 at *
  generalize nB dH s.tmb=b6 at *
  generalize s.tmb.all (pV s)=b7 at *
  rw[Bool.eq_iff_iff]
  (simp_all; omega)
end Go.Proofs.YtijnkglkchhomaaGreat
set_option linter.unusedVariables false
set_option linter.unusedSimpArgs false
namespace Go.Proofs.YtijnkglkchhomaaGreat
open Go Go.Abs
end Go.Proofs.YtijnkglkchhomaaGreat
set_option linter.unusedVariables false
set_option linter.unusedSimpArgs false
namespace Go.Proofs.YtijnkglkchhomaaGreat
open Go Go.Abs
end Go.Proofs.YtijnkglkchhomaaGreat
set_option linter.unusedVariables false
set_option linter.unusedSimpArgs false
namespace Go.Proofs.YtijnkglkchhomaaGreat
open Go Go.Abs
theorem aDq (s:Sta) (x:Us) (hx:x.2.length≤9223372036854775807) (ho:s.opn.length≤9223372036854775807) :Den Tryz.prog 48 [.sl 4 (x.2.map stC),.s (.int .i64 s.now),.sl 4 (s.opn.map seC)]  (·=.s (.bool (lA s x))):=by
 refine aY Tryz.func48 rfl (Nat.le_of_ble_eq_true rfl) (fun w0 A hf=>(aC (fun K1 hK1=>(aB (aE aA 1 rfl (aD (hK1 _ (aC (fun K2 hK2=>(aC (fun K3 hK3=>(aB (aE aA 1 rfl (aD (hK3 _ (aU ?_))))))))))))))))
 refine bW (ι:=Nat) (fun k=>⟨80,[(0,.sl 4 (x.2.map stC)),(1,.s (.int .i64 s.now)),(2,.sl 4 (s.opn.map seC)),(7,.s (.int .i64 (k:Nat)))],[]⟩) (fun k=>k≤x.2.length∧∀ (j:Nat) (hj:j<x.2.length),j<k→eD s x.2[j]=true) (fun k=>x.2.length - k) 0 ?_ ?_ ?_
 · exact⟨Nat.zero_le _,by omega⟩
 · exact cU rfl
 ·
  rintro k hC
  obtain ⟨h1,h2⟩:=hC
  refine aC (fun K4 hK4=>(aC (fun K5 hK5=>(aB (aE aA 4 rfl (aD (hK5 _ (dV rfl rfl (fun hc1=>?_) (fun hc1=>?_)))))))))
  ·
   simp only[bs] at hc1
   refine aR (hK4 _ (aC (fun K6 hK6=>(aU (aC (fun K7 hK7=>(aB ?_)))))))
   have hk:k<x.2.length:=by omega
   refine aE aA 2 rfl ?_
   refine aI rfl (bJ rfl rfl sJ mJ (by first | exact ixm (by omega) | assumption | exact⟨by decide,rfl⟩)) ?_
   refine aE aA 1 rfl (cC hf rfl aHd rfl mJ rfl rfl rfl rfl (lf rfl) (aD (hK7 _ (aC (fun K8 hK8=>(aC (fun K9 hK9=>(aB (aE aA 1 rfl (aD (hK9 _ (aU (bW (ι:=Nat) (fun i=>⟨80,[(0,.sl 4 (x.2.map stC)),(1,.s (.int .i64 s.now)),(2,.sl 4 (s.opn.map seC)),(7,.s (.int .i64 (k:Nat))),(8,.adr (stC x.2[k])),(9,.s (.int .i64 (i:Nat)))],[]⟩) (fun i=>i≤s.opn.length∧∀ (j:Nat) (hj:j<s.opn.length),j<i→¬ (s.opn[j].1.1=x.2[k].2.1∧s.opn[j].2.2<x.2[k].1.2)) (fun i=>s.opn.length - i) 0 ?_ ?_ ?_)))))))))))))
   · exact⟨Nat.zero_le _,by omega⟩
   · exact cU rfl
   ·
    rintro i hC
    obtain ⟨h3,h4⟩:=hC
    refine aC (fun K10 hK10=>(aC (fun K11 hK11=>(aB (aE aA 4 rfl (aD (hK11 _ (dV rfl rfl (fun hc2=>?_) (fun hc2=>?_)))))))))
    ·
     simp only[bs] at hc2
     refine aR (hK10 _ (aC (fun K12 hK12=>(aU (aC (fun K13 hK13=>(dE hf bK (by kernel_rfl) rfl ?_)))))))
     have hi:i<s.opn.length:=by omega
     refine bC aA 2 rfl ?_
     refine bN [(26,_),(27,_)] rfl rfl ⟨⟨rfl,rfl⟩,⟨rfl,rfl⟩,trivial⟩ rfl (bJ rfl rfl sK oK (by first | exact ixm (by omega) | assumption | exact⟨by decide,rfl⟩)) ?_
     refine bC aA 6 rfl (eI 34 true rfl (fun hg3=>?_) (fun hg3=>?_))
     ·
      simp only[bs] at hg3
      refine bC aA 4 rfl ?_
      refine bN [(37,_),(38,_)] rfl rfl ⟨⟨rfl,rfl⟩,⟨rfl,rfl⟩,trivial⟩ rfl (bJ rfl rfl sK oK (by first | exact ixm (by omega) | assumption | exact⟨by decide,rfl⟩)) ?_
      refine bC aA 4 rfl (dC [0,1,2,7,8,9,43] rfl rfl rfl (hK13 _ (dV rfl rfl (fun hc4=>?_) (fun hc4=>?_))))
      ·
       simp only[bs] at hc4
       refine aC (fun K14 hK14=>(aB (aE aA 1 rfl (aD (hK14 _ (aM ?_))))))
       refine⟨_,rfl,?_⟩
       refine aQ ?_
       exact pU hk (aTe hi (by first | assumption | omega) (by first | assumption | omega))
      ·
       simp only[bs] at hc4
       refine aR (hK12 _ (aB (aE aA 1 rfl ?_)))
       refine aI rfl (bQ rfl rfl (by omega) (by omega)) ?_
       refine aE aA 1 rfl (aD ?_)
       exact⟨i+1,⟨by omega,nE h4 (by omega) (by omega)⟩,by omega,cU rfl⟩
     ·
      simp only[bs] at hg3
      refine bC aA 9 rfl (dC [0,1,2,7,8,9,43] rfl rfl rfl (hK13 _ (bZ rfl (aR (hK12 _ (aB (aE aA 1 rfl ?_)))))))
      refine aI rfl (bQ rfl rfl (by omega) (by omega)) ?_
      refine aE aA 1 rfl (aD ?_)
      exact⟨i+1,⟨by omega,nE h4 (by omega) (by omega)⟩,by omega,cU rfl⟩
    ·
     simp only[bs] at hc2
     refine bI (hK8 _ (aC (fun K15 hK15=>(aB (aE aA 4 rfl (bA rfl rfl rfl (fun hg6=>?_) (fun hg6=>?_)))))))
     ·
      simp only[bs] at hg6
      refine aI rfl (bM rfl aI3 cP rfl) ?_
      refine aE aA 5 rfl (bA rfl rfl rfl (fun hg7=>?_) (fun hg7=>?_))
      ·
       simp only[bs] at hg7
       refine aI rfl (bM rfl zI cP rfl) ?_
       refine aE aA 4 rfl (bA rfl rfl rfl (fun hg8=>?_) (fun hg8=>?_))
       ·
        simp only[bs] at hg8
        refine aI rfl (bM rfl zI cP rfl) ?_
        refine aE aA 4 rfl (bA rfl rfl rfl (fun hg9=>?_) (fun hg9=>?_))
        ·
         simp only[bs] at hg9
         refine aI rfl (bM rfl zH cP rfl) ?_
         refine aE aA 4 rfl (bA rfl rfl rfl (fun hg10=>?_) (fun hg10=>?_))
         ·
          simp only[bs] at hg10
          refine aI rfl (bM rfl zH cP rfl) ?_
          refine aE aA 3 rfl (aD (hK15 _ (dV rfl rfl (fun hc11=>?_) (fun hc11=>?_))))
          ·
           simp only[bs] at hc11
           refine aC (fun K16 hK16=>(aB (aE aA 1 rfl (aD (hK16 _ (aM ?_))))))
           refine⟨_,rfl,?_⟩
           refine aQ ?_
           exact pU hk (rZ (by omega))
          ·
           simp only[bs] at hc11
           refine aR (hK6 _ (aB (aE aA 1 rfl ?_)))
           refine aI rfl (bQ rfl rfl (by omega) (by omega)) ?_
           refine aE aA 1 rfl (aD ?_)
           exact⟨k+1,⟨by omega,nE h2 (by omega) (aQ9 (by omega) h4 (by refine⟨?_,?_,?_,?_,?_,?_⟩ <;> omega))⟩,by omega,cU rfl⟩
         ·
          simp only[bs] at hg10
          refine aE aA 3 rfl (aD (hK15 _ (bP rfl (aC (fun K17 hK17=>(aB (aE aA 1 rfl (aD (hK17 _ (aM ?_))))))))))
          refine⟨_,rfl,?_⟩
          refine aQ ?_
          exact pU hk (rZ (by omega))
        ·
         simp only[bs] at hg9
         refine aE aA 8 rfl (aD (hK15 _ (bP rfl (aC (fun K18 hK18=>(aB (aE aA 1 rfl (aD (hK18 _ (aM ?_))))))))))
         refine⟨_,rfl,?_⟩
         refine aQ ?_
         exact pU hk (rZ (by omega))
       ·
        simp only[bs] at hg8
        refine aE aA 13 rfl (aD (hK15 _ (bP rfl (aC (fun K19 hK19=>(aB (aE aA 1 rfl (aD (hK19 _ (aM ?_))))))))))
        refine⟨_,rfl,?_⟩
        refine aQ ?_
        exact pU hk (rZ (by omega))
      ·
       simp only[bs] at hg7
       refine aE aA 18 rfl (aD (hK15 _ (bP rfl (aC (fun K20 hK20=>(aB (aE aA 1 rfl (aD (hK20 _ (aM ?_))))))))))
       refine⟨_,rfl,?_⟩
       refine aQ ?_
       exact pU hk (rZ (by omega))
     ·
      simp only[bs] at hg6
      refine aE aA 24 rfl (aD (hK15 _ (bP rfl (aC (fun K21 hK21=>(aB (aE aA 1 rfl (aD (hK21 _ (aM ?_))))))))))
      refine⟨_,rfl,?_⟩
      refine aQ ?_
      exact pU hk (rZ (by omega))
  ·
   simp only[bs] at hc1
   refine bI (hK2 _ (aC (fun K22 hK22=>(aB (aE aA 4 rfl (bA rfl rfl rfl (fun hg17=>?_) (fun hg17=>?_)))))))
   ·
    simp only[bs] at hg17
    refine aI rfl (fV rfl) (bF rfl rfl rfl (aN hf rfl (aP rfl rfl aO1 rfl (aDr x.2 hx)) (aE aA 2 rfl (aD (hK22 _ (aM ?_))))))
    refine⟨_,rfl,?_⟩
    refine aQ ?_
    exact aKd (by omega) h2 (by simp_all)
   ·
    simp only[bs] at hg17
    refine aE aA 3 rfl (aD (hK22 _ (aM ?_)))
    refine⟨_,rfl,?_⟩
    refine aQ ?_
    exact aKd (by omega) h2 (by simp_all)
end Go.Proofs.YtijnkglkchhomaaGreat
set_option linter.unusedVariables false
set_option linter.unusedSimpArgs false
namespace Go.Proofs.YtijnkglkchhomaaGreat
open Go Go.Abs
theorem aDs (s:Sta) (h1:s.opn.length≤9223372036854775807) (h2:s.usr.length≤9223372036854775807) (h3:s.sub.length≤9223372036854775807) (h4:s.tmb.length≤9223372036854775807) (h5:∀ x∈s.usr,x.2.length≤9223372036854775807) (t1:∀ e∈s.opn,TS e.1.2) (t2:∀ x∈s.usr,TS x.1) (t3:∀ e∈s.sub,TS e.1.1∧TS e.1.2) (t4:∀ x∈s.tmb,TS x.1) :Den Tryz.prog 12 [.agg (aL s)]  (·=.s (.bool (fM s))):=by
 refine aY Tryz.func12 rfl (Nat.le_of_ble_eq_true rfl) (fun w0 A hf=>(aC (fun K1 hK1=>(aB (aN hf rfl (cS rfl rfl (lf rfl)) (aE aA 1 rfl (aD (hK1 _ (aC (fun K2 hK2=>(aC (fun K3 hK3=>(aB (aE aA 4 rfl (bA rfl rfl rfl (fun hg1=>?_) (fun hg1=>?_))))))))))))))))
 ·
  simp only[bs] at hg1
  refine aI rfl (bM rfl aBl cP rfl) ?_
  refine aE aA 4 rfl (bA rfl rfl rfl (fun hg2=>?_) (fun hg2=>?_))
  ·
   simp only[bs] at hg2
   refine aI rfl (bM rfl vE cP rfl) ?_
   refine aE aA 4 rfl (bA rfl rfl rfl (fun hg3=>?_) (fun hg3=>?_))
   ·
    simp only[bs] at hg3
    refine aI rfl (bM rfl vE cP rfl) ?_
    refine aE aA 4 rfl (bA rfl rfl rfl (fun hg4=>?_) (fun hg4=>?_))
    ·
     simp only[bs] at hg4
     refine aI rfl (bM rfl aBk aNr rfl) ?_
     refine aE aA 1 rfl (bF rfl rfl rfl (aN hf rfl (aP rfl rfl aPn rfl (aB8 s.opn (by omega) t1)) (aE aA 3 rfl (bA rfl rfl rfl (fun hg5=>?_) (fun hg5=>?_)))))
     ·
      simp only[bs] at hg5
      refine aI rfl (bM rfl aBj aNq rfl) ?_
      refine aE aA 1 rfl (bF rfl rfl rfl (aN hf rfl (aP rfl rfl aPm rfl (aF0 s.sub h3 t3)) (aE aA 2 rfl (aD (hK3 _ (dV rfl rfl (fun hc6=>?_) (fun hc6=>?_)))))))
      ·
       simp only[bs] at hc6
       refine aC (fun K4 hK4=>(aB (aE aA 1 rfl (aD (hK4 _ (aM ?_))))))
       refine⟨_,rfl,?_⟩
       refine aQ ?_
       refine fI fun h=>?_
       have n0:=h.n0
       have n1:=h.n1
       have n2:=h.h0
       have n3:=h.h1
       have n4:=h.opn
       have n5:=h.sub
       (simp_all; done)
      ·
       simp only[bs] at hc6
       refine aR (hK2 _ (aC (fun K5 hK5=>(aC (fun K6 hK6=>(aB (aE aA 1 rfl (aD (hK6 _ (aU (bW (ι:=Nat) (fun k1=>⟨178,[(1,.adr (aL s)),(3,.s (.int .i64 (k1:Nat)))],[]⟩) (fun k1=>k1≤s.opn.length∧∀ (j:Nat) (hj:j<s.opn.length),j<k1→s.opn[j].2.2≤s.now) (fun k1=>s.opn.length - k1) 0 ?_ ?_ ?_)))))))))))
       · exact⟨Nat.zero_le _,by omega⟩
       · exact cU rfl
       ·
        rintro k1 hC
        obtain ⟨a1,a2⟩:=hC
        refine aC (fun K7 hK7=>(aC (fun K8 hK8=>(aB (aE aA 5 rfl (aD (hK8 _ (dV rfl rfl (fun hc7=>?_) (fun hc7=>?_)))))))))
        ·
         simp only[bs] at hc7
         refine aR (hK7 _ (aC (fun K9 hK9=>(aU (aC (fun K10 hK10=>(dE hf bK (by kernel_rfl) rfl ?_)))))))
         have q1:k1<s.opn.length:=by omega
         refine bC aA 3 rfl ?_
         refine bN [(48,_),(49,_)] rfl rfl ⟨⟨rfl,rfl⟩,⟨rfl,rfl⟩,trivial⟩ rfl (bJ rfl rfl sK oK (by first | exact ixm (by omega) | assumption | exact⟨by decide,rfl⟩)) ?_
         refine bC aA 5 rfl (dC [1,3,55] rfl rfl rfl (hK10 _ (dV rfl rfl (fun hc8=>?_) (fun hc8=>?_))))
         ·
          simp only[bs] at hc8
          refine aC (fun K11 hK11=>(aB (aE aA 1 rfl (aD (hK11 _ (aM ?_))))))
          refine⟨_,rfl,?_⟩
          refine aQ ?_
          refine fI fun h=>?_
          have:=h.late _ (List.getElem_mem q1)
          omega
         ·
          simp only[bs] at hc8
          refine aR (hK9 _ (aB (aE aA 1 rfl ?_)))
          refine aI rfl (bQ rfl rfl (by omega) (by omega)) ?_
          refine aE aA 1 rfl (aD ?_)
          exact⟨k1+1,⟨by omega,nE a2 (by omega) (by omega)⟩,by omega,cU rfl⟩
        ·
         simp only[bs] at hc7
         refine bI (hK5 _ (aC (fun K12 hK12=>(aC (fun K13 hK13=>(aB (aE aA 1 rfl (aD (hK13 _ (aU (bW (ι:=Nat) (fun k2=>⟨178,[(1,.adr (aL s)),(4,.s (.int .i64 (k2:Nat)))],[]⟩) (fun k2=>k2≤s.usr.length∧RisUp cM (fun x=>lA s x=true) s.usr k2) (fun k2=>s.usr.length - k2) 0 ?_ ?_ ?_)))))))))))
         · exact⟨Nat.zero_le _,RisUp.zero⟩
         · exact cU rfl
         ·
          rintro k2 hC
          obtain ⟨b1,b2⟩:=hC
          refine aC (fun K14 hK14=>(aC (fun K15 hK15=>(aB (aE aA 5 rfl (aD (hK15 _ (dV rfl rfl (fun hc9=>?_) (fun hc9=>?_)))))))))
          ·
           simp only[bs] at hc9
           refine aR (hK14 _ (aC (fun K16 hK16=>(aU (aC (fun K17 hK17=>(aB ?_)))))))
           have q2:k2<s.usr.length:=by omega
           refine aE aA 3 rfl ?_
           refine aI rfl (bJ rfl rfl zJ sL (by first | exact ixm (by omega) | assumption | exact⟨by decide,rfl⟩)) ?_
           refine aE aA 1 rfl (cC hf rfl aLo rfl sL rfl rfl rfl rfl (lf rfl) (aD (hK17 _ (aC (fun K18 hK18=>(dE hf bK (by kernel_rfl) rfl (bC aA 2 rfl (bT [(69,_)] rfl rfl ⟨⟨rfl,rfl⟩,trivial⟩ rfl (aP rfl rfl nO rfl (Nm.refRight_den _ (t2 _ (List.getElem_mem _)))) (bC aA 2 rfl (eI 72 false rfl (fun hg10=>?_) (fun hg10=>?_)))))))))))
           ·
            simp only[bs] at hg10
            refine bC aA 6 rfl (bT [(74,_),(76,_),(78,_)] rfl rfl ⟨⟨rfl,rfl⟩,⟨rfl,rfl⟩,⟨rfl,rfl⟩,trivial⟩ rfl (aP rfl rfl aPl rfl (aDq s s.usr[k2] (h5 _ (List.getElem_mem q2)) h1)) (bC aA 3 rfl (eI 82 false rfl (fun hg11=>?_) (fun hg11=>?_))))
            ·
             simp only[bs] at hg11
             refine bC aA 3 rfl (eI 85 true rfl (fun hg12=>?_) (fun hg12=>?_))
             ·
              simp only[bs] at hg12
              refine bC aA 3 rfl ?_
              refine bN [(88,_)] rfl rfl ⟨⟨rfl,rfl⟩,trivial⟩ rfl (eU rfl rfl (by omega) (by omega)) ?_
              refine bN [(87,_),(89,_)] rfl rfl ⟨⟨rfl,rfl⟩,⟨rfl,rfl⟩,trivial⟩ rfl (bJ rfl rfl zJ sL (gQ (k:=k2 - 1) (by omega) (by omega))) (bC aA 4 rfl (bT [(92,_),(94,_)] rfl rfl ⟨⟨rfl,rfl⟩,⟨rfl,rfl⟩,trivial⟩ rfl (aP rfl rfl tO rfl (Nm.refCmp_den _ _ (t2 _ (List.getElem_mem _)) (t2 _ (List.getElem_mem _)))) (bC aA 3 rfl (dC [1,4,98] rfl rfl rfl (hK18 _ (dV rfl rfl (fun hc13=>?_) (fun hc13=>?_)))))))
              ·
               simp only[bs] at hc13
               refine aC (fun K19 hK19=>(aB (aE aA 1 rfl (aD (hK19 _ (aM ?_))))))
               refine⟨_,rfl,?_⟩
               refine aQ ?_
               refine fI fun h=>?_
               have e1:=h.unm _ (List.getElem_mem q2)
               have e2:=h.uok _ (List.getElem_mem q2)
               (have e3:=aP2 h.usr (k:=k2) (by omega) q2; simp only[cM] at e3; omega)
              ·
               simp only[bs] at hc13
               refine aR (hK16 _ (aB (aE aA 1 rfl ?_)))
               refine aI rfl (bQ rfl rfl (by omega) (by omega)) ?_
               refine aE aA 1 rfl (aD ?_)
               exact⟨k2+1,⟨by omega,b2.next (by omega) (by first | assumption | (simp_all; done)) (by first | assumption | (simp_all; done)) (fun h0=>by first | omega | (show eG (s.usr[k2 - 1]).1 (s.usr[k2]).1<0; omega))⟩,by omega,cU rfl⟩
             ·
              simp only[bs] at hg12
              refine bC aA 13 rfl (dC [1,4,98] rfl rfl rfl (hK18 _ (bZ rfl (aR (hK16 _ (aB (aE aA 1 rfl ?_)))))))
              refine aI rfl (bQ rfl rfl (by omega) (by omega)) ?_
              refine aE aA 1 rfl (aD ?_)
              exact⟨k2+1,⟨by omega,b2.next (by omega) (by first | assumption | (simp_all; done)) (by first | assumption | (simp_all; done)) (fun h0=>by first | omega | (show eG (s.usr[k2 - 1]).1 (s.usr[k2]).1<0; omega))⟩,by omega,cU rfl⟩
            ·
             simp only[bs] at hg11
             refine bC aA 3 rfl (bE rfl rfl ?_)
             refine bE rfl rfl ?_
             refine bE rfl rfl ?_
             refine bE rfl rfl ?_
             refine bE rfl rfl ?_
             refine bE rfl rfl ?_
             refine bE rfl rfl ?_
             refine bE rfl rfl ?_
             refine bE rfl rfl ?_
             refine bE rfl rfl ?_
             refine bE rfl rfl ?_
             refine bC aA 2 rfl (dC [1,4,98] rfl rfl rfl (hK18 _ (bP rfl (aC (fun K20 hK20=>(aB (aE aA 1 rfl (aD (hK20 _ (aM ?_))))))))))
             refine⟨_,rfl,?_⟩
             refine aQ ?_
             refine fI fun h=>?_
             have e1:=h.unm _ (List.getElem_mem q2)
             have e2:=h.uok _ (List.getElem_mem q2)
             (simp_all; done)
           ·
            simp only[bs] at hg10
            refine bC aA 13 rfl (bE rfl rfl ?_)
            refine bE rfl rfl ?_
            refine bE rfl rfl ?_
            refine bE rfl rfl ?_
            refine bE rfl rfl ?_
            refine bE rfl rfl ?_
            refine bE rfl rfl ?_
            refine bE rfl rfl ?_
            refine bE rfl rfl ?_
            refine bE rfl rfl ?_
            refine bE rfl rfl ?_
            refine bC aA 2 rfl (dC [1,4,98] rfl rfl rfl (hK18 _ (bP rfl (aC (fun K21 hK21=>(aB (aE aA 1 rfl (aD (hK21 _ (aM ?_))))))))))
            refine⟨_,rfl,?_⟩
            refine aQ ?_
            refine fI fun h=>?_
            have e1:=h.unm _ (List.getElem_mem q2)
            have e2:=h.uok _ (List.getElem_mem q2)
            (simp_all; done)
          ·
           simp only[bs] at hc9
           refine bI (hK12 _ (aC (fun K22 hK22=>(aC (fun K23 hK23=>(aB (aE aA 1 rfl (aD (hK23 _ (aU (bW (ι:=Nat) (fun k3=>⟨178,[(1,.adr (aL s)),(6,.s (.int .i64 (k3:Nat)))],[]⟩) (fun k3=>k3≤s.sub.length∧∀ (j:Nat) (hj:j<s.sub.length),j<k3→jG s s.sub[j]=true) (fun k3=>s.sub.length - k3) 0 ?_ ?_ ?_)))))))))))
           · exact⟨Nat.zero_le _,by omega⟩
           · exact cU rfl
           ·
            rintro k3 hC
            obtain ⟨c1,c2⟩:=hC
            refine aC (fun K24 hK24=>(aC (fun K25 hK25=>(aB (aE aA 5 rfl (aD (hK25 _ (dV rfl rfl (fun hc17=>?_) (fun hc17=>?_)))))))))
            ·
             simp only[bs] at hc17
             refine aR (hK24 _ (aC (fun K26 hK26=>(aU (aC (fun K27 hK27=>(aB ?_)))))))
             have q3:k3<s.sub.length:=by omega
             refine aE aA 3 rfl ?_
             refine aI rfl (bJ rfl rfl qN lF (by first | exact ixm (by omega) | assumption | exact⟨by decide,rfl⟩)) ?_
             refine aE aA 1 rfl (cC hf rfl aE6 rfl lF rfl rfl rfl rfl (lf rfl) (aD (hK27 _ (aC (fun K28 hK28=>(aB (aE aA 4 rfl (bA rfl rfl rfl (fun hg18=>?_) (fun hg18=>?_)))))))))
             ·
              simp only[bs] at hg18
              refine aI rfl (bM rfl aLs cP rfl) ?_
              refine aE aA 6 rfl (bA rfl rfl rfl (fun hg19=>?_) (fun hg19=>?_))
              ·
               simp only[bs] at hg19
               refine aI rfl (bM rfl aBd cP rfl) ?_
               refine aE aA 5 rfl (bA rfl rfl rfl (fun hg20=>?_) (fun hg20=>?_))
               ·
                simp only[bs] at hg20
                refine aI rfl (bM rfl aBd cP rfl) ?_
                refine aE aA 4 rfl (aD (hK28 _ (dV rfl rfl (fun hc21=>?_) (fun hc21=>?_))))
                ·
                 simp only[bs] at hc21
                 refine aC (fun K29 hK29=>(aB (aE aA 1 rfl (aD (hK29 _ (aM ?_))))))
                 refine⟨_,rfl,?_⟩
                 refine aQ ?_
                 refine fI fun h=>?_
                 have e1:=fW.1 (h.sok _ (List.getElem_mem q3))
                 omega
                ·
                 simp only[bs] at hc21
                 refine aR (hK26 _ (aB (aE aA 1 rfl ?_)))
                 refine aI rfl (bQ rfl rfl (by omega) (by omega)) ?_
                 refine aE aA 1 rfl (aD ?_)
                 exact⟨k3+1,⟨by omega,nE c2 (by omega) (fW.2 ⟨by omega,by omega,by omega⟩)⟩,by omega,cU rfl⟩
               ·
                simp only[bs] at hg20
                refine aE aA 4 rfl (aD (hK28 _ (bZ rfl (aR (hK26 _ (aB (aE aA 1 rfl ?_)))))))
                refine aI rfl (bQ rfl rfl (by omega) (by omega)) ?_
                refine aE aA 1 rfl (aD ?_)
                exact⟨k3+1,⟨by omega,nE c2 (by omega) (fW.2 ⟨by omega,by omega,by omega⟩)⟩,by omega,cU rfl⟩
              ·
               simp only[bs] at hg19
               refine aE aA 5 rfl (gF rfl rfl rfl ?_)
               refine gF rfl rfl rfl ?_
               refine gF rfl rfl rfl ?_
               refine aE aA 2 rfl (aD (hK28 _ (bP rfl (aC (fun K30 hK30=>(aB (aE aA 1 rfl (aD (hK30 _ (aM ?_))))))))))
               refine⟨_,rfl,?_⟩
               refine aQ ?_
               refine fI fun h=>?_
               have e1:=fW.1 (h.sok _ (List.getElem_mem q3))
               omega
             ·
              simp only[bs] at hg18
              refine aE aA 12 rfl (gF rfl rfl rfl ?_)
              refine gF rfl rfl rfl ?_
              refine gF rfl rfl rfl ?_
              refine aE aA 2 rfl (aD (hK28 _ (bP rfl (aC (fun K31 hK31=>(aB (aE aA 1 rfl (aD (hK31 _ (aM ?_))))))))))
              refine⟨_,rfl,?_⟩
              refine aQ ?_
              refine fI fun h=>?_
              have e1:=fW.1 (h.sok _ (List.getElem_mem q3))
              omega
            ·
             simp only[bs] at hc17
             refine bI (hK22 _ (aC (fun K32 hK32=>(aC (fun K33 hK33=>(aB (aE aA 1 rfl (aD (hK33 _ (aU (bW (ι:=Nat) (fun k4=>⟨178,[(1,.adr (aL s)),(8,.s (.int .i64 (k4:Nat)))],[]⟩) (fun k4=>k4≤s.tmb.length∧RisUp dH (fun x=>pV s x=true) s.tmb k4) (fun k4=>s.tmb.length - k4) 0 ?_ ?_ ?_)))))))))))
             · exact⟨Nat.zero_le _,RisUp.zero⟩
             · exact cU rfl
             ·
              rintro k4 hC
              obtain ⟨d1,d2⟩:=hC
              refine aC (fun K34 hK34=>(aC (fun K35 hK35=>(aB (aE aA 5 rfl (aD (hK35 _ (dV rfl rfl (fun hc25=>?_) (fun hc25=>?_)))))))))
              ·
               simp only[bs] at hc25
               refine aR (hK34 _ (aC (fun K36 hK36=>(aU (aC (fun K37 hK37=>(aB ?_)))))))
               have q4:k4<s.tmb.length:=by omega
               refine aE aA 3 rfl ?_
               refine aI rfl (bJ rfl rfl aFi sM (by first | exact ixm (by omega) | assumption | exact⟨by decide,rfl⟩)) ?_
               refine aE aA 1 rfl (cC hf rfl aHe rfl sM rfl rfl rfl rfl (lf rfl) (aD (hK37 _ (aC (fun K38 hK38=>(dE hf bK (by kernel_rfl) rfl (bC aA 2 rfl (bT [(146,_)] rfl rfl ⟨⟨rfl,rfl⟩,trivial⟩ rfl (aP rfl rfl nO rfl (Nm.refRight_den _ (t4 _ (List.getElem_mem _)))) (bC aA 2 rfl (eI 149 false rfl (fun hg26=>?_) (fun hg26=>?_)))))))))))
               ·
                simp only[bs] at hg26
                refine bC aA 5 rfl (eI 154 false rfl (fun hg27=>?_) (fun hg27=>?_))
                ·
                 simp only[bs] at hg27
                 refine bC aA 7 rfl (eI 161 false rfl (fun hg28=>?_) (fun hg28=>?_))
                 ·
                  simp only[bs] at hg28
                  refine bC aA 3 rfl (eI 164 true rfl (fun hg29=>?_) (fun hg29=>?_))
                  ·
                   simp only[bs] at hg29
                   refine bC aA 3 rfl ?_
                   refine bN [(167,_)] rfl rfl ⟨⟨rfl,rfl⟩,trivial⟩ rfl (eU rfl rfl (by omega) (by omega)) ?_
                   refine bN [(166,_),(168,_)] rfl rfl ⟨⟨rfl,rfl⟩,⟨rfl,rfl⟩,trivial⟩ rfl (bJ rfl rfl aFi sM (gQ (k:=k4 - 1) (by omega) (by omega))) (bC aA 4 rfl (bT [(171,_),(173,_)] rfl rfl ⟨⟨rfl,rfl⟩,⟨rfl,rfl⟩,trivial⟩ rfl (aP rfl rfl tO rfl (Nm.refCmp_den _ _ (t4 _ (List.getElem_mem _)) (t4 _ (List.getElem_mem _)))) (bC aA 3 rfl (dC [1,8,177] rfl rfl rfl (hK38 _ (dV rfl rfl (fun hc30=>?_) (fun hc30=>?_)))))))
                   ·
                    simp only[bs] at hc30
                    refine aC (fun K39 hK39=>(aB (aE aA 1 rfl (aD (hK39 _ (aM ?_))))))
                    refine⟨_,rfl,?_⟩
                    refine aQ ?_
                    refine fI fun h=>?_
                    have e1:=h.tnm _ (List.getElem_mem q4)
                    have e2:=jY.1 (h.tok _ (List.getElem_mem q4))
                    (have e3:=aP2 h.tmb (k:=k4) (by omega) q4; simp only[dH] at e3; omega)
                   ·
                    simp only[bs] at hc30
                    refine aR (hK36 _ (aB (aE aA 1 rfl ?_)))
                    refine aI rfl (bQ rfl rfl (by omega) (by omega)) ?_
                    refine aE aA 1 rfl (aD ?_)
                    exact⟨k4+1,⟨by omega,d2.next (by omega) (by first | assumption | (simp_all; done)) (jY.2 ⟨by omega,by omega⟩) (fun h0=>by first | omega | (show eG (s.tmb[k4 - 1]).1 (s.tmb[k4]).1<0; omega))⟩,by omega,cU rfl⟩
                  ·
                   simp only[bs] at hg29
                   refine bC aA 13 rfl (dC [1,8,177] rfl rfl rfl (hK38 _ (bZ rfl (aR (hK36 _ (aB (aE aA 1 rfl ?_)))))))
                   refine aI rfl (bQ rfl rfl (by omega) (by omega)) ?_
                   refine aE aA 1 rfl (aD ?_)
                   exact⟨k4+1,⟨by omega,d2.next (by omega) (by first | assumption | (simp_all; done)) (jY.2 ⟨by omega,by omega⟩) (fun h0=>by first | omega | (show eG (s.tmb[k4 - 1]).1 (s.tmb[k4]).1<0; omega))⟩,by omega,cU rfl⟩
                 ·
                  simp only[bs] at hg28
                  refine bC aA 3 rfl (bE rfl rfl ?_)
                  refine bE rfl rfl ?_
                  refine bE rfl rfl ?_
                  refine bE rfl rfl ?_
                  refine bE rfl rfl ?_
                  refine bE rfl rfl ?_
                  refine bE rfl rfl ?_
                  refine bE rfl rfl ?_
                  refine bE rfl rfl ?_
                  refine bE rfl rfl ?_
                  refine bE rfl rfl ?_
                  refine bC aA 2 rfl (dC [1,8,177] rfl rfl rfl (hK38 _ (bP rfl (aC (fun K40 hK40=>(aB (aE aA 1 rfl (aD (hK40 _ (aM ?_))))))))))
                  refine⟨_,rfl,?_⟩
                  refine aQ ?_
                  refine fI fun h=>?_
                  have e1:=h.tnm _ (List.getElem_mem q4)
                  have e2:=jY.1 (h.tok _ (List.getElem_mem q4))
                  omega
                ·
                 simp only[bs] at hg27
                 refine bC aA 10 rfl (bE rfl rfl ?_)
                 refine bE rfl rfl ?_
                 refine bE rfl rfl ?_
                 refine bE rfl rfl ?_
                 refine bE rfl rfl ?_
                 refine bE rfl rfl ?_
                 refine bE rfl rfl ?_
                 refine bE rfl rfl ?_
                 refine bE rfl rfl ?_
                 refine bE rfl rfl ?_
                 refine bE rfl rfl ?_
                 refine bC aA 2 rfl (dC [1,8,177] rfl rfl rfl (hK38 _ (bP rfl (aC (fun K41 hK41=>(aB (aE aA 1 rfl (aD (hK41 _ (aM ?_))))))))))
                 refine⟨_,rfl,?_⟩
                 refine aQ ?_
                 refine fI fun h=>?_
                 have e1:=h.tnm _ (List.getElem_mem q4)
                 have e2:=jY.1 (h.tok _ (List.getElem_mem q4))
                 omega
               ·
                simp only[bs] at hg26
                refine bC aA 15 rfl (bE rfl rfl ?_)
                refine bE rfl rfl ?_
                refine bE rfl rfl ?_
                refine bE rfl rfl ?_
                refine bE rfl rfl ?_
                refine bE rfl rfl ?_
                refine bE rfl rfl ?_
                refine bE rfl rfl ?_
                refine bE rfl rfl ?_
                refine bE rfl rfl ?_
                refine bE rfl rfl ?_
                refine bC aA 2 rfl (dC [1,8,177] rfl rfl rfl (hK38 _ (bP rfl (aC (fun K42 hK42=>(aB (aE aA 1 rfl (aD (hK42 _ (aM ?_))))))))))
                refine⟨_,rfl,?_⟩
                refine aQ ?_
                refine fI fun h=>?_
                have e1:=h.tnm _ (List.getElem_mem q4)
                have e2:=jY.1 (h.tok _ (List.getElem_mem q4))
                (simp_all; done)
              ·
               simp only[bs] at hc25
               refine bI (hK32 _ (aC (fun K43 hK43=>(aB (aE aA 1 rfl (aD (hK43 _ (aM ?_))))))))
               refine⟨_,rfl,?_⟩
               refine aQ ?_
               exact aQ0 ⟨by omega,by omega,by omega,by omega,by first | assumption | (simp_all; done),aLl (by omega) a2,b2.n (by omega),b2.r (by omega),b2.q (by omega),by first | assumption | (simp_all; done),aLl (by omega) c2,d2.n (by omega),d2.r (by omega),d2.q (by omega)⟩
     ·
      simp only[bs] at hg5
      refine aE aA 4 rfl (aD (hK3 _ (bP rfl (aC (fun K44 hK44=>(aB (aE aA 1 rfl (aD (hK44 _ (aM ?_))))))))))
      refine⟨_,rfl,?_⟩
      refine aQ ?_
      refine fI fun h=>?_
      have n0:=h.n0
      have n1:=h.n1
      have n2:=h.h0
      have n3:=h.h1
      have n4:=h.opn
      have n5:=h.sub
      (simp_all; done)
    ·
     simp only[bs] at hg4
     refine aE aA 10 rfl (aD (hK3 _ (bP rfl (aC (fun K45 hK45=>(aB (aE aA 1 rfl (aD (hK45 _ (aM ?_))))))))))
     refine⟨_,rfl,?_⟩
     refine aQ ?_
     refine fI fun h=>?_
     have n0:=h.n0
     have n1:=h.n1
     have n2:=h.h0
     have n3:=h.h1
     have n4:=h.opn
     have n5:=h.sub
     omega
   ·
    simp only[bs] at hg3
    refine aE aA 15 rfl (aD (hK3 _ (bP rfl (aC (fun K46 hK46=>(aB (aE aA 1 rfl (aD (hK46 _ (aM ?_))))))))))
    refine⟨_,rfl,?_⟩
    refine aQ ?_
    refine fI fun h=>?_
    have n0:=h.n0
    have n1:=h.n1
    have n2:=h.h0
    have n3:=h.h1
    have n4:=h.opn
    have n5:=h.sub
    omega
  ·
   simp only[bs] at hg2
   refine aE aA 20 rfl (aD (hK3 _ (bP rfl (aC (fun K47 hK47=>(aB (aE aA 1 rfl (aD (hK47 _ (aM ?_))))))))))
   refine⟨_,rfl,?_⟩
   refine aQ ?_
   refine fI fun h=>?_
   have n0:=h.n0
   have n1:=h.n1
   have n2:=h.h0
   have n3:=h.h1
   have n4:=h.opn
   have n5:=h.sub
   omega
 ·
  simp only[bs] at hg1
  refine aE aA 25 rfl (aD (hK3 _ (bP rfl (aC (fun K48 hK48=>(aB (aE aA 1 rfl (aD (hK48 _ (aM ?_))))))))))
  refine⟨_,rfl,?_⟩
  refine aQ ?_
  refine fI fun h=>?_
  have n0:=h.n0
  have n1:=h.n1
  have n2:=h.h0
  have n3:=h.h1
  have n4:=h.opn
  have n5:=h.sub
  omega
end Go.Proofs.YtijnkglkchhomaaGreat
set_option linter.unusedVariables false
set_option linter.unusedSimpArgs false
namespace Go.Proofs.YtijnkglkchhomaaGreat
open Go Go.Abs
end Go.Proofs.YtijnkglkchhomaaGreat
set_option linter.unusedVariables false
set_option linter.unusedSimpArgs false
namespace Go.Proofs.YtijnkglkchhomaaGreat
open Go Go.Abs
theorem aN7 (s:Sta) (hz:SzS 140737488355328 s) (ts:TsS s):Den Tryz.prog 86 [.agg (aL s)] (·=.s (.bool (fM s))) :=
  aJv s (by have:=hz.o; omega) (by have:=hz.u; omega) (by have:=hz.b; omega) (by have:=hz.t; omega) (fun x hx=>by have:=hz.y x hx; omega) ts.o ts.u ts.b ts.t
theorem aN6 (s:Sta) (hz:SzS 140737488355328 s) (h:RightP s):Den Tryz.prog 86 [.agg (aL s)] (·=.s (.bool true)):=fH (aN7 s hz (aSy h)) (by rw[iP.2 h])
theorem wN (s:Sta) (hz:SzS 140737488355328 s) (ts:TsS s):Den Tryz.prog 12 [.agg (aL s)] (·=.s (.bool (fM s))) :=
  aDs s (by have:=hz.o; omega) (by have:=hz.u; omega) (by have:=hz.b; omega) (by have:=hz.t; omega) (fun x hx=>by have:=hz.y x hx; omega) ts.o ts.u ts.b ts.t
theorem vW (a b:Sta) (h:a=b) (hz:SzS 140737488355328 a):Den Tryz.prog 34 [.agg (aL a),.agg (aL b)] (·=.s (.bool true)):=by
  subst h; exact fH (aDg a a hz hz) (by simp)
theorem newW (s:Sta) (hz:SzS 140737488353280 s):Den Tryz.prog 16 [.agg (aL s)] (·=.agg (aL s)):=aRb s (hz.mono (by omega))
theorem applyW (s:Sta) (e:Ev) (hz:SzS 140737488353280 s) (h:RightP s) (hu:TS e.user) (ho:TS e.other):Den Tryz.prog 42 [.agg (aL s),.agg (evC e)] (·=.tup [.agg (aL (cG s e).1),.s (.int .i64 (cG s e).2)]):=kG s e (hz.mono (by omega)) h.usr h.tmb hu ho
theorem aSz (s:Sta) (hz:SzS 140737488353280 s) (h:RightP s):Den Tryz.prog 43 [.agg (aL s)] (·=.agg (aL (kZ s))):=uK s (hz.mono (by omega)) (Nat.le_trans (aP3 h) (by decide)) h.usr
theorem aS5 (s:Sta) (hz:SzS 140737488353280 s):Den Tryz.prog 44 [.agg (aL s)] (·=.agg (aL (pR s))):=aA1 s (hz.mono (by omega))
theorem vA  :Den Tryz.prog 40 []  (·=.s (.bool true)):=by
 refine aY Tryz.func40 rfl (Nat.le_of_ble_eq_true rfl) (fun w0 A hf=>(aC (fun K1 hK1=>(aB (aE aA 1 rfl (aD (hK1 _ (aC (fun K2 hK2=>(aB (aI rfl (dD rfl aX kW (l3 rfl) rfl) (cB (rA nX) (aI rfl (dD rfl gD jN (l3 rfl) rfl) (aN hf rfl (aP rfl rfl lN rfl ((show Den Tryz.prog _ _ (·=.tup [.agg (aL alS),.s (.int .i64 0)]) from fH (kG aJ alE1 (⟨by decide,by decide,by decide,by decide,by decide⟩) (RightP.usr eQ) (RightP.tmb eQ) (by decide) (by decide)) (by rw[al_1])))) ?_))))))))))))))
 refine aE aA 3 rfl (cC hf rfl aX rfl bS rfl rfl rfl rfl (lf rfl) (aE aA 1 rfl (aD (hK2 _ (aC (fun K3 hK3=>(aB (aE aA 1 rfl (aI rfl (dD rfl gD jN (l3 rfl) rfl) (aN hf rfl (aP rfl rfl lN rfl ((show Den Tryz.prog _ _ (·=.tup [.agg (aL alT),.s (.int .i64 0)]) from fH (kG alS alE2 (⟨by decide,by decide,by decide,by decide,by decide⟩) (RightP.usr aHb) (RightP.tmb aHb) (by decide) (by decide)) (by rw[al_2])))) ?_))))))))))
 refine aE aA 3 rfl (cC hf rfl aX rfl bS rfl rfl rfl rfl (lf rfl) (aE aA 1 rfl (aD (hK3 _ (aC (fun K4 hK4=>(aB (aE aA 1 rfl (aI rfl (dD rfl gD jN (l3 rfl) rfl) (aN hf rfl (aP rfl rfl lN rfl ((show Den Tryz.prog _ _ (·=.tup [.agg (aL aJ),.s (.int .i64 111)]) from fH (kG alT alE3 (⟨by decide,by decide,by decide,by decide,by decide⟩) (RightP.usr mA) (RightP.tmb mA) (by decide) (by decide)) (by rw[al_3])))) ?_))))))))))
 refine aE aA 3 rfl (cC hf rfl aX rfl bS rfl rfl rfl rfl (lf rfl) (aE aA 1 rfl (aD (hK4 _ (aC (fun K5 hK5=>(aB (aE aA 1 rfl (aI rfl (dD rfl gD jN (l3 rfl) rfl) (aN hf rfl (aP rfl rfl lN rfl ((show Den Tryz.prog _ _ (·=.tup [.agg (aL aJ),.s (.int .i64 110)]) from fH (kG alT alE4 (⟨by decide,by decide,by decide,by decide,by decide⟩) (RightP.usr mA) (RightP.tmb mA) (by decide) (by decide)) (by rw[al_4])))) ?_))))))))))
 refine aE aA 3 rfl (cC hf rfl aX rfl bS rfl rfl rfl rfl (lf rfl) (aE aA 1 rfl (aD (hK5 _ (aC (fun K6 hK6=>(aB (aE aA 1 rfl (aI rfl (dD rfl gD jN (l3 rfl) rfl) (aN hf rfl (aP rfl rfl lN rfl ((show Den Tryz.prog _ _ (·=.tup [.agg (aL alU),.s (.int .i64 0)]) from fH (kG alT alE5 (⟨by decide,by decide,by decide,by decide,by decide⟩) (RightP.usr mA) (RightP.tmb mA) (by decide) (by decide)) (by rw[al_5])))) ?_))))))))))
 refine aE aA 3 rfl (cC hf rfl aX rfl bS rfl rfl rfl rfl (lf rfl) (aE aA 1 rfl (aD (hK6 _ (aC (fun K7 hK7=>(aB (aE aA 1 rfl (aN hf rfl (aP rfl rfl tP rfl ((show Den Tryz.prog _ _ (·=.agg (aL alX)) from fH (uK alT (⟨by decide,by decide,by decide,by decide,by decide⟩) (by decide) (RightP.usr mA)) (by rw[al_6])))) ?_)))))))))
 refine cC hf rfl aX rfl bS rfl rfl rfl rfl (lf rfl) (aD (hK7 _ (aC (fun K8 hK8=>(aB (aE aA 1 rfl (aN hf rfl (aP rfl rfl aFd rfl ((show Den Tryz.prog _ _ (·=.sl 4 (List.map stC [((3,7),(1,1)),((7,9),(1,2))])) from fH (aAs alT sI 9 (⟨by decide,by decide,by decide,by decide,by decide⟩) (by decide) (RightP.usr mA)) (by rw[al_7])))) ?_)))))))
 refine aE aA 1 rfl (aD (hK8 _ (aC (fun K9 hK9=>(aC (fun K10 hK10=>(aB (aE aA 27 rfl (aD (hK10 _ (bZ rfl (aR (hK9 _ (aC (fun K11 hK11=>?_)))))))))))))))
 refine dE hf bK (by kernel_rfl) rfl (bC aA 8 rfl ?_)
 refine bN [(81,_)] rfl rfl ⟨⟨rfl,rfl⟩,trivial⟩ rfl (bJ rfl rfl cE bB (by first | exact ixm (by omega) | assumption | exact⟨by decide,rfl⟩)) ?_
 refine bC aA 7 rfl ?_
 refine bN [(89,_)] rfl rfl ⟨⟨rfl,rfl⟩,trivial⟩ rfl (bJ rfl rfl cE bB (by first | exact ixm (by omega) | assumption | exact⟨by decide,rfl⟩)) ?_
 refine bC aA 7 rfl (bT [(97,_)] rfl rfl ⟨⟨rfl,rfl⟩,trivial⟩ rfl (aP rfl rfl aO7 rfl ((show Den Tryz.prog _ _ (·=.s (.bool true)) from fH (aRf alU sI (⟨by decide,by decide,by decide,by decide,by decide⟩) (RightP.usr aAn) (RightP.tmb aAn)) (by rw[al_8])))) ?_)
 refine bC aA 3 rfl (bT [(101,_)] rfl rfl ⟨⟨rfl,rfl⟩,trivial⟩ rfl (aP rfl rfl lO rfl ((show Den Tryz.prog _ _ (·=.s (.int .i64 1)) from fH (kE alU (⟨by decide,by decide,by decide,by decide,by decide⟩)) (by rw[al_9])))) ?_)
 refine bC aA 5 rfl ?_
 refine bN [(107,_)] rfl rfl ⟨⟨rfl,rfl⟩,trivial⟩ rfl (bJ rfl rfl gN eR (by first | exact ixm (by omega) | assumption | exact⟨by decide,rfl⟩)) ?_
 refine bC aA 6 rfl (bT [(114,_)] rfl rfl ⟨⟨rfl,rfl⟩,trivial⟩ rfl (aP rfl rfl aO6 rfl (aN6 alU (⟨by decide,by decide,by decide,by decide,by decide⟩) aAn)) (bC aA 10 rfl ?_))
 refine bN [(125,_)] rfl rfl ⟨⟨rfl,rfl⟩,trivial⟩ rfl (bJ rfl rfl eC cV (by first | exact ixm (by omega) | assumption | exact⟨by decide,rfl⟩)) ?_
 refine bC aA 8 rfl (bT [(134,_)] rfl rfl ⟨⟨rfl,rfl⟩,trivial⟩ rfl (aP rfl rfl tP rfl ((show Den Tryz.prog _ _ (·=.agg (aL alX)) from fH (uK alX (⟨by decide,by decide,by decide,by decide,by decide⟩) (by decide) (RightP.usr aR6)) (by rw[← al_6,aJz])))) ?_)
 refine bT [(133,_),(135,_)] rfl rfl ⟨⟨rfl,rfl⟩,⟨rfl,rfl⟩,trivial⟩ rfl (aP rfl rfl qL rfl (vW alX alX rfl (⟨by decide,by decide,by decide,by decide,by decide⟩))) (bC aA 4 rfl (bT [(139,_),(140,_)] rfl rfl ⟨⟨rfl,rfl⟩,⟨rfl,rfl⟩,trivial⟩ rfl (aP rfl rfl qL rfl ((show Den Tryz.prog _ _ (·=.s (.bool false)) from fH (aDg alX alU (⟨by decide,by decide,by decide,by decide,by decide⟩) (⟨by decide,by decide,by decide,by decide,by decide⟩)) (by rw[al_10])))) ?_))
 refine bC aA 4 rfl (bT [(145,_)] rfl rfl ⟨⟨rfl,rfl⟩,trivial⟩ rfl (aP rfl rfl xT rfl ((show Den Tryz.prog _ _ (·=.agg (aL alX)) from fH (aA1 alX (⟨by decide,by decide,by decide,by decide,by decide⟩)) (by rw[al_11])))) ?_)
 refine bC aA 5 rfl (dC [0] rfl rfl rfl (hK11 _ (aM ?_)))
 refine⟨_,rfl,?_⟩
 rfl
end Go.Proofs.YtijnkglkchhomaaGreat
set_option linter.unusedVariables false
set_option linter.unusedSimpArgs false
namespace Go.Proofs.YtijnkglkchhomaaGreat
open Go Go.Abs
theorem aKj  :Den Tryz.prog 18 [.sl 6 (([]:List Ev).map evC)]  (·=.tup [.s (.int .i64 0),.s (.bool false)]):=by
 refine aY Tryz.func18 rfl (Nat.le_of_ble_eq_true rfl) (fun w0 A hf=>(aC (fun K1 hK1=>(aB (aE aA 2 rfl (aD (hK1 _ (aC (fun K2 hK2=>(aC (fun K3 hK3=>(aB (aE aA 3 rfl (aD (hK3 _ (bP rfl ?_))))))))))))))))
 refine aC (fun K4 hK4=>(aB (aE aA 2 rfl (aD (hK4 _ (aM ?_))))))
 refine⟨_,rfl,?_⟩
 rfl
theorem aKh (x:Ev) (r:List Ev) (hl:r.length≤1000) :Den Tryz.prog 18 [.sl 6 ((x::r).map evC)]  (·=.tup [.s (.int .i64 (tS r x).at'),.s (.bool true)]):=by
 have hlx:((x::r).map evC).length=r.length+1:=by simp
 refine aY Tryz.func18 rfl (Nat.le_of_ble_eq_true rfl) (fun w0 A hf=>(aC (fun K1 hK1=>(aB (aE aA 2 rfl (aD (hK1 _ (aC (fun K2 hK2=>(aC (fun K3 hK3=>(aB (aE aA 3 rfl (aD (hK3 _ (aO rfl (fun hc1=>?_) (fun hc1=>?_)))))))))))))))))
 ·
  simp only[bs] at hc1
  omega
 ·
  simp only[bs] at hc1
  refine aR (hK2 _ (aC (fun K4 hK4=>(aB (aE aA 1 rfl (aN hf rfl (aP rfl rfl aPj rfl (aRl x r hl)) (aE aA 3 rfl (aD (hK4 _ (aM ?_))))))))))
  refine⟨_,rfl,?_⟩
  rfl
theorem aEa (l:List Ev) (hl:l.length≤1000):Den Tryz.prog 18 [.sl 6 (l.map evC)] (·=.tup [.s (.int .i64 (lateA l)),.s (.bool (!l.isEmpty))]):=by
  match l,hl with
  | [],_=>exact aKj
  | x::r,hl=>exact aKh x r (by simp only[List.length_cons] at hl; omega)
theorem gS  :Den Tryz.prog 13 []  (·=.s (.bool true)):=by
 refine aY Tryz.func13 rfl (Nat.le_of_ble_eq_true rfl) (fun w0 A hf=>(aC (fun K1 hK1=>(aB (aE aA 1 rfl (aD (hK1 _ (aC (fun K2 hK2=>(aB (aI rfl (dD rfl gD jN (l3 rfl) rfl) (aI rfl (dD rfl gD jN (l3 rfl) rfl) (aI rfl (dD rfl gD jN (l3 rfl) rfl) ?_)))))))))))))
 skip
 refine aN hf rfl (bR cW rfl rfl rfl rfl (l2 rfl)) (aE aA 1 rfl (aD (hK2 _ (aC (fun K3 hK3=>(aB (aI rfl (dD rfl aX kW (l3 rfl) rfl) (cB (rA nX) (aE aA 1 rfl (aN hf rfl (aP rfl rfl fC rfl ((show Den Tryz.prog _ _ (·=.tup [.agg (aL afS),.sl 1 (bH [0,100,0])]) from fH (iB aJ [aGf,aGe,aE2] (uD _) eQ (by decide) (by decide)) (by rw[af_1,af_2])))) ?_))))))))))
 refine aE aA 3 rfl (cC hf rfl aX rfl bS rfl rfl rfl rfl (lf rfl) (aE aA 1 rfl (aD (hK3 _ (aC (fun K4 hK4=>(aB (aI rfl (dD rfl aX kW (l3 rfl) rfl) (cB (rA nX) (aE aA 1 rfl (aN hf rfl (aP rfl rfl nP rfl ((show Den Tryz.prog _ _ (·=.sl 6 ([aGf,aE2].map evC)) from fH (pA aJ [aGf,aGe,aE2] (uD _) eQ (by decide) (by decide)) (by rw[af_3])))) ?_)))))))))))
 refine aE aA 1 rfl (aD (hK4 _ (aC (fun K5 hK5=>(aB (aE aA 1 rfl (aN hf rfl (aP rfl rfl aFf rfl ((show Den Tryz.prog _ _ (·=.tup [.s (.int .i64 5),.s (.bool true)]) from aEa [aGf,aGe,aE2] (by decide)))) (aE aA 5 rfl (aD (hK5 _ (aC (fun K6 hK6=>(aB (aN hf rfl (aP rfl rfl aFf rfl (aTv (aEa [] (by decide)))) ?_))))))))))))))
 refine aE aA 5 rfl (aD (hK6 _ (aC (fun K7 hK7=>(dE hf bK (by kernel_rfl) rfl (bC aA 5 rfl ?_))))))
 refine bN [(35,_)] rfl rfl ⟨⟨rfl,rfl⟩,trivial⟩ rfl (bJ rfl rfl mX mY (by first | assumption | (refine⟨by omega,?_⟩; first | assumption | exact gG (by omega) | exact gG (by simp only[List.length_cons] at *; omega) | exact nT (by omega) | exact pX (by omega) | exact nS (by omega)) | exact⟨by decide,rfl⟩)) ?_
 refine bC aA 5 rfl ?_
 refine bN [(41,_)] rfl rfl ⟨⟨rfl,rfl⟩,trivial⟩ rfl (bJ rfl rfl mX mY (by first | assumption | (refine⟨by omega,?_⟩; first | assumption | exact gG (by omega) | exact gG (by simp only[List.length_cons] at *; omega) | exact nT (by omega) | exact pX (by omega) | exact nS (by omega)) | exact⟨by decide,rfl⟩)) ?_
 refine bC aA 5 rfl ?_
 refine bN [(47,_)] rfl rfl ⟨⟨rfl,rfl⟩,trivial⟩ rfl (bJ rfl rfl mX mY (by first | assumption | (refine⟨by omega,?_⟩; first | assumption | exact gG (by omega) | exact gG (by simp only[List.length_cons] at *; omega) | exact nT (by omega) | exact pX (by omega) | exact nS (by omega)) | exact⟨by decide,rfl⟩)) ?_
 refine bC aA 5 rfl (bT [(53,_)] rfl rfl ⟨⟨rfl,rfl⟩,trivial⟩ rfl (aP rfl rfl aFd rfl ((show Den Tryz.prog _ _ (·=.sl 4 (List.map stC [((3,5),(1,1))])) from fH (aAs afS sI 9 (⟨by decide,by decide,by decide,by decide,by decide⟩) (by decide) (RightP.usr aR8)) (by rw[af_5])))) ?_)
 refine bC aA 10 rfl ?_
 refine bN [(64,_)] rfl rfl ⟨⟨rfl,rfl⟩,trivial⟩ rfl (bJ rfl rfl gY cY (by first | assumption | (refine⟨by omega,?_⟩; first | assumption | exact gG (by omega) | exact gG (by simp only[List.length_cons] at *; omega) | exact nT (by omega) | exact pX (by omega) | exact nS (by omega)) | exact⟨by decide,rfl⟩)) ?_
 refine bC aA 2 rfl ?_
 refine bN [(67,_)] rfl rfl ⟨⟨rfl,rfl⟩,trivial⟩ rfl (bJ rfl rfl gY cY (by first | assumption | (refine⟨by omega,?_⟩; first | assumption | exact gG (by omega) | exact gG (by simp only[List.length_cons] at *; omega) | exact nT (by omega) | exact pX (by omega) | exact nS (by omega)) | exact⟨by decide,rfl⟩)) ?_
 refine bC aA 1 rfl (bN [(66,_),(69,_)] rfl rfl ⟨⟨rfl,rfl⟩,⟨rfl,rfl⟩,trivial⟩ rfl (iA rfl rfl iC (aeq_ev aE2)) ?_)
 skip
 refine bC aA 3 rfl (bT [(73,_)] rfl rfl ⟨⟨rfl,rfl⟩,trivial⟩ rfl (aP rfl rfl qM rfl ((show Den Tryz.prog _ _ (·=.sl 6 ([aGe].map evC)) from fH (lB [aGf,aGe,aE2] sI (by decide)) (by rw[af_4])))) ?_)
 refine bC aA 15 rfl (dC [0] rfl rfl rfl (hK7 _ (aM ?_)))
 refine⟨_,rfl,?_⟩
 rfl
end Go.Proofs.YtijnkglkchhomaaGreat
set_option linter.unusedVariables false
set_option linter.unusedSimpArgs false
namespace Go.Abs
open Go
def noH (u:ByteArray) (e:Se):Bool:=!oI u e
def noU (u:ByteArray) (e:En):Bool:=!lV u e
theorem aOd {u:ByteArray} {e:Se} (h:e.1.2≠u):noH u e=true:=by simp [noH,oI,h]
theorem aTg {u:ByteArray} {e:Se} (h:e.1.2=u):noH u e=false:=by simp [noH,oI,h]
theorem uZ {u v:ByteArray} {n:Int} (hv:v≠u):∀ l:List Se,fJ l n v=0→fJ (l.filter (noH u)) n v=0
  | [],h=>h
  | x::l,h=>by
    rw[fJ] at h
    by_cases hx:isN n x=true
    · rw[if_pos hx] at h
      have hu:x.1.2=v:=by
        by_cases e:x.1.2=v
        · exact e
        · rw[if_neg e] at h; omega
      rw[List.filter_cons_of_pos (aOd (by rw[hu]; exact hv)),fJ,if_pos hx,if_pos hu]
    · rw[if_neg hx] at h
      have ih:=uZ hv l h
      by_cases hp:noH u x=true
      · rw[List.filter_cons_of_pos hp,fJ,if_neg hx]; exact ih
      · rw[List.filter_cons_of_neg hp]; exact ih
theorem xO {u v:ByteArray} {n:Int} (hv:v≠u) (st t:Int):∀ l:List Se,fJ l n v=0→xK (l.filter (noH u)) n=xK l n∧tY (l.filter (noH u)) n st t=(tY l n st t).filter (noH u)∧tE (l.filter (noH u)) n=(tE l n).filter (noH u)
  | [],h=>⟨rfl,rfl,rfl⟩
  | x::l,h=>by
    rw[fJ] at h
    by_cases hx:isN n x=true
    · rw[if_pos hx] at h
      have hu:x.1.2=v:=by
        by_cases e:x.1.2=v
        · exact e
        · rw[if_neg e] at h; omega
      have hp:noH u x=true:=aOd (by rw[hu]; exact hv)
      have hp2:noH u (x.1,(st,t))=true:=hp
      rw[List.filter_cons_of_pos hp,xK,xK,tY,tY,tE,tE,if_pos hx,if_pos hx,if_pos hx,if_pos hx,if_pos hx,if_pos hx,List.filter_cons_of_pos hp2]
      exact⟨rfl,rfl,rfl⟩
    · rw[if_neg hx] at h
      obtain ⟨i1,i2,i3⟩:=xO hv st t l h
      by_cases hp:noH u x=true
      · rw[List.filter_cons_of_pos hp,xK,xK,tY,tY,tE,tE,if_neg hx,if_neg hx,if_neg hx,if_neg hx,if_neg hx,if_neg hx,List.filter_cons_of_pos hp,List.filter_cons_of_pos hp,i1,i2,i3]
        exact⟨rfl,rfl,rfl⟩
      · rw[List.filter_cons_of_neg hp,xK,tY,tE,if_neg hx,if_neg hx,if_neg hx,List.filter_cons_of_neg hp,List.filter_cons_of_neg hp]
        exact⟨i1,i2,i3⟩
theorem aIo {u:ByteArray} {n:Int} (st t:Int):∀ l:List Se,fJ l n u=0→(tY l n st t).filter (noH u)=l.filter (noH u)∧(tE l n).filter (noH u)=l.filter (noH u)
  | [],h=>⟨rfl,rfl⟩
  | x::l,h=>by
    rw[fJ] at h
    by_cases hx:isN n x=true
    · rw[if_pos hx] at h
      have hu:x.1.2=u:=by
        by_cases e:x.1.2=u
        · exact e
        · rw[if_neg e] at h; omega
      have hp:¬ noH u x=true:=by rw[aTg hu]; decide
      have hp2:¬ noH u (x.1,(st,t))=true:=hp
      rw[tY,tE,if_pos hx,if_pos hx,List.filter_cons_of_neg hp,List.filter_cons_of_neg hp2]
      exact⟨rfl,rfl⟩
    · rw[if_neg hx] at h
      obtain ⟨i1,i2⟩:=aIo st t l h
      rw[tY,tE,if_neg hx,if_neg hx,List.filter_cons,List.filter_cons,List.filter_cons,i1,i2]
      exact⟨rfl,rfl⟩
theorem aOg {α:Type} {q:α→Bool} {e:α}:∀ {l:List α},(∀ y∈l,q y=true)→tW q e l=e::l
  | [],_=>rfl
  | x::l,h=>by rw[tW,if_pos (h x (List.mem_cons_self ..))]
theorem aD5 {u:ByteArray} {e:Se} (he:noH u e=true):∀ {l:List Se},l.Pairwise (fun a b=>a.1.1<b.1.1)→(yO l e).filter (noH u)=yO (l.filter (noH u)) e
  | [],_=>by show List.filter _ [e]=[e]; rw[List.filter_cons_of_pos he]; rfl
  | x::l,h=>by
    obtain ⟨h1,h2⟩:=List.pairwise_cons.1 h
    have ih:=aD5 he h2
    unfold yO at ih ⊢
    by_cases hq:kI e.1.1 x=true
    · rw[tW,if_pos hq,List.filter_cons_of_pos he]
      refine(aOg fun y hy=>?_).symm
      have hq':e.1.1<x.1.1:=by simpa [kI] using hq
      rcases List.mem_cons.1 (List.mem_filter.1 hy).1 with rfl | hy
      · exact hq
      · have:=h1 y hy
        simp only[kI,decide_eq_true_eq]; omega
    · rw[tW,if_neg hq]
      by_cases hp:noH u x=true
      · rw[List.filter_cons_of_pos hp,List.filter_cons_of_pos hp,tW,if_neg hq,ih]
      · rw[List.filter_cons_of_neg hp,List.filter_cons_of_neg hp,ih]
theorem opn_his {u:ByteArray} {e:Se} (he:noH u e=false) (l:List Se):(yO l e).filter (noH u)=l.filter (noH u):=by
  obtain ⟨pre,post,e1,e2⟩:=aEg (kI e.1.1) e l
  rw[yO,e2,e1,List.filter_append,List.filter_append,List.filter_cons_of_neg (by rw[he]; decide)]
theorem aKc {u:ByteArray} {e:Se} {l:List Se} (h:sZ l e=0):sZ (l.filter (noH u)) e=0:=by
  unfold sZ at h ⊢
  have hn:aCb l e.1.1=false:=by
    cases hh:aCb l e.1.1 with
    | false=>rfl
    | true=>rw[if_pos hh] at h; omega
  have hn2:aCb (l.filter (noH u)) e.1.1=false:=by
    rw[aCb,List.any_eq_false] at hn ⊢
    exact fun x hx=>hn x (List.mem_filter.1 hx).1
  have:=List.length_filter_le (noH u) l
  rw[hn,if_neg (by decide)] at h
  rw[hn2,if_neg (by decide)]
  split at h
  · omega
  · rw[if_neg (by omega)]
theorem aP9 {u:ByteArray} {e:En} (he:noU u e=true):∀ {l:List En},l.Pairwise RisR→(qR l e).filter (noU u)=qR (l.filter (noU u)) e
  | [],_=>by show List.filter _ [e]=[e]; rw[List.filter_cons_of_pos he]; rfl
  | x::l,hp=>by
    obtain ⟨h1,h2⟩:=List.pairwise_cons.1 hp
    have ih:=aP9 he h2
    by_cases ho:0<lD x e
    · rw[qR,if_pos ho,List.filter_cons_of_pos he]
      refine(aOh fun y hy=>?_).symm
      rcases List.mem_cons.1 (List.mem_filter.1 hy).1 with rfl | hy
      · exact ho
      · have a:=(h1 y hy).1
        have b:=ordE_tri.swap x e
        have c:=ordE_tri.lt_tr (show lD e x<0 by omega) a
        have d:=ordE_tri.swap y e
        omega
    · rw[qR,if_neg ho]
      by_cases hx:noU u x=true
      · rw[List.filter_cons_of_pos hx,List.filter_cons_of_pos hx,qR,if_neg ho,ih]
      · rw[List.filter_cons_of_neg hx,List.filter_cons_of_neg hx,ih]
theorem aKp {u:ByteArray} {e:En} (he:noU u e=false):∀ l:List En,(qR l e).filter (noU u)=l.filter (noU u)
  | []=>by show List.filter _ [e]=[]; rw[List.filter_cons_of_neg (by rw[he]; decide)]; rfl
  | x::l=>by
    rw[qR]; split
    · rw[List.filter_cons_of_neg (by rw[he]; decide)]
    · rw[List.filter_cons,List.filter_cons,aKp he l]
theorem aGq {u:ByteArray} {x:En} {t:Int}:(qV x t).filter (noU u)=if noU u x=true then qV x t else []:=by
  unfold qV
  split
  · split <;> rfl
  · by_cases h:noU u x=true
    · have h2:noU u (x.1,(x.2.1,t))=true:=h
      rw[if_pos h,List.filter_cons_of_pos h2]; rfl
    · have h2:¬ noU u (x.1,(x.2.1,t))=true:=h
      rw[if_neg h,List.filter_cons_of_neg h2]; rfl
theorem aP4 {u:ByteArray} {p:Pr} {t:Int} (hp:mO p.1 p.2 u=false):∀ l:List En,(jA l p t).filter (noU u)=jA (l.filter (noU u)) p t
  | []=>rfl
  | x::l=>by
    rw[jA]
    by_cases hf:fX p x=true
    · have hx:noU u x=true:=by
        have:=(aAg.1 hf).1
        simp only[noU,lV,this,hp]; rfl
      rw[if_pos hf,List.filter_append,aGq,if_pos hx,List.filter_cons_of_pos hx,jA,if_pos hf]
    · rw[if_neg hf]
      have ih:=aP4 hp l (t:=t)
      by_cases hx:noU u x=true
      · rw[List.filter_cons_of_pos hx,List.filter_cons_of_pos hx,jA,if_neg hf,ih]
      · rw[List.filter_cons_of_neg hx,List.filter_cons_of_neg hx,ih]
theorem aJw {u:ByteArray} {p:Pr} {t:Int} (hp:mO p.1 p.2 u=true):∀ l:List En,(jA l p t).filter (noU u)=l.filter (noU u)
  | []=>rfl
  | x::l=>by
    rw[jA]
    by_cases hf:fX p x=true
    · have hx:¬ noU u x=true:=by
        have:=(aAg.1 hf).1
        simp only[noU,lV,this,hp]; decide
      rw[if_pos hf,List.filter_append,aGq,if_neg hx,List.filter_cons_of_neg hx]; rfl
    · rw[if_neg hf,List.filter_cons,List.filter_cons,aJw hp l]
theorem aTc {u:ByteArray} {p:Pr} (hp:mO p.1 p.2 u=false) (l:List En):onB (l.filter (noU u)) p=onB l p:=by
  rw[Bool.eq_iff_iff,aH1,aH1]
  constructor
  · rintro ⟨e,he,h⟩; exact⟨e,(List.mem_filter.1 he).1,h⟩
  · rintro ⟨e,he,h1,h2⟩; exact⟨e,List.mem_filter.2 ⟨he,by simp only[noU,lV,h1,hp]; rfl⟩,h1,h2⟩
theorem aT7 {u v:ByteArray} {x:bO} {l:List Us} (hg:GoU l) (hv:v≠u):kP (kH l v x) u []=kH (kP l u []) v x :=
  aCe hg.add.set0.r hg.set0.add.r hg.add.set0.n hg.set0.add.n fun w=>by
    rw[kO hg.add.r,aCq hg.r,aCq hg.set0.r,kO hg.r,kO hg.r,if_neg hv]
    by_cases h1:w=u
    · rw[if_pos h1,if_neg (fun e=>hv (by rw[← e,h1])),if_pos h1]
    · rw[if_neg h1,if_neg h1]
theorem aQh {u:ByteArray} {x:bO} {l:List Us} (hg:GoU l):kP (kH l u x) u []=kP l u [] :=
  aCe hg.add.set0.r hg.set0.r hg.add.set0.n hg.set0.n fun w=>by
    rw[kO hg.add.r,aCq hg.r,kO hg.r]
    by_cases h1:w=u
    · rw[if_pos h1,if_pos h1]
    · rw[if_neg h1,if_neg h1,if_neg h1]
theorem set_two {u v:ByteArray} {l:List Us} (hg:GoU l):kP (kP l v []) u []=kP (kP l u []) v [] :=
  aCe hg.set0.set0.r hg.set0.set0.r hg.set0.set0.n hg.set0.set0.n fun w=>by
    rw[kO hg.set0.r,kO hg.r,kO hg.set0.r,kO hg.r]
    by_cases h1:w=u <;> by_cases h2:w=v <;> simp [h1,h2]
theorem aJm {u:ByteArray} {l:List Us} (hg:GoU l):kP (kP l u []) u []=kP l u [] :=
  aCe hg.set0.set0.r hg.set0.r hg.set0.set0.n hg.set0.n fun w=>by
    rw[kO hg.set0.r,kO hg.r]
    by_cases h1:w=u <;> simp [h1]
def noT (u:ByteArray) (x:Tm):Bool:=!isK dH u x
theorem tomb_no {u v:ByteArray} {t:Int} {l:List Tm} (h:dG dH l) (hv:v≠u):(mL l v t).filter (noT u)=mL (l.filter (noT u)) v t :=
  lJ (key:=dH) (gW (rS h) _) (rS (gW h _)) fun x=>by
    simp only[mL,List.mem_filter,jT,List.mem_singleton]
    constructor
    · rintro ⟨⟨h1,h2⟩ | h1,h3⟩
      · exact .inl ⟨⟨h1,h3⟩,h2⟩
      · exact .inr h1
    · rintro (⟨⟨h1,h3⟩,h2⟩ | h1)
      · exact⟨.inl ⟨h1,h2⟩,h3⟩
      · refine⟨.inr h1,?_⟩
        subst h1; simp [noT,isK,hv]
theorem aSp {u:ByteArray} {t:Int} {l:List Tm} (h:dG dH l):(mL l u t).filter (noT u)=l.filter (noT u) :=
  lJ (key:=dH) (gW (rS h) _) (gW h _) fun x=>by
    simp only[mL,List.mem_filter,jT,List.mem_singleton,noT,isK,Bool.not_eq_true',decide_eq_false_iff_not]
    constructor
    · rintro ⟨⟨h1,h2⟩ | h1,h3⟩
      · exact⟨h1,h3⟩
      · subst h1; exact absurd rfl h3
    · rintro ⟨h1,h3⟩; exact⟨.inl ⟨h1,h3⟩,h3⟩
theorem aQp {u:ByteArray} {t:Int} {l:List Tm} (h:dG dH l):mL (l.filter (noT u)) u t=mL l u t :=
  lJ (key:=dH) (rS (gW h _)) (rS h) fun x=>by
    simp only[mL,List.mem_filter,jT,List.mem_singleton,noT,isK,Bool.not_eq_true',decide_eq_false_iff_not]
    constructor
    · rintro (⟨⟨h1,_⟩,h2⟩ | h1)
      · exact .inl ⟨h1,h2⟩
      · exact .inr h1
    · rintro (⟨h1,h2⟩ | h1)
      · exact .inl ⟨⟨h1,h2⟩,h2⟩
      · exact .inr h1
def jX (u:ByteArray) (s:Sta) (t:Int):Sta:=⟨t,s.hor,s.opn.filter (noH u),kP s.usr u [],s.sub.filter (noU u),s.tmb.filter (noT u)⟩
theorem pair_no {u:ByteArray} {e:Ev} (hb:rF u e=false):mO e.user e.other u=false:=hb
theorem does_no {s:Sta} {e:Ev} {u:ByteArray} {t:Int} (h:RightP s) (he:cH e=true) (hb:rF u e=false) (h0:(bL s e).2=0) :
    (bL (jX u s t) e).2=0∧∀ t',({ (bL (jX u s t) e).1 with now:=t' }:Sta)=jX u (bL s e).1 t':=by
  have hg:=zV h
  have hp:=pair_no hb
  have hb':=hb
  simp only[rF,Bool.or_eq_false_iff,decide_eq_false_iff_not] at hb'
  have hps:=((iO _).1 h.opn).1.2
  have hss:=((pO _).1 h.sub).2
  rcases sE he with ⟨hk,_⟩ | ⟨hk,_⟩ | ⟨hk,_⟩ | ⟨hk,_⟩ | ⟨hk,_⟩ | ⟨hk,_⟩ | ⟨hk,_⟩
  · rw[bL,if_pos hk] at h0 ⊢
    rw[bL,if_pos hk]
    have h0':sZ s.opn ((e.n,e.user),(e.st,e.at'))=0:=h0
    have h1:=aKc (u:=u) h0'
    refine⟨h1,fun t'=>?_⟩
    simp only[jX,oS,h0',h1,if_true]
    rw[aD5 (aOd hb'.1) hps]
  · rw[bL,if_neg (show ¬ e.kind=1 by omega),if_pos hk] at h0 ⊢
    rw[bL,if_neg (show ¬ e.kind=1 by omega),if_pos hk]
    have h0':fJ s.opn e.n e.user=0:=h0
    have h1:=uZ hb'.1 _ h0'
    obtain ⟨i1,i2,i3⟩:=xO hb'.1 e.st e.at' _ h0'
    refine⟨h1,fun t'=>?_⟩
    simp only[jX,oW,stR,h0',h1,if_true]
    rw[aT7 hg hb'.1,i1,i2]
  · rw[bL,if_neg (show ¬ e.kind=1 by omega),if_neg (show ¬ e.kind=2 by omega),if_pos hk] at h0 ⊢
    rw[bL,if_neg (show ¬ e.kind=1 by omega),if_neg (show ¬ e.kind=2 by omega),if_pos hk]
    have h0':fJ s.opn e.n e.user=0:=h0
    have h1:=uZ hb'.1 _ h0'
    obtain ⟨i1,i2,i3⟩:=xO hb'.1 e.st e.at' _ h0'
    refine⟨h1,fun t'=>?_⟩
    simp only[jX,oJ,stR,h0',h1,if_true]
    rw[aT7 hg hb'.1,i1,i3]
  · rw[bL,if_neg (show ¬ e.kind=1 by omega),if_neg (show ¬ e.kind=2 by omega),if_neg (show ¬ e.kind=3 by omega),if_pos hk] at h0 ⊢
    rw[bL,if_neg (show ¬ e.kind=1 by omega),if_neg (show ¬ e.kind=2 by omega),if_neg (show ¬ e.kind=3 by omega),if_pos hk]
    have ho:onB (jX u s t).sub (e.user,e.other)=onB s.sub (e.user,e.other):=aTc hp _
    simp only[ho]
    refine⟨h0,fun t'=>?_⟩
    have hon:¬ onB s.sub (e.user,e.other)=true:=fun hh=>by simp only at h0; rw[if_pos hh] at h0; omega
    simp only[jX,if_neg hon,iQ]
    rw[aP9 (by simp only[noU,lV,hp]; rfl) hss]
  · rw[bL,if_neg (show ¬ e.kind=1 by omega),if_neg (show ¬ e.kind=2 by omega),if_neg (show ¬ e.kind=3 by omega),if_neg (show ¬ e.kind=4 by omega),if_pos hk] at h0 ⊢
    rw[bL,if_neg (show ¬ e.kind=1 by omega),if_neg (show ¬ e.kind=2 by omega),if_neg (show ¬ e.kind=3 by omega),if_neg (show ¬ e.kind=4 by omega),if_pos hk]
    have ho:onB (jX u s t).sub (e.user,e.other)=onB s.sub (e.user,e.other):=aTc hp _
    simp only[ho]
    refine⟨h0,fun t'=>?_⟩
    have hon:onB s.sub (e.user,e.other)=true:=by
      by_cases hh:onB s.sub (e.user,e.other)=true
      · exact hh
      · simp only at h0; rw[if_neg hh] at h0; omega
    simp only[jX,if_pos hon]
    rw[aP4 hp]
  · rw[bL,if_neg (show ¬ e.kind=1 by omega),if_neg (show ¬ e.kind=2 by omega),if_neg (show ¬ e.kind=3 by omega),if_neg (show ¬ e.kind=4 by omega),if_neg (show ¬ e.kind=5 by omega),if_pos hk] at h0 ⊢
    rw[bL,if_neg (show ¬ e.kind=1 by omega),if_neg (show ¬ e.kind=2 by omega),if_neg (show ¬ e.kind=3 by omega),if_neg (show ¬ e.kind=4 by omega),if_neg (show ¬ e.kind=5 by omega),if_pos hk]
    exact⟨rfl,fun t'=>rfl⟩
  · rw[bL,if_neg (show ¬ e.kind=1 by omega),if_neg (show ¬ e.kind=2 by omega),if_neg (show ¬ e.kind=3 by omega),if_neg (show ¬ e.kind=4 by omega),if_neg (show ¬ e.kind=5 by omega),if_neg (show ¬ e.kind=6 by omega)] at h0 ⊢
    rw[bL,if_neg (show ¬ e.kind=1 by omega),if_neg (show ¬ e.kind=2 by omega),if_neg (show ¬ e.kind=3 by omega),if_neg (show ¬ e.kind=4 by omega),if_neg (show ¬ e.kind=5 by omega),if_neg (show ¬ e.kind=6 by omega)]
    refine⟨rfl,fun t'=>?_⟩
    simp only[jX,fO]
    rw[set_two hg,tomb_no h.tmb hb'.1,List.filter_filter,List.filter_filter,List.filter_filter,List.filter_filter]
    congr 1
    · exact List.filter_congr fun x _=>Bool.and_comm ..
    · exact List.filter_congr fun x _=>Bool.and_comm ..
theorem aTu {s:Sta} {e:Ev} {u:ByteArray} {t:Int} (h:RightP s) (he:cH e=true) (hu:u≠bs0) (hb:rF u e=true) (h0:(bL s e).2=0):jX u (bL s e).1 t=jX u s t:=by
  have hg:=zV h
  have hp:mO e.user e.other u=true:=hb
  have hb':=hb
  simp only[rF,Bool.or_eq_true,decide_eq_true_eq] at hb'
  rcases sE he with ⟨hk,hs,_⟩ | ⟨hk,hs,_⟩ | ⟨hk,hs,_⟩ | ⟨hk,_⟩ | ⟨hk,_⟩ | ⟨hk,r1,r2,_⟩ | ⟨hk,r1,r2,_⟩
  · have hu1:e.user=u:=hb'.resolve_right fun x=>hu (by rw[← x]; exact(uG.1 hs).2.2.2)
    rw[bL,if_pos hk] at h0 ⊢
    simp only[jX,oS]
    rw[if_pos h0,opn_his (aTg hu1)]
  · have hu1:e.user=u:=hb'.resolve_right fun x=>hu (by rw[← x]; exact(uG.1 hs).2.2.2)
    rw[bL,if_neg (show ¬ e.kind=1 by omega),if_pos hk] at h0 ⊢
    subst hu1
    obtain ⟨i1,i2⟩:=aIo e.st e.at' _ h0
    simp only[jX,oW]
    rw[if_pos h0,i1,aQh hg]
  · have hu1:e.user=u:=hb'.resolve_right fun x=>hu (by rw[← x]; exact(uG.1 hs).2.2.2)
    rw[bL,if_neg (show ¬ e.kind=1 by omega),if_neg (show ¬ e.kind=2 by omega),if_pos hk] at h0 ⊢
    subst hu1
    obtain ⟨i1,i2⟩:=aIo e.st e.at' _ h0
    simp only[jX,oJ]
    rw[if_pos h0,i2,aQh hg]
  · rw[bL,if_neg (show ¬ e.kind=1 by omega),if_neg (show ¬ e.kind=2 by omega),if_neg (show ¬ e.kind=3 by omega),if_pos hk] at h0 ⊢
    have hon:¬ onB s.sub (e.user,e.other)=true:=fun hh=>by simp only at h0; rw[if_pos hh] at h0; omega
    simp only[jX,if_neg hon,iQ]
    rw[aKp (by simp only[noU,lV,hp]; rfl)]
  · rw[bL,if_neg (show ¬ e.kind=1 by omega),if_neg (show ¬ e.kind=2 by omega),if_neg (show ¬ e.kind=3 by omega),if_neg (show ¬ e.kind=4 by omega),if_pos hk] at h0 ⊢
    have hon:onB s.sub (e.user,e.other)=true:=by
      by_cases hh:onB s.sub (e.user,e.other)=true
      · exact hh
      · simp only at h0; rw[if_neg hh] at h0; omega
    simp only[jX,if_pos hon]
    rw[aJw hp]
  · rcases hb' with x | x
    · exact absurd (x.symm.trans r1) hu
    · exact absurd (x.symm.trans r2) hu
  · have hu1:e.user=u:=hb'.resolve_right fun x=>hu (x.symm.trans r2)
    rw[bL,if_neg (show ¬ e.kind=1 by omega),if_neg (show ¬ e.kind=2 by omega),if_neg (show ¬ e.kind=3 by omega),if_neg (show ¬ e.kind=4 by omega),if_neg (show ¬ e.kind=5 by omega),if_neg (show ¬ e.kind=6 by omega)]
    subst hu1
    simp only[jX,fO]
    rw[aJm hg,aSp h.tmb,List.filter_filter,List.filter_filter]
    congr 1
    · exact List.filter_congr fun x _=>Bool.and_self _
    · exact List.filter_congr fun x _=>Bool.and_self _
structure ErI (u:ByteArray) (s w:Sta):Prop where
  r:RightP s
  q:RightP w
  e:w=jX u s w.now
  n:w.now≤s.now
theorem er_step {u:ByteArray} {s w:Sta} {e:Ev} (hu:u≠bs0) (hI:ErI u s w) (h0:(cG s e).2=0) :
    (rF u e=true→ErI u (cG s e).1 w)∧(rF u e=false→(cG w e).2=0∧ErI u (cG s e).1 (cG w e).1):=by
  obtain ⟨he,hn,h2,e1⟩:=aLh h0
  refine⟨fun hb=>⟨rH hI.r h0,hI.q,?_,?_⟩,fun hb=>?_⟩
  · rw[e1]
    show w=jX u (bL s e).1 w.now
    rw[aTu hI.r he hu hb h2]; exact hI.e
  · rw[e1]; exact Int.le_trans hI.n hn
  · obtain ⟨d1,d2⟩:=does_no (t:=w.now) hI.r he hb h2
    rw[← hI.e] at d1 d2
    have hw:¬ e.at'<w.now:=by have:=hI.n; omega
    have ha:(cG w e)=({ (bL w e).1 with now:=e.at' },0):=by
      unfold cG; rw[if_pos he,if_neg hw,if_pos d1]
    have hw0:(cG w e).2=0:=by rw[ha]
    refine⟨hw0,rH hI.r h0,rH hI.q hw0,?_,?_⟩
    · rw[ha,e1]
      show ({ (bL w e).1 with now:=e.at' }:Sta)=jX u (bL s e).1 e.at'
      exact d2 e.at'
    · rw[ha,e1]; exact Int.le_refl _
theorem aIj {u:ByteArray} (hu:u≠bs0):∀ (l:List Ev) {s w:Sta},ErI u s w→(∀ x∈aV s l,x=0)→ErI u (aG s l) (aG w (aW u l))∧∀ x∈aV w (aW u l),x=0
  | [],_,_,hI,_=>⟨hI,by simp [aW,aV]⟩
  | e::l,s,w,hI,h=>by
    have h0:(cG s e).2=0:=h _ (List.mem_cons_self ..)
    have ht:∀ x∈aV (cG s e).1 l,x=0:=fun x hx=>h x (List.mem_cons_of_mem _ (by rw[sS h0]; exact hx))
    have ef:aG s (e::l)=aG (cG s e).1 l:=by show aG (gM s e) l=_; rw[sS h0]
    rw[ef]
    obtain ⟨q1,q2⟩:=er_step hu hI h0
    cases hb:rF u e with
    | true =>
      have ew:aW u (e::l)=aW u l:=List.filter_cons_of_neg (by simp [hb])
      rw[ew]
      exact aIj hu l (q1 hb) ht
    | false =>
      have ew:aW u (e::l)=e::aW u l:=List.filter_cons_of_pos (by simp [hb])
      obtain ⟨w0,hI2⟩:=q2 hb
      obtain ⟨r1,r2⟩:=aIj hu l hI2 ht
      have e2:aG w (e::aW u l)=aG (cG w e).1 (aW u l):=by show aG (gM w e) _=_; rw[sS w0]
      rw[ew,e2]
      refine⟨r1,fun x hx=>?_⟩
      rcases List.mem_cons.1 hx with rfl | hx
      · exact w0
      · rw[sS w0] at hx; exact r2 x hx
theorem aTs (u:ByteArray):ErI u aJ aJ:=⟨eQ,eQ,rfl,Int.le_refl _⟩
theorem erI_end {u:ByteArray} {s w:Sta} {t:Int} (hI:ErI u s w):({ fO s u t with now:=t }:Sta)={ fO w u t with now:=t }:=by
  have hg:=zV hI.r
  rw[hI.e]
  simp only[fO,jX]
  rw[aJm hg,aQp hI.r.tmb,List.filter_filter,List.filter_filter]
  congr 1
  · exact List.filter_congr fun x _=>(Bool.and_self _).symm
  · exact List.filter_congr fun x _=>(Bool.and_self _).symm
end Go.Abs
set_option linter.unusedVariables false
set_option linter.unusedSimpArgs false
namespace Go.Abs
open Go
end Go.Abs
set_option linter.unusedVariables false
set_option linter.unusedSimpArgs false
namespace Go.Abs
open Go
end Go.Abs
set_option linter.unusedVariables false
set_option linter.unusedSimpArgs false
namespace Go.Abs
open Go
end Go.Abs
set_option linter.unusedVariables false
set_option linter.unusedSimpArgs false
namespace Go.Proofs.YtijnkglkchhomaaGreat
open Go Go.Abs
theorem aC1 (a:List Int) (ha:a.length≤1000) :Den Tryz.prog 21 [.sl 1 (bH a),.sl 1 (bH a)]  (·=.s (.bool true)):=by
 refine aY Tryz.func21 rfl (Nat.le_of_ble_eq_true rfl) (fun w0 A hf=>(aC (fun K1 hK1=>(aB (aE aA 1 rfl (aD (hK1 _ (aC (fun K2 hK2=>(aC (fun K3 hK3=>(aB (aE aA 4 rfl (aI rfl (eO rfl rfl (aCo rfl)) (aD (hK3 _ ?_))))))))))))))))
 refine bZ rfl (aR (hK2 _ (aC (fun K4 hK4=>(aC (fun K5 hK5=>(aB (aE aA 3 rfl (aD (hK5 _ (aU (bW (ι:=Nat) (fun k=>⟨26,[(0,.sl 1 (bH a)),(1,.sl 1 (bH a)),(12,.s (.int .i64 ((bH a).length:Nat))),(13,.s (.int .i64 (k:Nat)))],[]⟩) (fun k=>k≤(bH a).length) (fun k=>(bH a).length - k) 0 ?_ ?_ ?_))))))))))))
 · exact Nat.zero_le _
 · exact cN ⟨rfl,rfl,rfl,rfl,trivial⟩ rfl
 ·
  rintro k hC
  refine aC (fun K6 hK6=>(aB (aE aA 1 rfl (aD (hK6 _ (aC (fun K7 hK7=>(aO rfl (fun hc2=>?_) (fun hc2=>?_)))))))))
  ·
   simp only[bs] at hc2
   have hk2:k<a.length:=by have:=dW a; omega
   refine aR (hK7 _ (aC (fun K8 hK8=>(aU (aC (fun K9 hK9=>(aB (aE aA 2 rfl (aD (hK9 _ (aC (fun K10 hK10=>(dE hf bK (by kernel_rfl) rfl (bC aA 2 rfl (bN [(16,_),(17,_)] rfl rfl ⟨⟨rfl,rfl⟩,⟨rfl,rfl⟩,trivial⟩ rfl (bJ rfl rfl mX mY (uT hk2)) ?_)))))))))))))))
   refine bC aA 3 rfl (bN [(20,_),(21,_)] rfl rfl ⟨⟨rfl,rfl⟩,⟨rfl,rfl⟩,trivial⟩ rfl (bJ rfl rfl mX mY (uT hk2)) (bC aA 1 rfl (bN [(19,_),(23,_)] rfl rfl ⟨⟨rfl,rfl⟩,⟨rfl,rfl⟩,trivial⟩ rfl (eO rfl rfl (aCo rfl)) (dC [0,1,12,13,24] rfl rfl rfl (hK10 _ (bZ rfl (aR (hK8 _ (aB ?_)))))))))
   refine aI rfl (bQ rfl rfl (by omega) (by omega)) ?_
   refine aE aA 1 rfl (aD ?_)
   exact⟨k+1,by omega,by omega,cN ⟨rfl,rfl,rfl,aT (by omega),trivial⟩ rfl⟩
  ·
   simp only[bs] at hc2
   refine bI (hK4 _ (aC (fun K11 hK11=>(aB (aE aA 1 rfl (aD (hK11 _ (aM ?_))))))))
   refine⟨_,rfl,?_⟩
   rfl
end Go.Proofs.YtijnkglkchhomaaGreat
set_option linter.unusedVariables false
set_option linter.unusedSimpArgs false
namespace Go.Proofs.YtijnkglkchhomaaGreat
open Go Go.Abs
end Go.Proofs.YtijnkglkchhomaaGreat
set_option linter.unusedVariables false
set_option linter.unusedSimpArgs false
namespace Go.Abs
open Go
def bG (u:ByteArray) (t:Int):Ev:=⟨7,t,u,bs0,0,0⟩
theorem aLi {s:Sta} {u:ByteArray} {t:Int} (hu:cK u=true) (h0:0≤t) (h1:t<1099511627776) (hn:s.now≤t):cG s (bG u t)=({ fO s u t with now:=t },0):=by
  have hr:cH (bG u t)=true:=by simp [cH,bG,hu,h0,h1]
  rw[cG,if_pos hr,if_neg (by show ¬ t<s.now; omega)]
  rfl
theorem aRw:cK bs0=false:=by decide +kernel
theorem er_all {u:ByteArray} {l m:List Ev} (hu:cK u=true):(∀ x∈aV aJ (aW u (aS aJ l)),x=0)∧(cG (aG aJ l) (bG u (aG aJ l).now)).2=0 ∧
    aG (aG aJ (aW u (aS aJ l))) (bG u (aG aJ l).now::m)=aG (aG aJ l) (bG u (aG aJ l).now::m) ∧
    aV (aG aJ (aW u (aS aJ l))) (bG u (aG aJ l).now::m)=aV (aG aJ l) (bG u (aG aJ l).now::m):=by
  obtain ⟨f1,f2,_⟩:=qD l aJ
  have hne:u≠bs0:=fun e=>by rw[e,aRw] at hu; exact absurd hu (by decide)
  obtain ⟨hI,hz⟩:=aIj hne (aS aJ l) (aTs u) f2
  rw[f1] at hI
  have hR:=hI.r
  have a1:=aLi (s:=aG aJ l) hu hR.n0 hR.n1 (Int.le_refl _)
  have a2:=aLi (s:=aG aJ (aW u (aS aJ l))) hu hR.n0 hR.n1 hI.n
  have a3:cG (aG aJ (aW u (aS aJ l))) (bG u (aG aJ l).now)=cG (aG aJ l) (bG u (aG aJ l).now):=by rw[a1,a2,erI_end hI]
  have s3:gM (aG aJ (aW u (aS aJ l))) (bG u (aG aJ l).now)=gM (aG aJ l) (bG u (aG aJ l).now):=by
    rw[sS (by rw[a3,a1]),sS (by rw[a1]),a3]
  refine⟨hz,by rw[a1],?_,?_⟩
  · show aG (gM _ _) m=aG (gM _ _) m
    rw[s3]
  · show (cG _ _).2::aV (gM _ _) m=(cG _ _).2::aV (gM _ _) m
    rw[s3,a3]
theorem vS:∀ {l:List Ev} {s:Sta} {e:Ev},e∈aS s l→e∈l
  | [],_,_,h=>by simp [aS] at h
  | x::l,s,e,h=>by
    unfold aS at h
    split at h
    · rcases List.mem_cons.1 h with rfl | h
      · exact List.mem_cons_self ..
      · exact List.mem_cons_of_mem _ (vS h)
    · exact List.mem_cons_of_mem _ (vS h)
theorem intgt_t {P:Program} {t:TypeId} {k:IntKind} {a b:Int} (h:b<a):oQ P .gtr t (.int k a) (.int k b)=some (.bool true):=by
  simp [oQ,wJ,h]
end Go.Abs
set_option linter.unusedVariables false
set_option linter.unusedSimpArgs false
namespace Go.Abs
open Go Go.RowKit
variable {P:Program} {w0:World} {p0:Hp}
variable {ops:Array Oper} {rest:List Oper} {n:Nat} {sl:List (Nat×AV)} {m:Mem} {Q:Exit→St→Prop}
theorem zL {R:Exit→Act→World→Prop} {op:Op} {d j ty:Nat} {ps:String} {af:Array Edge} {b:Bool} {a:Act} {w:World} (hy:yielded ops a.tmps j=some b)
    (h:wpList P ops R (⟨some d,op,ty,ps,af,none⟩::rest) a w):wpList P ops R (⟨some d,op,ty,ps,af,some (j,b)⟩::rest) a w:=by
  unfold wpList at h ⊢
  have hw:Region.wanted (⟨some d,op,ty,ps,af,some (j,b)⟩:Oper) (yielded ops a.tmps)=true:=by simp [Region.wanted,hy]
  have hw':Region.wanted (⟨some d,op,ty,ps,af,none⟩:Oper) (yielded ops a.tmps)=true:=by simp [Region.wanted]
  rw[if_pos hw]
  rw[if_pos hw'] at h
  exact h
theorem tZ {a:Act} {v:Value} {d j g:Nat} (hg:(ops[j]?).bind (·.dst)=some g) (hne:d≠g):yielded ops (a.put (some d) v).tmps j=yielded ops a.tmps j:=by
  simp only[yielded,hg,Act.put,Option.bind_some]
  rw[Array.getElem?_setIfInBounds_ne hne]
theorem aOq {a b:Nat} (h:Nat.beq a b=false):a≠b:=fun e=>by subst e; simp at h
theorem aS0 {w:World} {p:Hp} {k c:Nat} {xs:List (List AV)} {ax:Option Addr} (h:RelV w p (.sl k xs) (.slice ax xs.length c)):xs.length≤c∧(xs.length≤maxLen→RelV w p (.sl k xs) (.slice ax xs.length xs.length)):=by
  generalize hv:Value.slice ax xs.length c=v at h
  cases h with
  | sln _ a cap hcap=>cases hv; exact⟨Nat.zero_le _,fun h=>.sln k _ _ (Nat.zero_le _)⟩
  | slc _ _ b off cap f hb hn hcap hk hc hr=>cases hv; exact⟨hn,fun h=>.slc k xs b off _ f hb (Nat.le_refl _) h hk hc hr⟩
theorem aSm (hf:Fit w0 p0) {j gs d1 d2 d3 t e k by_ t1 t2 t3:Nat} {bb:Bool} {x y z x2:Operand} {xs ys:List (List AV)} {ps1 ps2 ps3:String} {af1 af2 af3:Array Edge}
    (hg:(ops[j]?).bind (·.dst)=some gs) (hb:lk sl gs=some (.s (.bool bb))) (hn1:Nat.beq d1 gs=false) (hn2:Nat.beq d2 gs=false) (h12:Nat.beq d2 d1=false)
    (hd1:lt d1 n=true) (hd2:lt d2 n=true) (hd3:lt d3 n=true) (ht:appT? P t=some (e,k,by_))
    (hx:ev sl x=some (.sl k xs)) (hh:bnd ⟨n,sl,m⟩ xs.length (some y)=some xs.length) (hm:bnd ⟨n,sl,m⟩ xs.length (some z)=some xs.length)
    (hx2:ev sl x2=some (.sl k ys)) (hne:aTa d1 x2=true) (hmax:xs.length+ys.length≤maxLen) (hby:(xs.length+ys.length)*by_≤140737488355328)
    (hk:eS P w0 p0 ops rest ⟨n,(d3,.sl k (xs++ys))::(d2,.bad)::(d1,.bad)::sl,m⟩ Q) :
    eS P w0 p0 ops (⟨some d1,.slice t x none (some y) (some z),t1,ps1,af1,some (j,bb)⟩::⟨some d2,.move x2,t2,ps2,af2,some (j,bb)⟩::⟨some d3,.call { callee:=.builtin .append,args:=#[.tmp d1,.tmp d2],argTypes:=#[t,t] },t3,ps3,af3,some (j,bb)⟩::rest) ⟨n,sl,m⟩ Q:=by
  intro a w ⟨h2,h3,p,hE,hs,hm'⟩
  obtain ⟨he,hck,hk0,i,zz,hi,hz,rfl,rfl,hzc⟩:=appT?_inv ht
  have hne1:=aOq hn1
  have hne2:=aOq hn2
  have hne12:=aOq h12
  have hd1n:d1<a.tmps.size:=by rw[h3]; exact nC hd1
  have hd2n:d2<a.tmps.size:=by rw[h3]; exact nC hd2
  have hd3n:d3<a.tmps.size:=by rw[h3]; exact nC hd3
  obtain ⟨gv,hg1,hg2⟩:=hs gs _ (by rw[← kC]; exact hb)
  cases hg2
  have hy:yielded ops a.tmps j=some bb:=by simp [yielded,hg,hg1]
  obtain ⟨ax,c,olds,ex,hol,hok,hoa,hor⟩:=aE0 (σ:=⟨n,sl,m⟩) (x:=x) (k:=i.size) (ys:=xs) hs hm' (by rw[cQ hx]; simp [iS])
  obtain ⟨ay,c2,news,ey,hnl,hnk,hna,hnr⟩:=aE0 (σ:=⟨n,sl,m⟩) (x:=x2) (k:=i.size) (ys:=ys) hs hm' (by rw[cQ hx2]; simp [iS])
  have hrx:RelV w p (.sl i.size xs) (.slice ax xs.length c):=by have:=dS (σ:=⟨n,sl,m⟩) hs x; rw[cQ hx,ex] at this; exact this
  obtain ⟨hc,hcut⟩:=aS0 hrx
  have hadd:ax.map (fun b=>b.add 0)=ax:=by cases ax <;> simp [Addr.add]
  have hrun1:(execOp a.eval ⟨some d1,.slice t x none (some y) (some z),t1,ps1,af1,none⟩).run P w=.ok (.value (.slice ax xs.length xs.length)) w:=by
    have hbd:=aJo (P:=P) (w:=w) (σ:=⟨n,sl,m⟩) (lo:=none) (len:=xs.length) (cap:=c) (l:=0) (h:=xs.length) (m:=xs.length) hs rfl hh (by simpa [bnd] using hm) (Nat.zero_le _) (Nat.le_refl _) hc
    simp only[Option.map_none] at hbd
    simp [execOp,ex,Instr.sliceAt,Instr.slice,run_underlying (elem?_inv he),hbd,dR hck,hadd]
  refine zL hy (wpList_plain rfl fun K1 hK1=>?_)
  unfold Oper.wp
  rw[hrun1]
  simp only[Oper.upon]
  refine hK1 _ _ ?_
  refine zL ((tZ hg hne1).trans hy) (wpList_plain rfl fun K2 hK2=>?_)
  generalize ha1:a.put (some d1) (.slice ax xs.length xs.length)=a1
  have ey1:a1.eval x2=.slice ay ys.length c2:=by rw[← ha1,aEl hne]; exact ey
  have hrun2:(execOp a1.eval ⟨some d2,.move x2,t2,ps2,af2,none⟩).run P w=.ok (.value (.slice ay ys.length c2)) w:=by simp [execOp,ey1]
  unfold Oper.wp
  rw[hrun2]
  simp only[Oper.upon]
  refine hK2 _ _ ?_
  refine zL ((tZ hg hne2).trans (by rw[← ha1]; exact(tZ hg hne1).trans hy)) (wpList_plain rfl fun K3 hK3=>?_)
  have sz1:a1.tmps.size=a.tmps.size:=by rw[← ha1]; simp [Act.put]
  have e1:a1.eval (.tmp d1)=.slice ax xs.length xs.length:=by rw[← ha1]; simp [Act.eval,Act.put,hd1n]
  generalize ha2:a1.put (some d2) (.slice ay ys.length c2)=a2
  have sz2:a2.tmps.size=a.tmps.size:=by rw[← ha2,← sz1]; simp [Act.put]
  have e2:a2.eval (.tmp d2)=.slice ay ys.length c2:=by rw[← ha2]; simp [Act.eval,Act.put,sz1,hd2n]
  have e21:a2.eval (.tmp d1)=.slice ax xs.length xs.length:=by
    rw[← ha2,aEl (by simp only[aTa]; rw[h12])]; exact e1
  have hs1:SlotsRel w p ((d1,.bad)::sl) a1.tmps:=by rw[← ha1]; exact hs.put hd1n (.bad _)
  have hs2:SlotsRel w p ((d2,.bad)::(d1,.bad)::sl) a2.tmps:=by rw[← ha2]; exact hs1.put (by rw[sz1]; exact hd2n) (.bad _)
  have hdf:a2.defers=[]:=by rw[← ha2,← ha1]; exact h2
  have hexec:(execOp a2.eval ⟨some d3,.call { callee:=.builtin .append,args:=#[.tmp d1,.tmp d2],argTypes:=#[t,t] },t3,ps3,af3,none⟩).run P w=((Builtin.append_ #[t,t] t3 #[.slice ax xs.length xs.length,.slice ay ys.length c2]).run P w).andThen fun v w'=>.ok (.value v) w':=by
    simp only[execOp,resolve,invoke,builtin,Sem.run_bind,Sem.run_pure,Result.andThen_ok,List.map_toArray,List.map_cons,List.map_nil,e2,e21]
  have h63:xs.length+ys.length≤9223372036854775807:=by unfold maxLen at hmax; omega
  have hxm:xs.length≤maxLen:=Nat.le_trans (Nat.le_add_right _ _) hmax
  unfold Oper.wp
  rw[hexec]
  by_cases hy0:ys.length=0
  · have hys:ys=[]:=List.eq_nil_of_length_eq_zero hy0
    subst hys
    rw[show (Value.slice ay ([]:List (List AV)).length c2)=.slice ay 0 c2 from rfl,lG he hck ax ay xs.length xs.length c2 (Nat.le_refl _) w]
    simp only[Result.andThen_ok,Oper.upon]
    refine hK3 _ _ (hk _ w ⟨hdf,by simpa [Act.put,sz2] using h3,p,hE,?_,hm'⟩)
    rw[List.append_nil]
    exact hs2.put (by rw[sz2]; exact hd3n) (hcut hxm)
  · obtain ⟨ad2,rfl,hads2⟩:=hna (by intro h; simp [h] at hy0)
    have key:∃ cap,xs.length+ys.length≤cap∧cap≤maxLen∧(Builtin.append_ #[t,t] t3 #[.slice ax xs.length xs.length,.slice (some ad2) ys.length c2]).run P w =
        .ok (.slice (some ⟨w.heap.size,0,none⟩) (xs.length+ys.length) cap) (w.drew.alloc (.cells (olds.toArray++news.toArray++Builtin.zeroCells zz.cells (cap - (xs.length+ys.length))) e)):=by
      cases ax with
      | none =>
        have hx0:xs=[]:=by
          refine Classical.byContradiction fun hx0=>?_
          obtain ⟨ad,h,_⟩:=hoa hx0
          cases h
        subst hx0
        have ho0:olds=[]:=List.eq_nil_of_length_eq_zero (by rw[hol]; simp)
        subst ho0
        refine⟨grownCap w ys.length 0 e,by simpa using grownCap_ge w _ _ _,grownCap_le_maxLen w _ _ _ (by simpa using hmax),?_⟩
        have:=run_append_nil (P:=P) w t t3 e i zz (elem?_inv he) hi hz ad2 ys.length c2 news hnl hads2 (by omega) (by omega) (by simp at hby; omega)
        simpa using this
      | some ad =>
        have holds:∀ q v,olds[q]?=some v→w.cell? (ad.add q)=some v:=by
          by_cases hx0:xs=[]
          · subst hx0
            have ho0:olds=[]:=List.eq_nil_of_length_eq_zero (by rw[hol]; simp)
            subst ho0
            intro q v hq; simp at hq
          · obtain ⟨ad',h,hh⟩:=hoa hx0
            cases h; exact hh
        exact⟨grownCap w (xs.length+ys.length) xs.length e,grownCap_ge w _ _ _,grownCap_le_maxLen w _ _ _ hmax,
          run_append_grow (P:=P) w t t3 e i zz (elem?_inv he) hi hz ad xs.length xs.length olds hol holds ad2 ys.length c2 news hnl hads2 (by omega) (by omega) (growslice_fits (by omega) hby)⟩
    obtain ⟨cap,hcg,hcm,hrun3⟩:=key
    rw[hrun3]
    simp only[Result.andThen_ok,Oper.upon]
    generalize hw':w.drew.alloc (.cells (olds.toArray++news.toArray++Builtin.zeroCells zz.cells (cap - (xs.length+ys.length))) e)=w'
    have hnew:w'.heap[w.heap.size]?=some (.cells (olds.toArray++news.toArray++Builtin.zeroCells zz.cells (cap - (xs.length+ys.length))) e (0,0)):=by rw[← hw']; exact heap_alloc_new w.drew _
    have hsize:w'.heap.size=w.heap.size+1:=by rw[← hw']; simp
    have hgr:Grow w w':=⟨by rw[← hw']; rfl,by rw[← hw']; exact⟨rfl,Nat.le_succ _⟩,by rw[← hw']; rfl,by rw[hsize]; omega,fun b hb=>by rw[← hw']; exact Below.heap_alloc w.drew _ b hb⟩
    have hkp:=hgr.keeps hm'
    have hAb:∀ b,p.A b→b<w.heap.size:=fun b hb=>Nat.lt_of_lt_of_le (hf.others b (hE.A ▸ hb)) hE.size
    have hstab:Stable w' p w.heap.size:=⟨by rw[hsize]; omega,fun g hgb=>Nat.lt_irrefl _ (hm'.lt hgb),fun hA=>Nat.lt_irrefl _ (hAb _ hA)⟩
    refine hK3 _ _ (hk _ w' ⟨hdf,by simpa [Act.put,sz2] using h3,p,hE.step hkp hgr.os hgr.tape hgr.output hgr.size rfl (fun b hb _=>hgr.heap b hb) (fun g h1 h2=>absurd h1 h2),?_,⟨hm'.dom,fun g m hl=>(hm'.holds g m hl).keep hkp fun b hb=>hgr.heap b (hm'.lt hb),hm'.inj,hm'.avoid⟩⟩)
    refine(hs2.keep hkp).put (by rw[sz2]; exact hd3n) ?_
    have hall:∀ q∈xs++ys,q.length=i.size∧∀ c∈q,c.leaf=true:=fun q hq=>(List.mem_append.1 hq).elim (hok q) (hnk q)
    have hget:∀ (q:Nat) r (i':Nat) c,(xs++ys)[q]?=some r→r[i']?=some c→∃ u,(olds.toArray++news.toArray++Builtin.zeroCells zz.cells (cap - (xs.length+ys.length)))[q*i.size+i']?=some u∧RelV w p c u:=by
      intro q r i' c hq hi'
      by_cases hlt:q<xs.length
      · rw[List.getElem?_append_left hlt] at hq
        obtain ⟨u,hu,hr⟩:=hor q r i' c hq hi'
        have hl1:=(List.getElem?_eq_some_iff.1 hu).1
        exact⟨u,by rw[Array.append_assoc,Array.getElem?_append_left (by simpa using hl1)]; simpa using hu,hr⟩
      · rw[List.getElem?_append_right (by omega)] at hq
        obtain ⟨u,hu,hr⟩:=hnr _ r i' c hq hi'
        have hl1:=(List.getElem?_eq_some_iff.1 hu).1
        refine⟨u,?_,hr⟩
        have e1:q*i.size+i'=olds.length+((q - xs.length)*i.size+i'):=by
          rw[hol]
          have:q=xs.length+(q - xs.length):=by omega
          conv=>lhs; rw[this,Nat.add_mul]
          omega
        rw[e1,Array.append_assoc,Array.getElem?_append_right (by simp)]
        simp only[List.size_toArray,Nat.add_sub_cancel_left]
        rw[Array.getElem?_append_left (by simpa using hl1)]
        simpa using hu
    have:=RelV.slc (w:=w') (p:=p) i.size (xs++ys) w.heap.size 0 cap (fun q i'=>((olds.toArray++news.toArray++Builtin.zeroCells zz.cells (cap - (xs.length+ys.length)))[q*i.size+i']?).getD undef) hstab (by rw[List.length_append]; exact hcg) hcm hall
      (fun q r i' c hq hi'=>by
        obtain ⟨u,hu,_⟩:=hget q r i' c hq hi'
        rw[Nat.zero_add,gA hnew,hu]; rfl)
      (fun q r i' c hq hi'=>by
        obtain ⟨u,hu,hr⟩:=hget q r i' c hq hi'
        rw[hu]; exact hr.keep hkp)
    rw[List.length_append] at this
    exact this
end Go.Abs
set_option linter.unusedVariables false
set_option linter.unusedSimpArgs false
namespace Go.Proofs.YtijnkglkchhomaaGreat
open Go Go.Abs
end Go.Proofs.YtijnkglkchhomaaGreat
set_option linter.unusedVariables false
set_option linter.unusedSimpArgs false
namespace Go.Abs
open Go Go.RowKit Go.ChangeShapes Go.WideShapes Go.ChangeAt
variable {P:Program} {H:Type} {enc:TypeId×Value→H}
mutual
def TyB:TD→List AV→Nat→Prop
  | .bool,_,n=>1≤n
  | .int _,_,n=>1≤n
  | .str,_,n=>1≤n
  | .sl _ d,cs,n=>∃ (xs:List (List AV)) (ms:List Nat),cs=[.sl d.n xs]∧ms.length=xs.length∧(∀ (i:Nat) x m,xs[i]?=some x→ms[i]?=some m→TyB d x m)∧ms.sum+1≤n
  | .agg ds,cs,n=>∃ m,TyBL ds cs m∧m+1≤n
def TyBL:List TD→List AV→Nat→Prop
  | [],_,_=>True
  | d::r,cs,n=>∃ a b m1 m2,cs=a++b∧a.length=d.n∧TyB d a m1∧TyBL r b m2∧m1+m2≤n
end
structure IsBulk (B:DataW H→Nat):Prop where
  one:∀ d,1≤B d
  sl:∀ e s,(e.map B).sum+1≤B (.slice e s)
  ag:∀ p,(p.map B).sum+1≤B (.agg p)
section
variable {W:World} {base:Nat} {sp:Nat→Bool} {held:Bool} {B:DataW H→Nat}
def aUi (_B:DataW H→Nat) (W:World) (d:TD) (vs:List Value) (n:Nat):Prop:=∃ cs,Ty d cs∧TyB d cs n∧RelL W sD cs vs∧∀ c∈cs,c.leaf=true
theorem aGr (f:TypeId→Option TD) (IH:∀ t d,f t=some d→∀ fuel vs x,DataW.trod enc P W base sp held fuel t vs=some x→tU P t x.1→aUi B W d vs (B x.1)) :
    ∀ (segs:List (Nat×TypeId)) (pts:List (DataW H)) (o:Nat) (ds:List TD) (vs:List Value),iY P f o segs=some ds→pts.length=segs.length →
      (∀ (i:Nat) s,segs[i]?=some s→∃ fuel x,DataW.trod enc P W base sp held fuel s.2 ((vs.drop s.1).take (P.cellsOf s.2))=some x∧tU P s.2 x.1∧pts[i]?=some x.1)→o+TD.nL ds=vs.length →
      ∃ cs,TyL ds cs∧TyBL ds cs (pts.map B).sum∧RelL W sD cs (vs.drop o)∧∀ c∈cs,c.leaf=true:=by
  intro segs
  induction segs with
  | nil =>
    intro pts o ds vs h hpl _ hl
    simp only[iY,Option.some.injEq] at h
    subst h
    simp only[TD.nL,Nat.add_zero] at hl
    refine⟨[],by simp [TyL],by simp [TyBL],⟨by simp [hl],fun i c v hc _=>by simp at hc⟩,by simp⟩
  | cons s r ih =>
    intro pts o ds vs h hpl hx hl
    obtain ⟨off,t⟩:=s
    obtain ⟨pt,pts,rfl⟩:∃ a b,pts=a::b:=by cases pts with
      | nil=>simp at hpl
      | cons a b=>exact⟨a,b,rfl⟩
    simp only[iY] at h
    split at h
    · rename_i d hd
      split at h
      · rename_i hc
        obtain ⟨rfl,hn⟩:=hc
        cases hr:iY P f (off+d.n) r with
        | none=>simp [hr] at h
        | some es =>
          simp only[hr,Option.map_some,Option.some.injEq] at h
          subst h
          simp only[TD.nL] at hl
          obtain ⟨fuel,x,hx1,hw1,hp1⟩:=hx 0 (off,t) (by simp)
          obtain rfl:pt=x.1:=by simpa using hp1
          obtain ⟨a,ha1,haB,ha2,ha3⟩:=IH t d hd fuel _ x hx1 hw1
          obtain ⟨b,hb1,hbB,hb2,hb3⟩:=ih pts (off+d.n) es vs hr (by simpa using hpl) (fun i s hs=>hx (i+1) s (by simpa using hs)) (by omega)
          refine⟨a++b,by simp only[TyL]; exact⟨a,b,rfl,ha1,hb1⟩,by simp only[TyBL]; exact⟨a,b,_,_,rfl,zM ha1,haB,hbB,by simp⟩,?_,fun c hc=>(List.mem_append.1 hc).elim (ha3 c) (hb3 c)⟩
          have e:vs.drop off=(vs.drop off).take (P.cellsOf t)++vs.drop (off+d.n):=by
            rw[← hn,← List.drop_drop]; exact(List.take_append_drop _ _).symm
          rw[e]
          exact ha2.app hb2
      · cases h
    · cases h
theorem aOa (
                    hB:IsBulk B):∀ (n:Nat) (t:TypeId) (d:TD),tdOf? P n t=some d→∀ fuel vs x,DataW.trod enc P W base sp held fuel t vs=some x→tU P t x.1→aUi B W d vs (B x.1):=by
  intro n
  induction n with
  | zero=>intro t d h; simp [tdOf?] at h
  | succ n ih =>
    intro t d h fuel vs x hx hlw
    unfold tdOf? at h
    split at h
    · rename_i ht; cases h
      obtain ⟨b,rfl,_⟩:=DataW.trod_bool ht hx
      exact⟨[.s (.bool b)],by simp only[Ty]; exact⟨b,rfl⟩,by simp only[TyB]; exact hB.one _,.one (.s _),by simp [AV.leaf,Value.oneCell']⟩
    · rename_i k ht; cases h
      obtain ⟨z,rfl,_,hw⟩:=DataW.trod_int ht hx
      exact⟨[.s (.int k z)],by simp only[Ty]; exact⟨z,rfl,hw⟩,by simp only[TyB]; exact hB.one _,.one (.s _),by simp [AV.leaf,Value.oneCell']⟩
    · rename_i ht; cases h
      obtain ⟨s,rfl,rfl,hw⟩:=DataW.trod_string ht hx
      have hws:=hlw s.data.toList.length (by simp [DataW.weights])
      exact⟨[.s (.string s)],by simp only[Ty]; exact⟨s,rfl,by simpa [reachBytes] using hws⟩,by simp only[TyB]; exact hB.one _,.one (.s _),by simp [AV.leaf,Value.oneCell']⟩
    · rename_i e ht
      split at h
      · rename_i de hde
        split at h
        · rename_i hn
          obtain ⟨hn,hpos⟩:=hn
          cases h
          have hmx:maxLen=9223372036854775807:=rfl
          rcases Go.Deep.open_slice ht hx with ⟨rfl,_⟩ | ⟨a,len,cap,m,fu,D,Pl,rfl,_,hl,hm,hmm,hxe,hel⟩
          · exact⟨[.sl de.n []],by simp only[Ty]; exact⟨[],rfl,by simp,by simp,by simp⟩,by simp only[TyB]; exact⟨[],[],rfl,rfl,by simp,by simpa using hB.one _⟩,.one (.sln _ _ _ (by simp [maxLen])),by simp [AV.leaf]⟩
          · have hlm:len≤m:=by rw[hmm]; split <;> omega
            have hlen48:len*P.bytesOf e≤140737488351232:=by
              have h0:=hlw ((((List.range len).map D).length+((List.range (m - len)).map fun j=>D (len+j)).length)*P.bytesOf e) (by rw[hxe]; simp [DataW.weights,ht])
              have h1:len*P.bytesOf e≤(((List.range len).map D).length+((List.range (m - len)).map fun j=>D (len+j)).length)*P.bytesOf e:=Nat.mul_le_mul_right _ (by simp)
              have:reachBytes=140737488351232:=rfl
              omega
            have hlD:∀ i,i<len→tU P e (D i):=fun i hi q hq=>hlw q (by
              rw[hxe]
              simp only[DataW.weights,ht,List.mem_cons,List.mem_append]
              exact .inr (.inl (jZ (List.mem_map.2 ⟨i,by simpa using hi,rfl⟩) hq)))
            have key:∀ i,i<len→∃ q:List AV×List Value,(Ty de q.1∧TyB de q.1 (B (D i)))∧RelL W sD q.1 q.2∧(∀ c∈q.1,c.leaf=true)∧W.cells? base (a.add (i*P.cellsOf e)) (P.cellsOf e)=some q.2:=by
              intro i hi
              obtain ⟨cs',h1,h2⟩:=hel i (by omega)
              obtain ⟨cs,k1,kB,k2,k3⟩:=ih e de hde fu cs' _ h2 (hlD i hi)
              exact⟨(cs,cs'),⟨k1,kB⟩,k2,k3,h1⟩
            obtain ⟨g,hg⟩:=Go.Deep.choose_lt key
            by_cases h0:len=0
            · subst h0
              exact⟨[.sl de.n []],by simp only[Ty]; exact⟨[],rfl,by simp,by simp,by simp⟩,by simp only[TyB]; exact⟨[],[],rfl,rfl,by simp,by simpa using hB.one _⟩,.one (.sln _ _ _ hm),by simp [AV.leaf]⟩
            · have hcell:∀ j i,j<len→i<de.n→W.cell? ((a.add (j*de.n)).add i)=(g j).2[i]?:=by
                intro j i hj hi
                have:=(hg j hj).2.2.2
                rw[← hn] at this
                exact(World.cells?_some this).2.2 i hi
              have hlen:∀ j,j<len→(g j).1.length=de.n∧(g j).2.length=de.n:=by
                intro j hj
                have h1:=zM (hg j hj).1.1
                exact⟨h1,by rw[← (hg j hj).2.1.1,h1]⟩
              have hspot:a.spot=none:=by
                have h1:=hcell 0 0 (by omega) hpos
                cases hs:a.spot with
                | none=>rfl
                | some x =>
                  exfalso
                  have h2:(g 0).2[0]?≠none:=by
                    have:=(hlen 0 (by omega)).2
                    rw[List.getElem?_eq_getElem (by omega)]; simp
                  rw[← h1] at h2
                  apply h2
                  have:((a.add (0*de.n)).add 0)=a:=by simp [Addr.add]
                  rw[this]
                  simp only[World.cell?,hs]
                  split <;> simp
              have hblk:a.block<W.heap.size:=by
                have h1:=hcell 0 0 (by omega) hpos
                have h2:(g 0).2[0]?≠none:=by
                  have:=(hlen 0 (by omega)).2
                  rw[List.getElem?_eq_getElem (by omega)]; simp
                rw[← h1] at h2
                have:((a.add (0*de.n)).add 0)=a:=by simp [Addr.add]
                rw[this] at h2
                simp only[World.cell?] at h2
                split at h2
                · rename_i h; exact(Array.getElem?_eq_some_iff.1 h).1
                · exact absurd rfl h2
              obtain ⟨b,off,spot⟩:=a
              simp only at hspot hblk
              subst hspot
              have hll:((List.range len).map fun j=>(g j).1).length=len:=by simp
              have hget:∀ (j:Nat) x,((List.range len).map fun j=>(g j).1)[j]?=some x→j<len∧x=(g j).1:=by
                intro j x hj
                rw[List.getElem?_map] at hj
                cases hq:(List.range len)[j]? with
                | none=>simp [hq] at hj
                | some s =>
                  obtain ⟨h1,h2⟩:=List.getElem?_eq_some_iff.1 hq
                  simp at h1 h2
                  subst h2
                  simp [hq] at hj
                  exact⟨h1,hj.symm⟩
              have ty:∀ x∈(List.range len).map fun j=>(g j).1,Ty de x:=by
                intro x hxm
                obtain ⟨j,hj,rfl⟩:=List.mem_map.1 hxm
                exact(hg j (by simpa using hj)).1.1
              have key:=RelV.slc (w:=W) (p:=sD) de.n ((List.range len).map fun j=>(g j).1) b off cap (fun j i=>((g j).2[i]?).getD undef) (aPz hblk) (by rw[hll]; exact hl) hm
                (fun x hxm=>by
                  obtain ⟨j,hj,rfl⟩:=List.mem_map.1 hxm
                  have hj':j<len:=by simpa using hj
                  exact⟨(hlen j hj').1,(hg j hj').2.2.1⟩)
                (fun j x i c hj hi=>by
                  obtain ⟨hj',rfl⟩:=hget j x hj
                  have hi':i<de.n:=by rw[← (hlen j hj').1]; exact(List.getElem?_eq_some_iff.1 hi).1
                  have h1:=hcell j i hj' hi'
                  rw[hH,hH] at h1
                  rw[h1,List.getElem?_eq_getElem (by rw[(hlen j hj').2]; exact hi')]
                  rfl)
                (fun j x i c hj hi=>by
                  obtain ⟨hj',rfl⟩:=hget j x hj
                  have hi':i<de.n:=by rw[← (hlen j hj').1]; exact(List.getElem?_eq_some_iff.1 hi).1
                  have hv:(g j).2[i]?=some ((g j).2[i]'(by rw[(hlen j hj').2]; exact hi')):=List.getElem?_eq_getElem _
                  rw[hv]
                  exact(hg j hj').2.1.2 i c _ hi hv)
              rw[hll] at key
              exact⟨[.sl de.n ((List.range len).map fun j=>(g j).1)],by simp only[Ty]; exact⟨_,rfl,by rw[hll]; omega,by rw[hll]; exact hlen48,ty⟩,by simp only[TyB]; exact⟨_,(List.range len).map (fun j=>B (D j)),rfl,by simp,(fun i y m hy hm=>by
                obtain ⟨hi,rfl⟩:=hget i y hy
                have:m=B (D i):=by
                  rw[List.getElem?_map,List.getElem?_range hi] at hm; simpa using hm.symm
                rw[this]; exact(hg i hi).1.2),by
                rw[hxe]; exact Nat.le_trans (by simp [Function.comp_def]) (hB.sl _ _)⟩,.one key,by simp [AV.leaf]⟩
        · cases h
      · cases h
    · rename_i fs ht
      split at h
      · rename_i ds hds
        split at h
        · rename_i hn
          cases h
          obtain ⟨xs,fu,_,hxe,hlen,hxl,hf⟩:=DataW.trod_struct ht hx
          obtain ⟨cs,h1,hBB,h2,h3⟩:=aGr (tdOf? P n) (fun t d h=>ih t d h) _ (xs.map Prod.fst) 0 ds vs hds (by simpa using hxl) (fun i s hs=>by
            obtain ⟨f,hi,rfl⟩:∃ f,fs.toList[i]?=some f∧s=(f.offset,f.type):=by
              rw[List.getElem?_map] at hs
              cases hq:fs.toList[i]? with
              | none=>simp [hq] at hs
              | some f=>exact⟨f,rfl,by simpa [hq] using hs.symm⟩
            have h4:=hf i f (by simpa using hi)
            cases hq:xs[i]? with
            | none =>
              exfalso
              have h5:=(List.getElem?_eq_some_iff.1 hi).1
              simp at h5 hq
              omega
            | some y =>
              refine⟨fu,y,by rw[h4,hq],fun q hq'=>hlw q ?_,by rw[List.getElem?_map,hq]; rfl⟩
              rw[hxe]
              simp only[DataW.weights,ht]
              exact lI (i:=i) (by rw[List.getElem?_map,hi]; rfl) (by rw[List.getElem?_map,hq]; rfl) hq') (by rw[hn,hlen]; omega)
          exact⟨cs,by simp only[Ty]; exact h1,by simp only[TyB]; exact⟨_,hBB,by rw[hxe]; exact hB.ag _⟩,h2,h3⟩
        · cases h
      · cases h
    · rename_i m e ht
      split at h
      · rename_i ds hds
        split at h
        · rename_i hn
          cases h
          obtain ⟨xs,fu,_,hxe,hlen,hxl,hf⟩:=DataW.trod_array ht hx
          obtain ⟨cs,h1,hBB,h2,h3⟩:=aGr (tdOf? P n) (fun t d h=>ih t d h) _ (xs.map Prod.fst) 0 ds vs hds (by simpa using hxl) (fun i s hs=>by
            obtain ⟨hi,rfl⟩:i<m∧s=(i*P.cellsOf e,e):=by
              rw[List.getElem?_map] at hs
              by_cases him:i<m
              · rw[List.getElem?_range him] at hs; exact⟨him,by simpa using hs.symm⟩
              · rw[List.getElem?_eq_none (by simpa using him)] at hs; simp at hs
            have h4:=hf i hi
            cases hq:xs[i]? with
            | none=>exfalso; simp at hq; omega
            | some y =>
              refine⟨fu,y,by rw[h4,hq],fun q hq'=>hlw q ?_,by rw[List.getElem?_map,hq]; rfl⟩
              rw[hxe]
              simp only[DataW.weights,ht]
              exact jZ (List.mem_map.2 ⟨y,List.mem_of_getElem? hq,rfl⟩) hq') (by rw[hn,hlen]; omega)
          exact⟨cs,by simp only[Ty]; exact h1,by simp only[TyB]; exact⟨_,hBB,by rw[hxe]; exact hB.ag _⟩,h2,h3⟩
        · cases h
      · cases h
    · cases h
theorem aS2 (hB:IsBulk B) {r:Reach} {b0 n:Nat} {t:TypeId} {v:Value} {d:DataW H} {ps:List MemPlace} {ds:List TD} (ht:tdOf? P n t=some (.agg ds)) (hag:agg? P t=some true)
    (hval:Value.okWide P W r b0 t v) (hd:DataW.Trod enc P W base sp held t v d ps) (hw:tU P t d):∃ cs,TyL ds cs∧TyB (.agg ds) cs (B d)∧RelV W sD (.agg cs) v:=by
  obtain ⟨fuel,hf⟩:=hd
  obtain ⟨cs,h1,hBB,h2,h3⟩:=aOa hB n t _ ht fuel _ _ hf hw
  simp only[Ty] at h1
  have:∃ us:Array Value,v=.agg us:=by
    unfold agg? at hag
    unfold Value.okWide at hval
    cases hu:P.underlying t with
    | none=>simp [hu] at hag
    | some q =>
      rw[hu] at hval
      cases q <;> simp_all <;> (obtain ⟨cs,h,_⟩:=hval; exact⟨cs,h⟩)
  obtain ⟨us,rfl⟩:=this
  refine⟨cs,h1,hBB,.agg _ _ (by simpa [Value.cells] using h2.1) (fun i c u hc hu=>h2.2 i c u hc (by simpa [Value.cells] using hu))⟩
end
theorem tyb_pos:∀ (d:TD) {cs:List AV} {n:Nat},TyB d cs n→1≤n
  | .bool,_,_,h=>by simpa only[TyB] using h
  | .int _,_,_,h=>by simpa only[TyB] using h
  | .str,_,_,h=>by simpa only[TyB] using h
  | .sl _ d,_,_,h=>by
    simp only[TyB] at h
    obtain ⟨_,_,_,_,_,h⟩:=h; omega
  | .agg _,_,_,h=>by
    simp only[TyB] at h
    obtain ⟨_,_,h⟩:=h; omega
theorem aPt {α:Type} {d:TD} {b k n:Nat} {enc:α→List AV} (f:α→Nat) (hf:∀ a m,TyB d (enc a) m→f a≤m) {l:List α} (h:TyB (.sl b d) [.sl k (l.map enc)] n):(l.map f).sum+1≤n:=by
  simp only[TyB] at h
  obtain ⟨xs,ms,he,hl,hx,hs⟩:=h
  obtain ⟨rfl,rfl⟩:k=d.n∧l.map enc=xs:=by simpa using he
  refine Nat.le_trans (Nat.add_le_add_right ?_ 1) hs
  clear hs he
  induction l generalizing ms with
  | nil=>simp
  | cons a l ih =>
    cases ms with
    | nil=>simp at hl
    | cons m ms =>
      have h1:=hf a m (hx 0 (enc a) m (by simp) (by simp))
      have h2:=ih ms (by simpa using hl) (fun i x q hi hq=>hx (i+1) x q (by simpa using hi) (by simpa using hq))
      simp only[List.map_cons,List.sum_cons]; omega
theorem aPw {α:Type}:∀ (l:List α),(l.map fun _=>1).sum=l.length
  | []=>rfl
  | _::l=>by simp only[List.map_cons,List.sum_cons,aPw l,List.length_cons]; omega
theorem aCf {α:Type} {d:TD} {b k n:Nat} {enc:α→List AV} {l:List α} (h:TyB (.sl b d) [.sl k (l.map enc)] n):l.length+1≤n:=by
  have:=aPt (fun _=>1) (fun a m hm=>tyb_pos d hm) h
  rwa [aPw] at this
theorem qT {d:TD} {r:List TD} {c:AV} {cs:List AV} {n:Nat} (hd:d.n=1) (h:TyBL (d::r) (c::cs) n):∃ m1 m2,TyB d [c] m1∧TyBL r cs m2∧m1+m2≤n:=by
  simp only[TyBL] at h
  obtain ⟨a,b,m1,m2,he,hl,h1,h2,h3⟩:=h
  match a,hl.trans hd with
  | [x],_ =>
    simp only[List.cons_append,List.nil_append,List.cons.injEq] at he
    obtain ⟨rfl,rfl⟩:=he
    exact⟨m1,m2,h1,h2,h3⟩
end Go.Abs
set_option linter.unusedVariables false
set_option linter.unusedSimpArgs false
namespace Go.Abs
open Go
theorem aK9:∀ (l:List Us),(l.map fun x=>x.2.length+1).sum=fA l+l.length
  | []=>rfl
  | x::l=>by
    have:=aK9 l
    simp only[fA,List.map_cons,List.sum_cons,List.length_cons] at this ⊢
    omega
theorem tyb_us {a:Us} {m:Nat} (h:TyB (.agg [.str,.sl 32 (.agg [.int .i64,.int .i64,.int .i64,.int .i64])]) (usC a) m):a.2.length+1≤m:=by
  simp only[TyB] at h
  obtain ⟨m',h,e⟩:=h
  obtain ⟨a1,b1,_,h,e1⟩:=qT rfl h
  obtain ⟨a2,b2,h2,h,e2⟩:=qT rfl h
  have:=aCf h2
  omega
theorem tyb_sta {s:Sta} {n:Nat} (h:TyB (.agg [.int .i64,.int .i64,.sl 40 (.agg [.int .i64,.str,.int .i64,.int .i64]),.sl 40 (.agg [.str,.sl 32 (.agg [.int .i64,.int .i64,.int .i64,.int .i64])]),.sl 48 (.agg [.str,.str,.int .i64,.int .i64]),.sl 24 (.agg [.str,.int .i64])]) (aL s) n):dJ s+s.usr.length≤n:=by
  simp only[TyB] at h
  obtain ⟨m,h,hm⟩:=h
  obtain ⟨a1,b1,_,h,e1⟩:=qT rfl h
  obtain ⟨a2,b2,_,h,e2⟩:=qT rfl h
  obtain ⟨a3,b3,h3,h,e3⟩:=qT rfl h
  obtain ⟨a4,b4,h4,h,e4⟩:=qT rfl h
  obtain ⟨a5,b5,h5,h,e5⟩:=qT rfl h
  obtain ⟨a6,b6,h6,h,e6⟩:=qT rfl h
  have k3:=aCf h3
  have k4:=aPt (fun x:Us=>x.2.length+1) (fun a m hm=>tyb_us hm) h4
  have k5:=aCf h5
  have k6:=aCf h6
  rw[aK9] at k4
  unfold dJ
  omega
end Go.Abs
