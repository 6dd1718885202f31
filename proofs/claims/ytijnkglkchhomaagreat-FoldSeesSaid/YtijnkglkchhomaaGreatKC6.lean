import Derived.WalkKit
import Derived.WalkSpells
import Derived.WalkLawsBesides
import Derived.Deep.LoopGhost
import Derived.ChangeKeysEq
import Derived.Still
import Derived.Lib.AppendZeros
import Derived.Laws.StructEq
import Derived.OpenShut
import Derived.Scope
import Derived.Shelf.SlSortCmp.Kit1
import Derived.Shelf.SlSortCmp.InsertionK
import Derived.Lib.SlicesCompact
import Derived.ProofKit
import Derived.ChangeSame
import Derived.Carry
import Derived.SliceStrings
import Derived.ChangeMaps5
import Derived.Deep.Slices
import Derived.Test.YtijnkglkchhomaaGreatRows
import Derived.Shelf.Abstract
import Derived.Deep.RegionLaw
import Derived.Lib.Walk
import Derived.Lib.Overlaps
import Derived.Lib.AppendZerosOnto
import Derived.Laws.CopyRow
import Derived.Shelf.SlSortCmp.WholeK
import Derived.Shelf.SlSortCmp.Whole1
import Derived.Shelf.SlSortCmp.NoneTotal
import Derived.Test.YtijnkglkchhomaaGreatKC1
import Derived.Test.YtijnkglkchhomaaGreatKC2
import Derived.Test.YtijnkglkchhomaaGreatKC3
import Derived.Test.YtijnkglkchhomaaGreatKC4
import Derived.Test.YtijnkglkchhomaaGreatKC5
set_option maxRecDepth 20000
set_option maxHeartbeats 16000000
set_option linter.unusedVariables false
set_option linter.unusedSimpArgs false
namespace Go.Proofs.YtijnkglkchhomaaGreat
open Go Go.Abs
theorem aIn {l:List Int} {k:Nat} (hk:k<l.length):0≤((k:Nat):Int)∧(dX l)[((k:Nat):Int).toNat]?=some [AV.s (.int .i64 l[k])]:=⟨by omega,by rw[dX,Int.toNat_natCast,List.getElem?_map,List.getElem?_eq_getElem hk]; rfl⟩
theorem aO5 (s:Sta) (l:List Ev) (hz:SzS 140737488351232 s) (h:RightP s) (hl:l.length≤60) (ht:∀ e∈l,TS e.user∧TS e.other) :Den Tryz.prog 24 [.agg (bU s),.sl 6 (l.map evC)]  (·=.sl 6 ((eH s l).map evC)):=by
 refine aS Tryz.func24 rfl (Nat.le_of_ble_eq_true rfl) (fun w0 A hf=>(aC (fun K1 hK1=>(aB (aK hf rfl (cL rfl rfl (lf rfl)) (aF rfl (bE) (aD (hK1 _ (aC (fun K2 hK2=>(aB (aE aA 2 rfl (aK hf rfl (aR rfl rfl sD rfl (wT s l hz h hl ht)) (aE aA 3 rfl (cH hf rfl cK rfl cW rfl rfl rfl rfl (lf rfl) ?_)))))))))))))))
 refine aE aA 1 rfl (aD (hK2 _ (aC (fun K3 hK3=>(aB (jK hf 6 rfl rfl rfl (aD (hK3 _ (aC (fun K4 hK4=>(aC (fun K5 hK5=>(aB (aE aA 3 rfl (aD ?_)))))))))))))))
 refine hK5 _ (aO (bS (ι:=Nat) (fun k=>⟨34,[(1,.sl 6 (l.map evC)),(7,.own 7 6 0 (eH s (l.take k)).length),(16,.sl 1 (dX (cC s l))),(17,.s (.int .i64 ((dX (cC s l)).length:Nat))),(18,.s (.int .i64 (k:Nat)))],[(7,.buf 6 ((eH s (l.take k)).map evC))]⟩) (fun k=>k≤l.length) (fun k=>l.length - k) 0 ?_ ?_ ?_))
 · exact Nat.zero_le _
 · exact bT ⟨rfl,rfl,rfl,rfl,rfl,trivial⟩ rfl
 ·
  rintro k hC
  refine aC (fun K6 hK6=>(aB (aE aA 1 rfl (aD (hK6 _ (aC (fun K7 hK7=>(aI rfl (fun hc1=>?_) (fun hc1=>?_)))))))))
  ·
   simp only[bs,dJ,gJ] at hc1
   refine aL (hK7 _ (aC (fun K8 hK8=>(aO (aC (fun K9 hK9=>(aB ?_)))))))
   have hk:k<l.length:=by omega
   have hk2:k<(cC s l).length:=by rw[gJ]; exact hk
   have htk:=tW (l.take k) s
   have htl:(l.take k).length=k:=by rw[List.length_take]; omega
   refine aE aA 1 rfl (aF rfl (aW rfl rfl tR tS (aIn hk2)) (aE aA 3 rfl (aD (hK9 _ (aC (fun K10 hK10=>(aB (aE aA 2 rfl (aD (hK10 _ (aI rfl (fun hc2=>?_) (fun hc2=>?_))))))))))))
   ·
    simp only[bs,dJ,gJ] at hc2
    have h0:(bI (dF s (l.take k)) l[k]).2=0:=by rw[← aAm hk hk2]; assumption
    refine aB (aE aA 3 rfl ?_)
    refine aF rfl (aW rfl rfl jA dC (by first | assumption | (refine⟨by omega,?_⟩; first | assumption | exact fP (by omega) | exact fP (by simp only[List.length_cons] at *; omega) | exact mJ (by omega) | exact oB (by omega) | exact mH (by omega)) | exact⟨by decide,rfl⟩)) ?_
    refine aE aA 1 rfl (aK hf rfl (aN mA rfl rfl rfl rfl (l2 rfl)) (aT hf rfl mA rfl rfl rfl (.inl rfl) (by rw[List.length_map]) rfl (by first | rfl | simp [cV,bF]) (by first | (simp only[maxLen,List.length_map,List.length_append,List.length_cons,List.length_nil]; omega) | (simp [maxLen] <;> omega)) (by first | (simp only[List.length_map,List.length_append,List.length_cons,List.length_nil]; omega) | (simp <;> omega)) ?_))
    refine aQ (cD [1,16,17,18,31] rfl) (aE aA 1 rfl ?_)
    refine bB ?_
    refine hK8 _ (aB ?_)
    refine aF rfl (bJ rfl rfl (by omega) (by omega)) ?_
    refine aE aA 1 rfl (aD ?_)
    exact⟨k+1,by omega,by omega,bT ⟨rfl,(by rw[kB hk,if_pos h0,List.length_append]; rfl),rfl,rfl,rfl,trivial⟩ (by rw[kB hk,if_pos h0,List.map_append]; rfl)⟩
   ·
    simp only[bs,dJ,gJ] at hc2
    have h0:¬ (bI (dF s (l.take k)) l[k]).2=0:=by rw[← aAm hk hk2]; assumption
    refine aL (hK8 _ (aB ?_))
    refine aF rfl (bJ rfl rfl (by omega) (by omega)) ?_
    refine aE aA 1 rfl (aD ?_)
    exact⟨k+1,by omega,by omega,bT ⟨rfl,(by rw[kB hk,if_neg h0,List.append_nil]; rfl),rfl,rfl,rfl,trivial⟩ (by rw[kB hk,if_neg h0,List.append_nil])⟩
  ·
   simp only[bs,dJ,gJ] at hc1
   refine bA (hK4 _ (aC (fun K11 hK11=>(aB (aE aA 2 rfl (aD (hK11 _ (aJ ?_))))))))
   refine⟨_,rfl,?_⟩
   refine(bV (g:=7) rfl (by rw[List.length_map])).trans ?_
   rw[List.take_of_length_le (by first | omega | (rw[gJ] at *; omega))]
theorem aFv (s:Sta) (l:List Ev) (hz:SzS 140737488351232 s) (h:RightP s) (hl:l.length≤60) (ht:∀ e∈l,TS e.user∧TS e.other) :Den Tryz.prog 25 [.agg (bU s),.sl 6 (l.map evC)]  (·=.sl 6 ((eH s l).map evC)):=by
 refine aS Tryz.func25 rfl (Nat.le_of_ble_eq_true rfl) (fun w0 A hf=>(aC (fun K1 hK1=>(aB (aK hf rfl (cL rfl rfl (lf rfl)) (aF rfl (bE) (aD (hK1 _ (aC (fun K2 hK2=>(aB (aE aA 2 rfl (aK hf rfl (aR rfl rfl aN5 rfl (aHx s l hz h hl ht)) (aE aA 3 rfl (cH hf rfl dA rfl cI rfl rfl rfl rfl (lf rfl) ?_)))))))))))))))
 refine aE aA 1 rfl (aD (hK2 _ (aC (fun K3 hK3=>(aB (jK hf 6 rfl rfl rfl (aD (hK3 _ (aC (fun K4 hK4=>(aC (fun K5 hK5=>(aB (aE aA 1 rfl (aD ?_)))))))))))))))
 refine hK5 _ (aO (bS (ι:=Nat) (fun k=>⟨34,[(1,.sl 6 (l.map evC)),(6,.sl 1 (dX (cC s l))),(7,.own 7 6 0 (eH s (l.take k)).length),(8,.s (.int .i64 (k:Nat)))],[(7,.buf 6 ((eH s (l.take k)).map evC))]⟩) (fun k=>k≤l.length) (fun k=>l.length - k) 0 ?_ ?_ ?_))
 · exact Nat.zero_le _
 · exact bT ⟨rfl,rfl,rfl,rfl,trivial⟩ rfl
 ·
  rintro k hC
  refine aC (fun K6 hK6=>(aC (fun K7 hK7=>(aB (aE aA 4 rfl (aD (hK7 _ (aI rfl (fun hc1=>?_) (fun hc1=>?_)))))))))
  ·
   simp only[bs,dJ,gJ] at hc1
   have hk:k<l.length:=by omega
   have hk2:k<(cC s l).length:=by rw[gJ]; exact hk
   have htk:=tW (l.take k) s
   have htl:(l.take k).length=k:=by rw[List.length_take]; omega
   refine aL (hK6 _ (aC (fun K8 hK8=>(aO (aC (fun K9 hK9=>(aB (aE aA 2 rfl (aF rfl (aW rfl rfl tR tS (aIn hk2)) (aE aA 2 rfl (aD (hK9 _ (aI rfl (fun hc2=>?_) (fun hc2=>?_))))))))))))))
   ·
    simp only[bs,dJ,gJ] at hc2
    have h0:(bI (dF s (l.take k)) l[k]).2=0:=by rw[← aAm hk hk2]; assumption
    refine aB (aE aA 3 rfl ?_)
    refine aF rfl (aW rfl rfl gV gL (by first | assumption | (refine⟨by omega,?_⟩; first | assumption | exact fP (by omega) | exact fP (by simp only[List.length_cons] at *; omega) | exact mJ (by omega) | exact oB (by omega) | exact mH (by omega)) | exact⟨by decide,rfl⟩)) ?_
    refine aE aA 1 rfl (aK hf rfl (aN aFh rfl rfl rfl rfl (l2 rfl)) (aT hf rfl aFh rfl rfl rfl (.inl rfl) (by rw[List.length_map]) rfl (by first | rfl | simp [cV,bF]) (by first | (simp only[maxLen,List.length_map,List.length_append,List.length_cons,List.length_nil]; omega) | (simp [maxLen] <;> omega)) (by first | (simp only[List.length_map,List.length_append,List.length_cons,List.length_nil]; omega) | (simp <;> omega)) ?_))
    refine aQ (cD [1,6,8,32] rfl) (aE aA 1 rfl ?_)
    refine bB ?_
    refine hK8 _ (aB (aE aA 1 rfl ?_))
    refine aF rfl (bJ rfl rfl (by omega) (by omega)) ?_
    refine aE aA 1 rfl (aD ?_)
    exact⟨k+1,by omega,by omega,bT ⟨rfl,rfl,(by rw[kB hk,if_pos h0,List.length_append]; rfl),rfl,trivial⟩ (by rw[kB hk,if_pos h0,List.map_append]; rfl)⟩
   ·
    simp only[bs,dJ,gJ] at hc2
    have h0:¬ (bI (dF s (l.take k)) l[k]).2=0:=by rw[← aAm hk hk2]; assumption
    refine aL (hK8 _ (aB (aE aA 1 rfl ?_)))
    refine aF rfl (bJ rfl rfl (by omega) (by omega)) ?_
    refine aE aA 1 rfl (aD ?_)
    exact⟨k+1,by omega,by omega,bT ⟨rfl,rfl,(by rw[kB hk,if_neg h0,List.append_nil]; rfl),rfl,trivial⟩ (by rw[kB hk,if_neg h0,List.append_nil])⟩
  ·
   simp only[bs,dJ,gJ] at hc1
   refine bA (hK4 _ (aC (fun K10 hK10=>(aB (aE aA 2 rfl (aD (hK10 _ (aJ ?_))))))))
   refine⟨_,rfl,?_⟩
   refine(bV (g:=7) rfl (by rw[List.length_map])).trans ?_
   rw[List.take_of_length_le (by first | omega | (rw[gJ] at *; omega))]
theorem aJd (l:List Ev) (hl:l.length*64≤140737488355328) :DenO Tryz.prog 63 [.sl 6 (l.map evC)] 6 (·=(l.map evC)):=by
 refine fB Tryz.func63 rfl (Nat.le_of_ble_eq_true rfl) (fun w0 A hf=>?_)
 refine aC (fun K1 hK1=>(aB (aF rfl (bE) (aD (hK1 _ (aC (fun K2 hK2=>(aC (fun K3 hK3=>(aB (aE aA 1 rfl ?_)))))))))))
 refine lE rfl rfl rfl jA (fun b hb1=>?_)
 refine aD (hK3 _ (aI rfl (fun hc2=>?_) (fun hc2=>?_)))
 ·
  have hl0:l=[]:=by simpa using hb1 (by assumption)
  refine aC (fun K4 hK4=>(aB (jK hf 6 rfl rfl rfl (aD (hK4 _ (aJ ?_))))))
  exact⟨2,[],by decide,rfl,rfl,by rw[hl0]; rfl⟩
 ·
  refine aL (hK2 _ (aC (fun K5 hK5=>(aB (cP hf rfl rfl rfl mA rfl rfl rfl rfl (l2 rfl) ?_)))))
  refine aE aA 1 rfl (aT hf rfl mA rfl rfl rfl (.inl rfl) rfl rfl (by first | rfl | simp [cV,bF]) (by first | (simp only[maxLen,List.length_map,List.length_append,List.length_cons,List.length_nil]; omega) | (simp [maxLen] <;> omega)) (by first | (simp only[List.length_map,List.length_append,List.length_cons,List.length_nil]; omega) | (simp <;> omega)) ?_)
  refine aQ (cD [7] rfl) (aE aA 1 rfl (aD (hK5 _ (aJ ?_))))
  refine⟨5,(l.map evC),by decide,rfl,?_,rfl⟩
  show some (AV.own 5 6 0 (0+(l.map evC).length))=_
  rw[Nat.zero_add]
theorem aAi {g:Nat} {cap:List AV} (hent:∀ args w,(callFunc g args).run Tryz.prog w=.ok (.enter g args) w) (hcl:cleanL (fun _=>false) cap=true) (p:Ev→Bool) (l:List Ev) (hl:l.length≤9223372036854775807) (hp:∀ x∈l,Den Tryz.prog g (.agg (evC x)::cap) (·=.s (.bool (p x)))) :Den Tryz.prog 110 [.sl 6 (l.map evC),.fn g cap]  (·=.s (.int .i64 (kZ p l))):=by
 refine aS Tryz.func110 rfl (Nat.le_of_ble_eq_true rfl) (fun w0 A hf=>(aC (fun K1 hK1=>(aB (aE aA 1 rfl (aD (hK1 _ (aC (fun K2 hK2=>(aC (fun K3 hK3=>(aB (aE aA 3 rfl (aD (hK3 _ (aO ?_))))))))))))))))
 refine bS (ι:=Nat) (fun k=>⟨19,[(0,.sl 6 (l.map evC)),(1,.fn g cap),(7,.s (.int .i64 ((l.map evC).length:Nat))),(8,.s (.int .i64 (k:Nat)))],[]⟩) (fun k=>k≤l.length∧∀ (j:Nat) (hj:j<l.length),j<k→p l[j]=false) (fun k=>l.length - k) 0 ?_ ?_ ?_
 · exact⟨by omega,by omega⟩
 · exact dN rfl
 ·
  rintro k hC
  obtain ⟨h1,h2⟩:=hC
  refine aC (fun K4 hK4=>(aB (aE aA 1 rfl (aD (hK4 _ (aC (fun K5 hK5=>(aI rfl (fun hc1=>?_) (fun hc1=>?_)))))))))
  ·
   simp only[bs] at hc1
   refine aL (hK5 _ (aC (fun K6 hK6=>(aO (aC (fun K7 hK7=>(aB (aE aA 2 rfl (aD (hK7 _ (aC (fun K8 hK8=>(aB (aE aA 3 rfl ?_))))))))))))))
   refine aF rfl (aW rfl rfl jA dC (by first | exact ixm (by omega) | assumption | exact⟨by decide,rfl⟩)) ?_
   refine aE aA 1 rfl (aK hf rfl (aR rfl rfl hent (by rw[fN,hcl]; rfl) (hp _ (List.getElem_mem _))) ?_)
   refine aD (hK8 _ (aI rfl (fun hc2=>?_) (fun hc2=>?_)))
   ·
    refine aC (fun K9 hK9=>(aB (aE aA 2 rfl (aD (hK9 _ (aJ ?_))))))
    refine⟨_,rfl,?_⟩
    refine dM ?_
    rw[iK (by omega) h2 (by assumption)]
   ·
    refine aL (hK6 _ (aB ?_))
    refine aF rfl (bJ rfl rfl (by omega) (by omega)) ?_
    refine aE aA 1 rfl (aD ?_)
    exact⟨k+1,⟨by omega,fun j hj hjk=>by
      by_cases e:j=k
      · subst e; simp_all
      · exact h2 j hj (by omega)⟩,by omega,dN rfl⟩
  ·
   simp only[bs] at hc1
   refine bA (hK2 _ (aC (fun K10 hK10=>(aB (aE aA 1 rfl (aD (hK10 _ (aJ ?_))))))))
   refine⟨_,rfl,?_⟩
   refine dM ?_
   rw[lQ (fun j hj=>h2 j hj (by omega))]
theorem yD {g:Nat} {cap:List AV} (hent:∀ args w,(callFunc g args).run Tryz.prog w=.ok (.enter g args) w) (hcl:cleanL (fun _=>false) cap=true) (hcv:∀ m,convL m cap=cap) (p:Ev→Bool) (l:List Ev) (n:Nat) (hn:n=l.length) (hl:l.length≤9223372036854775807) (hp:∀ x∈l,Den Tryz.prog g (.agg (evC x)::cap) (·=.s (.bool (p x)))) :DenM Tryz.prog 62 [.own E0 6 0 n,.fn g cap] 6 ((l.map evC)) (fun r ys=>r=.own E0 6 0 (l.filter fun x=>!p x).length∧ys=((l.filter fun x=>!p x).map evC)):=by
 subst hn
 have hq0:∀ j,((l.take j).filter fun x=>!p x).length≤j:=fun j=>gT _ l j
 have hq1:∀ j,((l.take j).filter fun x=>!p x).length≤l.length:=fun j=>gG _ l j
 refine gI Tryz.func62 rfl (Nat.le_of_ble_eq_true rfl) (fun w0 x0 A hf=>?_)
 refine aC (fun K1 hK1=>(aB (aF rfl (bE) (aD (hK1 _ (aC (fun K2 hK2=>(aB (aE aA 2 rfl (aK hf rfl (pW rfl rfl (by show [AV.conv _ _,AV.fn g (convL _ cap)]=_; rw[hcv,bV (g:=E0) rfl (by simp)]) aLv (aAi hent hcl p l hl hp) rfl) ?_))))))))))
 refine aE aA 1 rfl (aD (hK2 _ (aC (fun K3 hK3=>(aC (fun K4 hK4=>(aB (aE aA 2 rfl (aD (hK4 _ (aI rfl (fun hc1=>?_) (fun hc1=>?_))))))))))))
 ·
  simp only[bs] at hc1
  refine aC (fun K5 hK5=>(aB (aE aA 2 rfl (aD (hK5 _ (aJ ?_))))))
  have hno:kZ p l=-1:=by simpa using hc1
  rcases dE p l with ⟨_,hn⟩ | ⟨k,hk,e,_⟩
  · exact⟨_,.own E0 6 0 l.length,(l.map evC),Le.refl _,rfl,rfl,by rw[fL p l hn],by rw[fL p l hn]⟩
  · exfalso; omega
 ·
  simp only[bs] at hc1
  refine aL (hK3 _ (aC (fun K6 hK6=>(aC (fun K7 hK7=>(aB ?_))))))
  rcases dE p l with ⟨e0,_⟩ | ⟨k0,hk0,ek0,hpk0,hbef⟩
  · exact absurd e0 (by simpa using hc1)
  have hst:=kP (fun x=>!p x) l k0 hk0 (fun j hj hjk=>by simp [hbef j hj hjk]) (by simp [hpk0])
  rw[ek0]
  refine aE aA 1 rfl ?_
  refine aF rfl (bJ rfl rfl (by omega) (by omega)) ?_
  refine aE aA 1 rfl (aD (hK7 _ (aO (bS (ι:=Nat) (fun j=>⟨42,[(0,.own E0 6 0 l.length),(1,.fn g cap),(5,.s (.int .i64 (((l.take j).filter fun x=>!p x).length:Nat))),(6,.s (.int .i64 (j:Nat)))],[(E0,.buf 6 ((iY (fun x=>!p x) l j).map evC))]⟩) (fun j=>j≤l.length) (fun j=>l.length - j) (k0+1) ?_ ?_ ?_))))
  · exact hk0
  · rw[hst.1,hst.2]; exact kX ⟨rfl,rfl,rfl,rfl,trivial⟩
  ·
   rintro j hC
   let q:=fun x=>!p x
   have hle:((l.take j).filter q).length≤j:=hq0 j
   have hle2:((l.take j).filter fun x=>!p x).length≤j:=hq0 j
   refine aC (fun K8 hK8=>(aC (fun K9 hK9=>(aB (aE aA 4 rfl (aD (hK9 _ (aI rfl (fun hc2=>?_) (fun hc2=>?_)))))))))
   ·
    simp only[bs] at hc2
    refine aL (hK8 _ (aC (fun K10 hK10=>(aO (aC (fun K11 hK11=>(aB (aE aA 2 rfl ?_))))))))
    refine aF rfl (bX rfl rfl jA dC (by omega)) ?_
    refine aF rfl (bM rfl iE dC rfl (pY (c:=6) (k:=j) (enc:=evC) (by omega) (by rw[eF]; omega) rfl) (cs':=evC l[j]) (by rw[nK (c:=6) (k:=j) (enc:=evC) (by omega) (by rw[eF]; omega) rfl,oM q l j j (by omega) hle])) ?_
    refine cH hf rfl lA rfl dC rfl rfl rfl rfl (lf rfl) (aD (hK11 _ (aC (fun K12 hK12=>(aB (aE aA 2 rfl (aK hf rfl (aR rfl rfl hent (by rw[fN,hcl]; rfl) (hp _ (List.getElem_mem _))) ?_)))))))
    refine aE aA 1 rfl (aD (hK12 _ (aI rfl (fun hc3=>?_) (fun hc3=>?_))))
    ·
     simp only[bs] at hc3
     refine aC (fun K13 hK13=>(aB (aE aA 3 rfl ?_)))
     refine aF rfl (bX rfl rfl jA dC (by omega)) ?_
     refine aP hf rfl rfl dC rfl rfl (by simp [evC,AV.cells,AV.one,Value.oneCell',splice]) (by simp [evC,AV.cells,AV.leaf,Value.oneCell',splice]) (gD (c:=6) (k:=((l.take j).filter fun x=>!p x).length) (enc:=evC) (v:=l[j]) (by omega) (by rw[eF]; omega) rfl (Nat.le_refl _)) ?_
     refine aD (hK13 _ (aB ?_))
     rw[jQ (fun x=>!p x) l j (by omega) (by simp_all)]
     refine aE aA 1 rfl ?_
     refine aF rfl (bJ rfl rfl (by omega) (by omega)) ?_
     rw[lR (fun x=>!p x) l j (by omega) (by simp_all)]
     refine aE aA 1 rfl ?_
     refine bB ?_
     refine hK10 _ (aB (aE aA 1 rfl ?_))
     refine aF rfl (bJ rfl rfl (by omega) (by omega)) ?_
     refine aE aA 1 rfl (aD ?_)
     exact⟨j+1,(by omega),by omega,dN rfl⟩
    ·
     simp only[bs] at hc3
     rw[jR (fun x=>!p x) l j (by omega) (by simp_all),lS (fun x=>!p x) l j (by omega) (by simp_all)]
     refine aL (hK10 _ (aB (aE aA 1 rfl ?_)))
     refine aF rfl (bJ rfl rfl (by omega) (by omega)) ?_
     refine aE aA 1 rfl (aD ?_)
     exact⟨j+1,(by omega),by omega,dN rfl⟩
   ·
    simp only[bs] at hc2
    refine bA (hK6 _ (aC (fun K14 hK14=>(aB (aE aA 2 rfl ?_)))))
    refine aF rfl (eG rfl jA dC rfl rfl (by omega) (by omega)) ?_
    refine tU hf mA lA (by simp [Value.oneCell']) rfl rfl ?_
    refine aD (hK14 _ (aC (fun K15 hK15=>(aB (aE aA 2 rfl ?_)))))
    refine aF rfl (eG rfl jA dC rfl rfl (by omega) (by omega)) ?_
    refine aE aA 1 rfl (aD (hK15 _ (aJ ?_)))
    have hjl:l.length≤j:=by omega
    have he:=mV (fun x=>!p x) l j hjl
    refine⟨_,_,_,Le.refl _,rfl,rfl,?_,?_⟩
    · rw[List.take_of_length_le hjl]; rfl
    · rw[List.take_of_length_le hjl,Nat.zero_add,Int.toNat_natCast,← List.map_take,he]
theorem aQj (e:Ev) (u:ByteArray) :Den Tryz.prog 65 [.agg (evC e),.s (.string u)]  (·=.s (.bool (aFa u e))):=by
 refine aS Tryz.func65 rfl (Nat.le_of_ble_eq_true rfl) (fun w0 A hf=>(aC (fun K1 hK1=>(aB (aK hf rfl (cL rfl rfl (lf rfl)) (aE aA 1 rfl (aD (hK1 _ (aC (fun K2 hK2=>(aB (aE aA 5 rfl (aY rfl rfl rfl (fun hg1=>?_) (fun hg1=>?_))))))))))))))
 ·
  simp only[bs] at hg1
  refine aF rfl (bZ rfl tI cJ rfl) ?_
  refine aE aA 5 rfl (aD (hK2 _ (aJ ?_)))
  refine⟨_,rfl,?_⟩
  refine aV ?_
  rw[Bool.eq_iff_iff]
  simp_all[aFa,toList_inj]
 ·
  simp only[bs] at hg1
  refine aE aA 5 rfl (aD (hK2 _ (aJ ?_)))
  refine⟨_,rfl,?_⟩
  refine aV ?_
  rw[Bool.eq_iff_iff]
  simp_all[aFa,toList_inj]
theorem zV (e:Ev) (u:ByteArray) :Den Tryz.prog 64 [.agg (evC e),.adr [.s (.string u)]]  (·=.s (.bool (aFa u e))):=by
 refine aS Tryz.func64 rfl (Nat.le_of_ble_eq_true rfl) (fun w0 A hf=>(aC (fun K1 hK1=>(aB (aK hf rfl (cL rfl rfl (lf rfl)) (aE aA 1 rfl (aD (hK1 _ (aC (fun K2 hK2=>(aB (aE aA 2 rfl (aK hf rfl (aR rfl rfl aNp rfl (aQj e u)) (aE aA 1 rfl (aD ?_)))))))))))))))
 refine hK2 _ (aJ ?_)
 refine⟨_,rfl,?_⟩
 rfl
theorem aDm (l:List Ev) (u:ByteArray) (hl:l.length≤1000) :Den Tryz.prog 26 [.s (.string u),.sl 6 (l.map evC)]  (·=.sl 6 ((aGz u l).map evC)):=by
 refine aS Tryz.func26 rfl (Nat.le_of_ble_eq_true rfl) (fun w0 A hf=>(aC (fun K1 hK1=>(aB (aK hf rfl (cL rfl rfl (lf rfl)) (aF rfl (bE) (aD (hK1 _ (aC (fun K2 hK2=>(aB (aE aA 1 rfl (gW hf rfl rfl rfl rfl rfl aNr rfl (aJd l (by omega)) ?_)))))))))))))
 rintro _ rfl
 refine aF rfl (iJ rfl) (gA hf 6 rfl rfl rfl rfl rfl aNs (yD aNq rfl (fun _=>rfl) (aFa u) l _ (by rw[List.length_map]) (by omega) (fun x _=>zV x u)) ?_)
 rintro r zs ⟨rfl,rfl⟩
 refine aE aA 1 rfl (aD (hK2 _ (aJ ?_)))
 refine⟨_,rfl,?_⟩
 exact bV (g:=6) rfl (by rw[List.length_map]; rfl)
theorem aIh (a b:Ev) :Den Tryz.prog 56 [.agg (evC a),.agg (evC b)]  (·=.s (.int .i64 (iN a.at' b.at'))):=by
 refine aS Tryz.func56 rfl (Nat.le_of_ble_eq_true rfl) (fun w0 A hf=>(aC (fun K1 hK1=>(aB (aK hf rfl (cL rfl rfl (lf rfl)) (aK hf rfl (cL rfl rfl (lf rfl)) (aE aA 1 rfl (aD (hK1 _ (aC (fun K2 hK2=>(aB (aE aA 4 rfl (aK hf rfl (aR rfl rfl lL rfl (hZ a.at' b.at')) (aE aA 1 rfl ?_)))))))))))))))
 refine aD (hK2 _ (aJ ?_))
 refine⟨_,rfl,?_⟩
 rfl
theorem aE0 {x:Ev} {l:List Ev} {k:Nat} (hk:k<l.length):sG (l.take (k+1)) x=if (sG (l.take k) x).at'<l[k].at' then l[k] else sG (l.take k) x:=by
  rw[List.take_succ_eq_append_getElem hk]
  have:∀ (a:List Ev) (m y:Ev),sG (a++[y]) m=if (sG a m).at'<y.at' then y else sG a m:=fun a=>by
    induction a with
    | nil=>intro m y; rfl
    | cons z a ih=>intro m y; exact ih _ y
  exact this _ _ _
theorem aJp {a b:Int}:0<iN a b↔b<a:=by unfold iN; split <;> (try split) <;> omega
theorem aP6 (x:Ev) (r:List Ev) (hl:r.length≤1000) :Den Tryz.prog 55 [.sl 6 ((x::r).map evC),.fn 56 []]  (·=.agg (evC (sG r x))):=by
 have hlx:((x::r).map evC).length=r.length+1:=by simp
 refine aS Tryz.func55 rfl (Nat.le_of_ble_eq_true rfl) (fun w0 A hf=>(aC (fun K1 hK1=>(aB (bQ hf rfl rfl rfl lA (aD (hK1 _ (aC (fun K2 hK2=>(aC (fun K3 hK3=>(aB (aE aA 3 rfl (aD (hK3 _ (aI rfl (fun hc1=>?_) (fun hc1=>?_)))))))))))))))))
 ·
  simp only[bs] at hc1
  omega
 ·
  simp only[bs] at hc1
  refine aL (hK2 _ (aC (fun K4 hK4=>(aB (aE aA 1 rfl ?_)))))
  refine aF rfl (aW rfl rfl jA dC (by first | exact ixm (by omega) | assumption | exact⟨by decide,rfl⟩)) ?_
  refine aE aA 1 rfl (bQ hf rfl rfl rfl lA (aP hf rfl rfl dC rfl rfl (l1 rfl) (l4 rfl) rfl (aD (hK4 _ (aC (fun K5 hK5=>(aC (fun K6 hK6=>(aB (aE aA 1 rfl (aD (hK6 _ (aO (bS (ι:=Nat) (fun k=>⟨33,[(0,.sl 6 ((x::r).map evC)),(1,.fn 56 []),(4,.ref 4 0 0 0),(5,.ref 5 0 0 0),(6,.s (.int .i64 ((k+1:Nat))))],[(5,.box (evC (sG (r.take k) x))),(4,.box (evC ev0))]⟩) (fun k=>k≤r.length) (fun k=>r.length - k) 0 ?_ ?_ ?_))))))))))))))
  · exact Nat.zero_le _
  · exact bT ⟨rfl,rfl,rfl,rfl,rfl,trivial⟩ rfl
  ·
   rintro k hC
   refine aC (fun K7 hK7=>(aC (fun K8 hK8=>(aB (aE aA 4 rfl (aD (hK8 _ (aI rfl (fun hc2=>?_) (fun hc2=>?_)))))))))
   ·
    simp only[bs] at hc2
    have hk:k<r.length:=by omega
    have hk1:k+1<(x::r).length:=by simp only[List.length_cons]; omega
    refine aL (hK7 _ (aC (fun K9 hK9=>(aO (aC (fun K10 hK10=>(eQ hf bN (by kernel_rfl) rfl (bL aA 3 rfl (bY [(21,_),(22,_)] rfl rfl ⟨⟨rfl,rfl⟩,⟨rfl,rfl⟩,trivial⟩ rfl (aW rfl rfl jA dC (aR7 hk)) (bL aA 2 rfl (cA [(20,_),(24,_),(25,_)] rfl rfl ⟨⟨rfl,rfl⟩,⟨rfl,rfl⟩,⟨rfl,rfl⟩,trivial⟩ rfl (aR rfl rfl aNt rfl (aIh r[k] (sG (r.take k) x))) (bL aA 1 rfl (gE [0,1,4,5,6,27] rfl rfl rfl (hK10 _ ?_))))))))))))))
    refine aI rfl (fun hc3=>?_) (fun hc3=>?_)
    ·
     simp only[bs] at hc3
     refine aB (aE aA 2 rfl (aF rfl (aW rfl rfl jA dC (aR7 hk)) (aE aA 1 rfl (aP hf rfl rfl dC rfl rfl (l1 rfl) (l4 rfl) rfl ?_))))
     refine bB ?_
     refine hK9 _ (aB (aE aA 1 rfl ?_))
     refine aF rfl (bJ rfl rfl (by omega) (by omega)) ?_
     refine aE aA 1 rfl (aD ?_)
     exact⟨k+1,by omega,by omega,bT ⟨rfl,rfl,rfl,rfl,aM (by omega),trivial⟩ (by rw[aE0 hk,if_pos (aJp.1 (by assumption))]; rfl)⟩
    ·
     simp only[bs] at hc3
     refine aL (hK9 _ (aB (aE aA 1 rfl ?_)))
     refine aF rfl (bJ rfl rfl (by omega) (by omega)) ?_
     refine aE aA 1 rfl (aD ?_)
     exact⟨k+1,by omega,by omega,bT ⟨rfl,rfl,rfl,rfl,aM (by omega),trivial⟩ (by rw[aE0 hk,if_neg (fun h=>by have:=aJp.2 h; omega)])⟩
   ·
    simp only[bs] at hc2
    refine bA (hK5 _ (aC (fun K11 hK11=>(aB (aE aA 1 rfl (aP hf rfl rfl dC rfl rfl (l1 rfl) (l4 rfl) rfl (aD (hK11 _ (aJ ?_)))))))))
    refine⟨_,rfl,?_⟩
    show AV.agg (evC _)=_
    rw[List.take_of_length_le (by omega)]
end Go.Proofs.YtijnkglkchhomaaGreat
set_option linter.unusedVariables false
set_option linter.unusedSimpArgs false
namespace Go.Proofs.YtijnkglkchhomaaGreat
open Go Go.Abs
theorem aeq_ev (e:Ev):aeqL [.int .i64,.int .i64,.str,.str,.int .i64,.int .i64] (evC e) (evC e)=some (true,[],[]):=by
  refine Eq.trans (show _=some ((e.kind == e.kind&&(e.at' == e.at'&&(e.user.toList == e.user.toList&&(e.other.toList == e.other.toList&&(e.n == e.n&&(e.st == e.st&&true)))))),[],[]) from rfl) ?_
  simp only[beq_self_eq_true,Bool.and_true]
end Go.Proofs.YtijnkglkchhomaaGreat
set_option linter.unusedVariables false
set_option linter.unusedSimpArgs false
namespace Go.Proofs.YtijnkglkchhomaaGreat
open Go Go.Abs
theorem uF (l:List Ev) (hl:l.length*64+64≤140737488355328) :Den Tryz.prog 14 [.sl 6 (l.map evC)]  (·=.sl 6 (l.map evC)):=by
 refine aS Tryz.func14 rfl (Nat.le_of_ble_eq_true rfl) (fun w0 A hf=>(aC (fun K1 hK1=>(aB (aF rfl (bE) (aD (hK1 _ (aC (fun K2 hK2=>(aB (jK hf 6 rfl rfl rfl (aD (hK2 _ (aC (fun K3 hK3=>(aC (fun K4 hK4=>?_)))))))))))))))))
 refine aB (aE aA 3 rfl (aD (hK4 _ (aO (bS (ι:=Nat) (fun k=>⟨18,[(3,.own 3 6 0 (l.take k).length),(6,.sl 6 (l.map evC)),(7,.s (.int .i64 ((l.map evC).length:Nat))),(8,.s (.int .i64 (k:Nat)))],[(3,.buf 6 ((l.take k).map evC))]⟩) (fun k=>k≤l.length) (fun k=>l.length - k) 0 ?_ ?_ ?_)))))
 · exact Nat.zero_le _
 · exact dN rfl
 ·
  rintro k hC
  refine aC (fun K5 hK5=>(aB (aE aA 1 rfl (aD (hK5 _ (aC (fun K6 hK6=>(aI rfl (fun hc1=>?_) (fun hc1=>?_)))))))))
  ·
   simp only[bs] at hc1
   refine aL (hK6 _ (aC (fun K7 hK7=>(aO (aC (fun K8 hK8=>(aB ?_)))))))
   refine aF rfl (aW rfl rfl gV gL (by first | exact ixm (by omega) | assumption | exact⟨by decide,rfl⟩)) ?_
   refine aE aA 1 rfl (cH hf rfl aSv rfl gL rfl rfl rfl rfl (lf rfl) (aD (hK8 _ (aB ?_))))
   have htl:(l.take k).length=k:=by rw[List.length_take]; omega
   refine aE aA 2 rfl (aK hf rfl (aN mA rfl rfl rfl rfl (l2 rfl)) (aT hf rfl mA rfl rfl rfl (.inl rfl) (by rw[List.length_map]) rfl (by first | rfl | simp [cV,bF]) (by first | (simp only[maxLen,List.length_map,List.length_append,List.length_cons,List.length_nil]; omega) | (simp [maxLen] <;> omega)) (by first | (simp only[List.length_map,List.length_append,List.length_cons,List.length_nil]; omega) | (simp <;> omega)) ?_))
   refine aQ (cD [6,7,8,15] rfl) (aE aA 1 rfl ?_)
   refine bB ?_
   refine hK7 _ (aB ?_)
   refine aF rfl (bJ rfl rfl (by omega) (by omega)) ?_
   refine aE aA 1 rfl (aD ?_)
   exact⟨k+1,by omega,by omega,bT ⟨(by rw[aEk l k (by omega)]; rfl),rfl,rfl,rfl,trivial⟩ (by rw[aG7 l evC k (by omega)]; rfl)⟩
  ·
   simp only[bs] at hc1
   refine bA (hK3 _ (aC (fun K9 hK9=>(aB (aE aA 2 rfl (aD (hK9 _ (aJ ?_))))))))
   refine⟨_,rfl,?_⟩
   refine(bV (g:=3) rfl (by rw[List.length_map])).trans ?_
   rw[List.take_of_length_le (by omega)]
end Go.Proofs.YtijnkglkchhomaaGreat
set_option linter.unusedVariables false
set_option linter.unusedSimpArgs false
namespace Go.Proofs.YtijnkglkchhomaaGreat
open Go Go.Abs
end Go.Proofs.YtijnkglkchhomaaGreat
set_option linter.unusedVariables false
set_option linter.unusedSimpArgs false
namespace Go.Proofs.YtijnkglkchhomaaGreat
open Go Go.Abs
end Go.Proofs.YtijnkglkchhomaaGreat
set_option linter.unusedVariables false
set_option linter.unusedSimpArgs false
namespace Go.Proofs.YtijnkglkchhomaaGreat
open Go Go.Abs
end Go.Proofs.YtijnkglkchhomaaGreat
set_option linter.unusedVariables false
set_option linter.unusedSimpArgs false
namespace Go.Proofs.YtijnkglkchhomaaGreat
open Go Go.Abs
end Go.Proofs.YtijnkglkchhomaaGreat
set_option linter.unusedVariables false
set_option linter.unusedSimpArgs false
namespace Go.Proofs.YtijnkglkchhomaaGreat
open Go Go.Abs
end Go.Proofs.YtijnkglkchhomaaGreat
set_option linter.unusedVariables false
set_option linter.unusedSimpArgs false
namespace Go.Proofs.YtijnkglkchhomaaGreat
open Go Go.Abs
end Go.Proofs.YtijnkglkchhomaaGreat
set_option linter.unusedVariables false
set_option linter.unusedSimpArgs false
namespace Go.Proofs.YtijnkglkchhomaaGreat
open Go Go.Abs
end Go.Proofs.YtijnkglkchhomaaGreat
set_option linter.unusedVariables false
set_option linter.unusedSimpArgs false
namespace Go.Proofs.YtijnkglkchhomaaGreat
open Go Go.Abs
end Go.Proofs.YtijnkglkchhomaaGreat
set_option linter.unusedVariables false
set_option linter.unusedSimpArgs false
namespace Go.Proofs.YtijnkglkchhomaaGreat
open Go Go.Abs
end Go.Proofs.YtijnkglkchhomaaGreat
set_option linter.unusedVariables false
set_option linter.unusedSimpArgs false
namespace Go.Proofs.YtijnkglkchhomaaGreat
open Go Go.Abs
end Go.Proofs.YtijnkglkchhomaaGreat
set_option linter.unusedVariables false
set_option linter.unusedSimpArgs false
namespace Go.Proofs.YtijnkglkchhomaaGreat
open Go Go.Abs
end Go.Proofs.YtijnkglkchhomaaGreat
set_option linter.unusedVariables false
set_option linter.unusedSimpArgs false
namespace Go.Proofs.YtijnkglkchhomaaGreat
open Go Go.Abs
theorem aIi  :Den Tryz.prog 18 [.sl 6 (([]:List Ev).map evC)]  (·=.tup [.s (.int .i64 0),.s (.bool false)]):=by
 refine aS Tryz.func18 rfl (Nat.le_of_ble_eq_true rfl) (fun w0 A hf=>(aC (fun K1 hK1=>(aB (aE aA 2 rfl (aD (hK1 _ (aC (fun K2 hK2=>(aC (fun K3 hK3=>(aB (aE aA 3 rfl (aD (hK3 _ (cS rfl ?_))))))))))))))))
 refine aC (fun K4 hK4=>(aB (aE aA 2 rfl (aD (hK4 _ (aJ ?_))))))
 refine⟨_,rfl,?_⟩
 rfl
theorem aIg (x:Ev) (r:List Ev) (hl:r.length≤1000) :Den Tryz.prog 18 [.sl 6 ((x::r).map evC)]  (·=.tup [.s (.int .i64 (sG r x).at'),.s (.bool true)]):=by
 have hlx:((x::r).map evC).length=r.length+1:=by simp
 refine aS Tryz.func18 rfl (Nat.le_of_ble_eq_true rfl) (fun w0 A hf=>(aC (fun K1 hK1=>(aB (aE aA 2 rfl (aD (hK1 _ (aC (fun K2 hK2=>(aC (fun K3 hK3=>(aB (aE aA 3 rfl (aD (hK3 _ (aI rfl (fun hc1=>?_) (fun hc1=>?_)))))))))))))))))
 ·
  simp only[bs] at hc1
  omega
 ·
  simp only[bs] at hc1
  refine aL (hK2 _ (aC (fun K4 hK4=>(aB (aE aA 1 rfl (aK hf rfl (aR rfl rfl aNu rfl (aP6 x r hl)) (aE aA 3 rfl (aD (hK4 _ (aJ ?_))))))))))
  refine⟨_,rfl,?_⟩
  rfl
theorem aCd (l:List Ev) (hl:l.length≤1000):Den Tryz.prog 18 [.sl 6 (l.map evC)] (·=.tup [.s (.int .i64 (lateA l)),.s (.bool (!l.isEmpty))]):=by
  match l,hl with
  | [],_=>exact aIi
  | x::r,hl=>exact aIg x r (by simp only[List.length_cons] at hl; omega)
theorem zB  :Den Tryz.prog 13 []  (·=.s (.bool true)):=by
 refine aS Tryz.func13 rfl (Nat.le_of_ble_eq_true rfl) (fun w0 A hf=>(aC (fun K1 hK1=>(aB (aE aA 1 rfl (aD (hK1 _ (aC (fun K2 hK2=>(aB (aF rfl (bO rfl lA uL (l3 rfl) rfl) (aF rfl (bO rfl lA uL (l3 rfl) rfl) (aF rfl (bO rfl lA uL (l3 rfl) rfl) ?_)))))))))))))
 skip
 refine aK hf rfl (aN mA rfl rfl rfl rfl (l2 rfl)) (aE aA 1 rfl (aD (hK2 _ (aC (fun K3 hK3=>(aB (aF rfl (bO rfl cK oQ (l3 rfl) rfl) (aQ (iS fW) (aE aA 1 rfl (aK hf rfl (aR rfl rfl sD rfl ((show Den Tryz.prog _ _ (·=.tup [.agg (bU afS),.sl 1 (dX [0,100,0])]) from iM (wT cU [aEd,aEc,aC3] (xL _) jG (by decide) (by decide)) (by rw[af_1,af_2])))) ?_))))))))))
 refine aE aA 3 rfl (cH hf rfl cK rfl cW rfl rfl rfl rfl (lf rfl) (aE aA 1 rfl (aD (hK3 _ (aC (fun K4 hK4=>(aB (aF rfl (bO rfl cK oQ (l3 rfl) rfl) (aQ (iS fW) (aE aA 1 rfl (aK hf rfl (aR rfl rfl aN4 rfl ((show Den Tryz.prog _ _ (·=.sl 6 ([aEd,aC3].map evC)) from iM (aO5 cU [aEd,aEc,aC3] (xL _) jG (by decide) (by decide)) (by rw[af_3])))) ?_)))))))))))
 refine aE aA 1 rfl (aD (hK4 _ (aC (fun K5 hK5=>(aB (aE aA 1 rfl (aK hf rfl (aR rfl rfl aDg rfl ((show Den Tryz.prog _ _ (·=.tup [.s (.int .i64 5),.s (.bool true)]) from aCd [aEd,aEc,aC3] (by decide)))) (aE aA 5 rfl (aD (hK5 _ (aC (fun K6 hK6=>(aB (aK hf rfl (aR rfl rfl aDg rfl (aSc (aCd [] (by decide)))) ?_))))))))))))))
 refine aE aA 5 rfl (aD (hK6 _ (aC (fun K7 hK7=>(eQ hf bN (by kernel_rfl) rfl (bL aA 5 rfl ?_))))))
 refine bY [(35,_)] rfl rfl ⟨⟨rfl,rfl⟩,trivial⟩ rfl (aW rfl rfl tR tS (by first | assumption | (refine⟨by omega,?_⟩; first | assumption | exact fP (by omega) | exact fP (by simp only[List.length_cons] at *; omega) | exact mJ (by omega) | exact oB (by omega) | exact mH (by omega)) | exact⟨by decide,rfl⟩)) ?_
 refine bL aA 5 rfl ?_
 refine bY [(41,_)] rfl rfl ⟨⟨rfl,rfl⟩,trivial⟩ rfl (aW rfl rfl tR tS (by first | assumption | (refine⟨by omega,?_⟩; first | assumption | exact fP (by omega) | exact fP (by simp only[List.length_cons] at *; omega) | exact mJ (by omega) | exact oB (by omega) | exact mH (by omega)) | exact⟨by decide,rfl⟩)) ?_
 refine bL aA 5 rfl ?_
 refine bY [(47,_)] rfl rfl ⟨⟨rfl,rfl⟩,trivial⟩ rfl (aW rfl rfl tR tS (by first | assumption | (refine⟨by omega,?_⟩; first | assumption | exact fP (by omega) | exact fP (by simp only[List.length_cons] at *; omega) | exact mJ (by omega) | exact oB (by omega) | exact mH (by omega)) | exact⟨by decide,rfl⟩)) ?_
 refine bL aA 5 rfl (cA [(53,_)] rfl rfl ⟨⟨rfl,rfl⟩,trivial⟩ rfl (aR rfl rfl aN1 rfl ((show Den Tryz.prog _ _ (·=.sl 4 (List.map stC [((3,5),(1,1))])) from iM (aHd afS aM7 9 (⟨by decide,by decide,by decide,by decide,by decide⟩) (by decide) (RightP.usr aQt)) (by rw[af_5])))) ?_)
 refine bL aA 10 rfl ?_
 refine bY [(64,_)] rfl rfl ⟨⟨rfl,rfl⟩,trivial⟩ rfl (aW rfl rfl jA dC (by first | assumption | (refine⟨by omega,?_⟩; first | assumption | exact fP (by omega) | exact fP (by simp only[List.length_cons] at *; omega) | exact mJ (by omega) | exact oB (by omega) | exact mH (by omega)) | exact⟨by decide,rfl⟩)) ?_
 refine bL aA 2 rfl ?_
 refine bY [(67,_)] rfl rfl ⟨⟨rfl,rfl⟩,trivial⟩ rfl (aW rfl rfl jA dC (by first | assumption | (refine⟨by omega,?_⟩; first | assumption | exact fP (by omega) | exact fP (by simp only[List.length_cons] at *; omega) | exact mJ (by omega) | exact oB (by omega) | exact mH (by omega)) | exact⟨by decide,rfl⟩)) ?_
 refine bL aA 1 rfl (bY [(66,_),(69,_)] rfl rfl ⟨⟨rfl,rfl⟩,⟨rfl,rfl⟩,trivial⟩ rfl (iR rfl rfl iD (aeq_ev aC3)) ?_)
 skip
 refine bL aA 3 rfl (cA [(73,_)] rfl rfl ⟨⟨rfl,rfl⟩,trivial⟩ rfl (aR rfl rfl aN2 rfl ((show Den Tryz.prog _ _ (·=.sl 6 ([aEc].map evC)) from iM (aDm [aEd,aEc,aC3] aM7 (by decide)) (by rw[af_4])))) ?_)
 refine bL aA 15 rfl (gE [0] rfl rfl rfl (hK7 _ (aJ ?_)))
 refine⟨_,rfl,?_⟩
 rfl
end Go.Proofs.YtijnkglkchhomaaGreat
set_option linter.unusedVariables false
set_option linter.unusedSimpArgs false
namespace Go.Abs
open Go
end Go.Abs
set_option linter.unusedVariables false
set_option linter.unusedSimpArgs false
namespace Go.Abs
open Go
def erB (u:ByteArray) (e:Ev):Bool:=decide (e.kind=7)&&decide (e.user=u)
def vD (u:ByteArray):List Ev→List Ev
  | []=>[]
  | e::r=>if r.any (erB u)=true then vD u r else if erB u e=true then r else e::r
theorem aOd (u:ByteArray) (x:Ev):∀ r:List Ev,vD u (r++[x])=if erB u x=true then [] else vD u r++[x]
  | []=>by
    show (if ([]:List Ev).any (erB u)=true then vD u [] else if erB u x=true then [] else [x])=_
    simp [vD]
  | y::r=>by
    show (if (r++[x]).any (erB u)=true then vD u (r++[x]) else if erB u y=true then r++[x] else y::(r++[x]))=_
    rw[aOd u x r,vD,List.any_append]
    by_cases hx:erB u x=true
    · simp [hx]
    · by_cases hr:r.any (erB u)=true
      · simp [hx,hr]
      · by_cases hy:erB u y=true
        · simp [hx,hr,hy]
        · simp [hx,hr,hy]
end Go.Abs
set_option linter.unusedVariables false
set_option linter.unusedSimpArgs false
namespace Go.Abs
open Go
def grB (p:Pr) (e:Ev):Bool:=decide (e.kind=4)&&(decide (e.user=p.1)&&decide (e.other=p.2))
def rvB (p:Pr) (e:Ev):Bool:=decide (e.kind=5)&&(decide (e.user=p.1)&&decide (e.other=p.2))
def erP (p:Pr) (e:Ev):Bool:=erB p.1 e||erB p.2 e
def rvO (p:Pr):List Ev→Option Int
  | []=>none
  | x::r=>if rvB p x=true then some x.at' else rvO p r
def xS (p:Pr):List Ev→List Sp
  | []=>[]
  | e::r=>(if grB p e=true then [(e.at',(rvO p r).getD 1099511627776)] else [])++xS p r
def opG (p:Pr):List Ev→List Ev
  | []=>[]
  | e::r=>(if grB p e=true∧rvO p r=none then [e] else [])++opG p r
def clG (p:Pr):List Ev→List Sp
  | []=>[]
  | e::r=>(if grB p e=true then (match rvO p r with | some t=>[(e.at',t)] | none=>[]) else [])++clG p r
def rM (p:Pr):List Ev→List Ev
  | []=>[]
  | e::r=>if r.any (erP p)=true then rM p r else if erP p e=true then r else e::r
theorem aAs {p:Pr} {sp:Sp}:∀ {r:List Ev},sp∈xS p r↔sp∈clG p r∨∃ g∈opG p r,sp=(g.at',1099511627776)
  | []=>by simp [xS,clG,opG]
  | e::r=>by
    have ih:=aAs (p:=p) (sp:=sp) (r:=r)
    simp only[xS,clG,opG,List.mem_append,ih]
    by_cases hb:grB p e=true
    · cases he:rvO p r with
      | none =>
        simp only[hb,if_true,and_self,Option.getD_none,List.mem_singleton,List.not_mem_nil,false_or]
        constructor
        · rintro (h | h | ⟨g,h1,h2⟩)
          · exact .inr ⟨e,.inl rfl,h⟩
          · exact .inl h
          · exact .inr ⟨g,.inr h1,h2⟩
        · rintro (h | ⟨g,rfl | h1,h2⟩)
          · exact .inr (.inl h)
          · exact .inl h2
          · exact .inr (.inr ⟨g,h1,h2⟩)
      | some t =>
        simp only[hb,if_true,reduceCtorEq,and_false,if_false,Option.getD_some,List.mem_singleton,List.not_mem_nil,false_or]
        constructor
        · rintro (h | h | h)
          · exact .inl (.inl h)
          · exact .inl (.inr h)
          · exact .inr h
        · rintro ((h | h) | h)
          · exact .inl h
          · exact .inr (.inl h)
          · exact .inr (.inr h)
    · simp only[hb,if_false,false_and,List.not_mem_nil,false_or,Bool.false_eq_true]
theorem aMb (p:Pr) (x:Ev):∀ r:List Ev,rvO p (r++[x])=(match rvO p r with | some t=>some t | none=>if rvB p x=true then some x.at' else none)
  | []=>by simp only[List.nil_append,rvO]
  | y::r=>by
    show (if rvB p y=true then some y.at' else rvO p (r++[x]))=_
    rw[rvO]
    by_cases h:rvB p y=true
    · rw[if_pos h,if_pos h]
    · rw[if_neg h,if_neg h]; exact aMb p x r
theorem aAt (p:Pr) (x:Ev):∀ r:List Ev,opG p (r++[x])=(if rvB p x=true then [] else opG p r)++(if grB p x=true then [x] else [])
  | []=>by
    show (if grB p x=true∧rvO p []=none then [x] else [])++[]=_
    by_cases h:grB p x=true <;> simp [h,rvO,opG]
  | y::r=>by
    show (if grB p y=true∧rvO p (r++[x])=none then [y] else [])++opG p (r++[x])=_
    rw[aAt p x r,opG,aMb]
    cases he:rvO p r <;> by_cases hr:rvB p x=true <;> by_cases h:grB p y=true <;> simp [hr,h]
theorem aAy {p:Pr} {x:Ev} {sp:Sp}:∀ {r:List Ev},sp∈clG p (r++[x])↔sp∈clG p r∨(rvB p x=true∧∃ g∈opG p r,sp=(g.at',x.at'))
  | []=>by
    show sp∈(if grB p x=true then (match rvO p [] with | some t=>[(x.at',t)] | none=>[]) else [])++[]↔_
    simp [rvO,clG,opG]
  | y::r=>by
    have ih:=aAy (p:=p) (x:=x) (sp:=sp) (r:=r)
    show sp∈(if grB p y=true then (match rvO p (r++[x]) with | some t=>[(y.at',t)] | none=>[]) else [])++clG p (r++[x])↔_
    rw[List.mem_append,ih,aMb,clG,opG,List.mem_append]
    by_cases h:grB p y=true
    · cases he:rvO p r with
      | some t =>
        have hy:¬ (grB p y=true∧some t=(none:Option Int)):=by rintro ⟨_,h⟩; cases h
        rw[if_pos h,if_neg hy]
        simp only[List.nil_append,List.mem_singleton,or_assoc]
      | none =>
        have hy:grB p y=true∧(none:Option Int)=none:=⟨h,rfl⟩
        rw[if_pos h,if_pos hy]
        by_cases hr:rvB p x=true
        · simp only[hr,h,ite_self,if_true,List.mem_singleton,List.not_mem_nil,false_or,true_and,List.mem_append]
          constructor
          · rintro (h | h | ⟨g,h1,h2⟩)
            · exact .inr ⟨y,.inl rfl,h⟩
            · exact .inl h
            · exact .inr ⟨g,.inr h1,h2⟩
          · rintro (h | ⟨g,rfl | h1,h2⟩)
            · exact .inr (.inl h)
            · exact .inl h2
            · exact .inr (.inr ⟨g,h1,h2⟩)
        · simp only[hr,ite_self,if_false,List.not_mem_nil,false_or,false_and,or_false,Bool.false_eq_true]
    · have hy:¬ (grB p y=true∧rvO p r=none):=fun k=>h k.1
      rw[if_neg h,if_neg hy]
      simp only[h,if_false,Bool.false_eq_true,List.not_mem_nil,false_or,List.nil_append]
theorem aBc (p:Pr) (x:Ev):∀ r:List Ev,rM p (r++[x])=if erP p x=true then [] else rM p r++[x]
  | []=>by
    show (if ([]:List Ev).any (erP p)=true then rM p [] else if erP p x=true then [] else [x])=_
    simp [rM]
  | y::r=>by
    show (if (r++[x]).any (erP p)=true then rM p (r++[x]) else if erP p y=true then r++[x] else y::(r++[x]))=_
    rw[aBc p x r,rM,List.any_append]
    by_cases hx:erP p x=true
    · simp [hx]
    · by_cases hr:r.any (erP p)=true
      · simp [hx,hr]
      · by_cases hy:erP p y=true
        · simp [hx,hr,hy]
        · simp [hx,hr,hy]
structure PeI (p:Pr) (r:List Ev) (s:Sta):Prop where
  o:∀ f,(∃ e∈s.sub,e.1=p∧e.2.2=1099511627776∧e.2.1=f)↔∃ g∈opG p r,g.at'=f
  c:∀ sp:Sp,(∃ e∈s.sub,e.1=p∧e.2.2≠1099511627776∧e.2=sp)↔sp∈clG p r∧sp.1<sp.2
theorem rU {p:Pr} {r:List Ev} {s s':Sta} {x:Ev} (hI:PeI p r s) (hs:∀ e:En,e.1=p→(e∈s'.sub↔e∈s.sub)) (h1:grB p x=false) (h2:rvB p x=false):PeI p (r++[x]) s':=by
  refine⟨fun f=>?_,fun sp=>?_⟩
  · rw[aAt,h1,h2]
    simp only[Bool.false_eq_true,if_false,List.append_nil,← hI.o f]
    constructor
    · rintro ⟨e,he,h,k⟩; exact⟨e,(hs e h).1 he,h,k⟩
    · rintro ⟨e,he,h,k⟩; exact⟨e,(hs e h).2 he,h,k⟩
  · rw[aAy,h2]
    simp only[Bool.false_eq_true,false_and,or_false,← hI.c sp]
    constructor
    · rintro ⟨e,he,h,k⟩; exact⟨e,(hs e h).1 he,h,k⟩
    · rintro ⟨e,he,h,k⟩; exact⟨e,(hs e h).2 he,h,k⟩
theorem aEt {p:Pr} {t:Int}:∀ {l:List En},onB l p=true→∃ pre f post,l=pre++f::post∧dY p f=true∧(∀ y∈pre,dY p y=false)∧jH l p t=pre++(nI f t++post)
  | [],h=>by simp [onB] at h
  | x::l,h=>by
    by_cases hx:dY p x=true
    · exact⟨[],x,l,rfl,hx,by simp,by rw[jH,if_pos hx]; rfl⟩
    · have hl:onB l p=true:=by
        simp only[onB,List.any_cons,Bool.or_eq_true] at h ⊢
        exact h.resolve_left hx
      obtain ⟨pre,f,post,e1,e2,e3,e4⟩:=aEt (t:=t) hl
      refine⟨x::pre,f,post,by rw[e1]; rfl,e2,fun y hy=>?_,by rw[jH,if_neg hx,e4]; rfl⟩
      rcases List.mem_cons.1 hy with rfl | hy
      · exact Bool.eq_false_iff.2 hx
      · exact e3 y hy
theorem aMv {p:Pr} {pre post:List En} {f:En} (hr:aFs (pre++f::post)=true) (hf:dY p f=true):∀ y∈post,dY p y=false:=fun y hy=>by
  obtain ⟨h1,h2⟩:=(oU _).1 hr
  obtain ⟨_,p2,_⟩:=List.pairwise_append.1 h2
  have hR:=(List.pairwise_cons.1 p2).1 y hy
  cases hc:dY p y with
  | false=>rfl
  | true =>
    exfalso
    obtain ⟨a1,a2⟩:=rF.1 hf
    obtain ⟨b1,b2⟩:=rF.1 hc
    have h3:=hR.2 (a1.trans b1.symm)
    have h4:=h1 y (by simp [hy])
    simp only[okE,Bool.and_eq_true,decide_eq_true_eq] at h4
    have:=h4.1
    omega
theorem pe_step {p:Pr} {l:List Ev} {s:Sta} {x:Ev} (h:RightP s) (hI:PeI p (rM p l) s) (h0:(bI s x).2=0):PeI p (rM p (l++[x])) (bI s x).1:=by
  obtain ⟨he,hn,h2,e1⟩:=aJv h0
  obtain ⟨t0,t1⟩:=ev_at he
  have hno:∀ k:Int,x.kind=k→k≠4→grB p x=false:=fun k hk h4=>by simp [grB,hk,h4]
  have hno5:∀ k:Int,x.kind=k→k≠5→rvB p x=false:=fun k hk h4=>by simp [rvB,hk,h4]
  have her:x.kind≠7→erP p x=false:=fun hk=>by simp [erP,erB,hk]
  rw[aBc]
  rcases rG he with ⟨hk,_⟩ | ⟨hk,_⟩ | ⟨hk,_⟩ | ⟨hk,r1,r2,_⟩ | ⟨hk,r1,r2,_⟩ | ⟨hk,_⟩ | ⟨hk,_⟩
  · rw[her (by omega),if_neg (by decide),e1,bG,if_pos hk]
    exact rU hI (fun _ _=>Iff.rfl) (hno 1 hk (by decide)) (hno5 1 hk (by decide))
  · rw[her (by omega),if_neg (by decide),e1,bG,if_neg (show ¬ x.kind=1 by omega),if_pos hk]
    exact rU hI (fun _ _=>Iff.rfl) (hno 2 hk (by decide)) (hno5 2 hk (by decide))
  · rw[her (by omega),if_neg (by decide),e1,bG,if_neg (show ¬ x.kind=1 by omega),if_neg (show ¬ x.kind=2 by omega),if_pos hk]
    exact rU hI (fun _ _=>Iff.rfl) (hno 3 hk (by decide)) (hno5 3 hk (by decide))
  · rw[her (by omega),if_neg (by decide),e1,bG,if_neg (show ¬ x.kind=1 by omega),if_neg (show ¬ x.kind=2 by omega),if_neg (show ¬ x.kind=3 by omega),if_pos hk]
    rw[bG,if_neg (show ¬ x.kind=1 by omega),if_neg (show ¬ x.kind=2 by omega),if_neg (show ¬ x.kind=3 by omega),if_pos hk] at h2
    have hon:¬ onB s.sub (x.user,x.other)=true:=fun hh=>by simp only at h2; rw[if_pos hh] at h2; omega
    have hsub:∀ e:En,e∈(if onB s.sub (x.user,x.other)=true then [] else gN s.sub (x.user,x.other) x.at')↔e=((x.user,x.other),(x.at',1099511627776))∨e∈s.sub:=fun e=>by rw[if_neg hon]; exact rE
    have h5:=hno5 4 hk (by decide)
    by_cases hp:p=(x.user,x.other)
    · have hg:grB p x=true:=by rw[hp]; simp [grB,hk]
      refine⟨fun f=>?_,fun sp=>?_⟩
      · rw[aAt,h5,hg]
        simp only[Bool.false_eq_true,if_false,if_true,List.mem_append,List.mem_singleton]
        constructor
        · rintro ⟨e,he2,k1,k2,k3⟩
          rcases (hsub e).1 he2 with rfl | he2
          · exact⟨x,.inr rfl,k3⟩
          · obtain ⟨g,g1,g2⟩:=(hI.o f).1 ⟨e,he2,k1,k2,k3⟩
            exact⟨g,.inl g1,g2⟩
        · rintro ⟨g,g1 | rfl,g2⟩
          · obtain ⟨e,he2,k⟩:=(hI.o f).2 ⟨g,g1,g2⟩
            exact⟨e,(hsub e).2 (.inr he2),k⟩
          · exact⟨_,(hsub _).2 (.inl rfl),hp.symm,rfl,g2⟩
      · rw[aAy,h5]
        simp only[Bool.false_eq_true,false_and,or_false,← hI.c sp]
        constructor
        · rintro ⟨e,he2,k1,k2,k3⟩
          rcases (hsub e).1 he2 with rfl | he2
          · exact absurd rfl k2
          · exact⟨e,he2,k1,k2,k3⟩
        · rintro ⟨e,he2,k⟩; exact⟨e,(hsub e).2 (.inr he2),k⟩
    · have hg:grB p x=false:=by
        cases hc:grB p x with
        | false=>rfl
        | true =>
          simp only[grB,Bool.and_eq_true,decide_eq_true_eq] at hc
          exact absurd (Prod.ext hc.2.1.symm hc.2.2.symm) hp
      refine rU hI (fun e hep=>?_) hg h5
      rw[show e∈_↔_ from hsub e]
      constructor
      · rintro (rfl | h)
        · exact absurd hep.symm hp
        · exact h
      · exact .inr
  · rw[her (by omega),if_neg (by decide),e1,bG,if_neg (show ¬ x.kind=1 by omega),if_neg (show ¬ x.kind=2 by omega),if_neg (show ¬ x.kind=3 by omega),if_neg (show ¬ x.kind=4 by omega),if_pos hk]
    rw[bG,if_neg (show ¬ x.kind=1 by omega),if_neg (show ¬ x.kind=2 by omega),if_neg (show ¬ x.kind=3 by omega),if_neg (show ¬ x.kind=4 by omega),if_pos hk] at h2
    have hon:onB s.sub (x.user,x.other)=true:=by
      by_cases hh:onB s.sub (x.user,x.other)=true
      · exact hh
      · simp only at h2; rw[if_neg hh] at h2; omega
    obtain ⟨pre,f0,post,p1,p2,p3,p4⟩:=aEt (t:=x.at') hon
    have hsub:∀ e:En,e∈(if onB s.sub (x.user,x.other)=true then jH s.sub (x.user,x.other) x.at' else [])↔e∈pre∨e∈nI f0 x.at'∨e∈post:=fun e=>by rw[if_pos hon,p4,List.mem_append,List.mem_append]
    have hold:∀ e:En,e∈s.sub↔e∈pre∨e=f0∨e∈post:=fun e=>by rw[p1,List.mem_append,List.mem_cons]
    have hris:=h.sub
    rw[p1] at hris
    have p5:=aMv hris p2
    obtain ⟨f1,f2⟩:=rF.1 p2
    have hat:∀ e∈nI f0 x.at',e=(f0.1,(f0.2.1,x.at'))∧f0.2.1<x.at':=fun e he2=>by
      unfold nI at he2
      split at he2
      · cases he2
      · rename_i hlt; exact⟨List.mem_singleton.1 he2,by omega⟩
    have h4:=hno 5 hk (by decide)
    by_cases hp:p=(x.user,x.other)
    · have hg:rvB p x=true:=by rw[hp]; simp [rvB,hk]
      have hnf:∀ e:En,e∈pre∨e∈post→e.1=p→e.2.2≠1099511627776:=fun e he2 k1 k2=>by
        have:dY (x.user,x.other) e=true:=rF.2 ⟨k1.trans hp,k2⟩
        rcases he2 with he2 | he2
        · rw[p3 e he2] at this; cases this
        · rw[p5 e he2] at this; cases this
      have hopen:∀ f,(∃ g∈opG p (rM p l),g.at'=f)↔f0.2.1=f:=fun f=>by
        rw[← hI.o f]
        constructor
        · rintro ⟨e,he2,k1,k2,k3⟩
          rcases (hold e).1 he2 with he2 | rfl | he2
          · exact absurd k2 (hnf e (.inl he2) k1)
          · exact k3
          · exact absurd k2 (hnf e (.inr he2) k1)
        · intro k; exact⟨f0,(hold f0).2 (.inr (.inl rfl)),f1.trans hp.symm,f2,k⟩
      refine⟨fun f=>?_,fun sp=>?_⟩
      · rw[aAt,hg,h4]
        simp only[if_true,Bool.false_eq_true,if_false,List.append_nil,List.not_mem_nil,false_and,exists_false,iff_false]
        rintro ⟨e,he2,k1,k2,k3⟩
        rcases (hsub e).1 he2 with he2 | he2 | he2
        · exact hnf e (.inl he2) k1 k2
        · obtain ⟨q1,_⟩:=hat e he2
          rw[q1] at k2
          have k2':x.at'=1099511627776:=k2
          omega
        · exact hnf e (.inr he2) k1 k2
      · rw[aAy,hg]
        simp only[true_and]
        constructor
        · rintro ⟨e,he2,k1,k2,k3⟩
          have hso:e∈pre∨e∈post→(sp∈clG p (rM p l)∧sp.1<sp.2):=fun he3=>(hI.c sp).1 ⟨e,(hold e).2 (he3.elim .inl fun y=>.inr (.inr y)),k1,k2,k3⟩
          rcases (hsub e).1 he2 with he2 | he2 | he2
          · obtain ⟨a,b⟩:=hso (.inl he2); exact⟨.inl a,b⟩
          · obtain ⟨q1,q2⟩:=hat e he2
            obtain ⟨g,g1,g2⟩:=(hopen f0.2.1).2 rfl
            refine⟨.inr ⟨g,g1,?_⟩,?_⟩
            · rw[← k3,q1,g2]
            · rw[← k3,q1]; exact q2
          · obtain ⟨a,b⟩:=hso (.inr he2); exact⟨.inl a,b⟩
        · rintro ⟨a | ⟨g,g1,g2⟩,b⟩
          · obtain ⟨e,he2,k1,k2,k3⟩:=(hI.c sp).2 ⟨a,b⟩
            rcases (hold e).1 he2 with he3 | rfl | he3
            · exact⟨e,(hsub e).2 (.inl he3),k1,k2,k3⟩
            · exact absurd f2 k2
            · exact⟨e,(hsub e).2 (.inr (.inr he3)),k1,k2,k3⟩
          · have hf:=(hopen g.at').1 ⟨g,g1,rfl⟩
            have hlt:f0.2.1<x.at':=by rw[g2] at b; rw[hf]; exact b
            refine⟨(f0.1,(f0.2.1,x.at')),(hsub _).2 (.inr (.inl ?_)),f1.trans hp.symm,?_,?_⟩
            · rw[nI,if_neg (by omega)]; exact List.mem_singleton.2 rfl
            · show x.at'≠_; omega
            · show (f0.2.1,x.at')=sp; rw[g2,hf]
    · have hg:rvB p x=false:=by
        cases hc:rvB p x with
        | false=>rfl
        | true =>
          simp only[rvB,Bool.and_eq_true,decide_eq_true_eq] at hc
          exact absurd (Prod.ext hc.2.1.symm hc.2.2.symm) hp
      refine rU hI (fun e hep=>?_) h4 hg
      rw[show e∈_↔_ from hsub e,hold e]
      have hf0:f0.1≠p:=fun k=>hp (k.symm.trans f1)
      constructor
      · rintro (a | a | a)
        · exact .inl a
        · obtain ⟨q1,_⟩:=hat e a
          rw[q1] at hep; exact absurd hep hf0
        · exact .inr (.inr a)
      · rintro (a | rfl | a)
        · exact .inl a
        · exact absurd hep hf0
        · exact .inr (.inr a)
  · rw[her (by omega),if_neg (by decide),e1,bG,if_neg (show ¬ x.kind=1 by omega),if_neg (show ¬ x.kind=2 by omega),if_neg (show ¬ x.kind=3 by omega),if_neg (show ¬ x.kind=4 by omega),if_neg (show ¬ x.kind=5 by omega),if_pos hk]
    exact rU hI (fun _ _=>Iff.rfl) (hno 6 hk (by decide)) (hno5 6 hk (by decide))
  · rw[e1,bG,if_neg (show ¬ x.kind=1 by omega),if_neg (show ¬ x.kind=2 by omega),if_neg (show ¬ x.kind=3 by omega),if_neg (show ¬ x.kind=4 by omega),if_neg (show ¬ x.kind=5 by omega),if_neg (show ¬ x.kind=6 by omega)]
    have hsub:∀ e:En,e∈(gH s x.user x.at').sub↔e∈s.sub∧mQ x.user e=false:=fun e=>by
      show e∈s.sub.filter (fun e=>!mQ x.user e)↔_
      rw[List.mem_filter]; simp
    by_cases hv:p.1=x.user∨p.2=x.user
    · have hE:erP p x=true:=by
        simp only[erP,erB,hk,Bool.or_eq_true,Bool.and_eq_true,decide_eq_true_eq,true_and]
        exact hv.imp Eq.symm Eq.symm
      rw[if_pos hE]
      have hnone:∀ e:En,e∈(gH s x.user x.at').sub→e.1≠p:=fun e he2 k=>by
        have:=((hsub e).1 he2).2
        rw[mQ,k] at this
        simp only[nJ,Bool.or_eq_false_iff,decide_eq_false_iff_not] at this
        rcases hv with hv | hv
        · exact this.1 hv
        · exact this.2 hv
      refine⟨fun f=>?_,fun sp=>?_⟩
      · simp only[opG,List.not_mem_nil,false_and,exists_false,iff_false]
        rintro ⟨e,he2,k,_⟩; exact hnone e he2 k
      · simp only[clG,List.not_mem_nil,false_and,iff_false]
        rintro ⟨e,he2,k,_⟩; exact hnone e he2 k
    · have hE:erP p x=false:=by
        cases hc:erP p x with
        | false=>rfl
        | true =>
          simp only[erP,erB,hk,Bool.or_eq_true,Bool.and_eq_true,decide_eq_true_eq,true_and] at hc
          exact absurd (hc.imp Eq.symm Eq.symm) hv
      rw[hE,if_neg (by decide)]
      refine rU hI (fun e hep=>?_) (hno 7 hk (by decide)) (hno5 7 hk (by decide))
      rw[show e∈_↔_ from hsub e]
      refine⟨fun a=>a.1,fun a=>⟨a,?_⟩⟩
      rw[mQ,hep]
      simp only[nJ,Bool.or_eq_false_iff,decide_eq_false_iff_not]
      exact⟨fun k=>hv (.inl k),fun k=>hv (.inr k)⟩
theorem aRl (p:Pr):PeI p (rM p []) cU:=⟨fun f=>by simp [cU,rM,opG],fun sp=>by simp [cU,rM,clG]⟩
theorem aOj {p:Pr}:∀ (k l:List Ev) {s:Sta},RightP s→PeI p (rM p l) s→(∀ x∈cC s k,x=0)→PeI p (rM p (l++k)) (dF s k)
  | [],l,s,h,hI,_=>by rw[List.append_nil]; exact hI
  | x::k,l,s,h,hI,ht=>by
    have h0:(bI s x).2=0:=ht _ (List.mem_cons_self ..)
    have ef:dF s (x::k)=dF (bI s x).1 k:=by show dF (iV s x) k=_; rw[tY h0]
    have:=aOj k (l++[x]) (zA h h0) (pe_step h hI h0) (fun y hy=>ht y (List.mem_cons_of_mem _ (by rw[tY h0]; exact hy)))
    rw[ef]
    simpa using this
def peM (l:List Ev) (p:Pr):List Sp:=oE (xS p (rM p l))
theorem aP2 {k:List Ev} {p:Pr} (ht:∀ x∈cC cU k,x=0):qV (dF cU k).sub p=peM k p:=by
  have hI:=aOj (p:=p) k [] jG (aRl p) ht
  rw[List.nil_append] at hI
  refine aMk fun t=>?_
  rw[Bool.eq_iff_iff,gS,gS]
  constructor
  · rintro ⟨sp,hsp,h1,h2⟩
    obtain ⟨e,he,rfl⟩:=List.mem_map.1 hsp
    obtain ⟨he1,he2⟩:=List.mem_filter.1 he
    have hp:e.1=p:=by simpa [ofB] using he2
    by_cases hF:e.2.2=1099511627776
    · obtain ⟨g,g1,g2⟩:=(hI.o e.2.1).1 ⟨e,he1,hp,hF,rfl⟩
      exact⟨(g.at',1099511627776),aAs.2 (.inr ⟨g,g1,rfl⟩),by rw[g2]; exact h1,by rw[← hF]; exact h2⟩
    · obtain ⟨c1,_⟩:=(hI.c e.2).1 ⟨e,he1,hp,hF,rfl⟩
      exact⟨e.2,aAs.2 (.inl c1),h1,h2⟩
  · rintro ⟨sp,hsp,h1,h2⟩
    rcases aAs.1 hsp with c | ⟨g,g1,rfl⟩
    · obtain ⟨e,he,hp,_,rfl⟩:=(hI.c sp).2 ⟨c,by omega⟩
      exact⟨e.2,List.mem_map.2 ⟨e,List.mem_filter.2 ⟨he,by simp [ofB,hp]⟩,rfl⟩,h1,h2⟩
    · obtain ⟨e,he,hp,k2,k3⟩:=(hI.o g.at').2 ⟨g,g1,rfl⟩
      refine⟨e.2,List.mem_map.2 ⟨e,List.mem_filter.2 ⟨he,by simp [ofB,hp]⟩,rfl⟩,?_,?_⟩
      · rw[k3]; exact h1
      · rw[k2]; exact h2
def aMp (l:List Ev):Int:=l.foldl (fun n e=>if e.kind=6 then max n e.n else n) 0
theorem aR0 {s:Sta} {x:Ev} (h0:(bI s x).2=0):(bI s x).1.hor=if x.kind=6 then max s.hor x.n else s.hor:=by
  obtain ⟨he,hn,h2,e1⟩:=aJv h0
  rw[e1]
  rcases rG he with ⟨hk,_⟩ | ⟨hk,_⟩ | ⟨hk,_⟩ | ⟨hk,_⟩ | ⟨hk,_⟩ | ⟨hk,_⟩ | ⟨hk,_⟩
  · rw[bG,if_pos hk,if_neg (by omega)]
  · rw[bG,if_neg (show ¬ x.kind=1 by omega),if_pos hk,if_neg (show ¬ x.kind=6 by omega)]
  · rw[bG,if_neg (show ¬ x.kind=1 by omega),if_neg (show ¬ x.kind=2 by omega),if_pos hk,if_neg (show ¬ x.kind=6 by omega)]
  · rw[bG,if_neg (show ¬ x.kind=1 by omega),if_neg (show ¬ x.kind=2 by omega),if_neg (show ¬ x.kind=3 by omega),if_pos hk,if_neg (show ¬ x.kind=6 by omega)]
  · rw[bG,if_neg (show ¬ x.kind=1 by omega),if_neg (show ¬ x.kind=2 by omega),if_neg (show ¬ x.kind=3 by omega),if_neg (show ¬ x.kind=4 by omega),if_pos hk,if_neg (show ¬ x.kind=6 by omega)]
  · rw[bG,if_neg (show ¬ x.kind=1 by omega),if_neg (show ¬ x.kind=2 by omega),if_neg (show ¬ x.kind=3 by omega),if_neg (show ¬ x.kind=4 by omega),if_neg (show ¬ x.kind=5 by omega),if_pos hk,if_pos hk]
  · rw[bG,if_neg (show ¬ x.kind=1 by omega),if_neg (show ¬ x.kind=2 by omega),if_neg (show ¬ x.kind=3 by omega),if_neg (show ¬ x.kind=4 by omega),if_neg (show ¬ x.kind=5 by omega),if_neg (show ¬ x.kind=6 by omega),if_neg (show ¬ x.kind=6 by omega)]; rfl
theorem aI0:∀ (k:List Ev) {s:Sta},(∀ x∈cC s k,x=0)→(dF s k).hor=k.foldl (fun n e=>if e.kind=6 then max n e.n else n) s.hor
  | [],_,_=>rfl
  | x::k,s,ht=>by
    have h0:(bI s x).2=0:=ht _ (List.mem_cons_self ..)
    have ef:dF s (x::k)=dF (bI s x).1 k:=by show dF (iV s x) k=_; rw[tY h0]
    rw[ef,aI0 k (fun y hy=>ht y (List.mem_cons_of_mem _ (by rw[tY h0]; exact hy))),aR0 h0]; rfl
end Go.Abs
set_option linter.unusedVariables false
set_option linter.unusedSimpArgs false
namespace Go.Abs
open Go
def pS (u:ByteArray) (l:List Ev):Nat:=l.length - (vD u l).length
theorem aOb (u:ByteArray):∀ l:List Ev,(vD u l).length≤l.length
  | []=>Nat.le_refl _
  | x::r=>by
    have:=aOb u r
    unfold vD
    split
    · simp only[List.length_cons]; omega
    · split <;> simp
theorem aOc {u:ByteArray}:∀ {l:List Ev} {j:Nat} (hj:j<l.length),erB u l[j]=true→(∀ (i:Nat) (hi:i<l.length),j<i→erB u l[i]=false)→vD u l=l.drop (j+1)
  | [],j,hj,_,_=>by simp at hj
  | x::r,0,hj,h1,h2=>by
    have hr:r.any (erB u)=false:=by
      rw[List.any_eq_false]
      intro y hy
      obtain ⟨i,hi,rfl⟩:=List.getElem_of_mem hy
      have:=h2 (i+1) (by simpa using hi) (by omega)
      simpa using this
    have hx:erB u x=true:=by simpa using h1
    rw[vD,if_neg (by rw[hr]; decide),if_pos hx]; rfl
  | x::r,j+1,hj,h1,h2=>by
    have hj':j<r.length:=by simpa using hj
    have h1':erB u r[j]=true:=by simpa using h1
    have hr:r.any (erB u)=true:=List.any_eq_true.2 ⟨_,List.getElem_mem hj',h1'⟩
    rw[vD,if_pos hr,aOc hj' h1' fun i hi hji=>by have:=h2 (i+1) (by simpa using hi) (by omega); simpa using this]; rfl
theorem suf_no {u:ByteArray}:∀ {l:List Ev},(∀ (i:Nat) (hi:i<l.length),erB u l[i]=false)→vD u l=l
  | [],_=>rfl
  | x::r,h=>by
    have hr:r.any (erB u)=false:=by
      rw[List.any_eq_false]
      intro y hy
      obtain ⟨i,hi,rfl⟩:=List.getElem_of_mem hy
      have:=h (i+1) (by simpa using hi)
      simpa using this
    have hx:erB u x=false:=by have:=h 0 (by simp); simpa using this
    rw[vD,if_neg (by rw[hr]; decide),if_neg (by rw[hx]; decide)]
theorem beg_hit {u:ByteArray} {l:List Ev} {j:Nat} (hj:j<l.length) (h1:erB u l[j]=true) (h2:∀ (i:Nat) (hi:i<l.length),j<i→erB u l[i]=false):pS u l=j+1:=by
  rw[pS,aOc hj h1 h2,List.length_drop]; omega
theorem aSg {u:ByteArray} {l:List Ev} (h:∀ (i:Nat) (hi:i<l.length),erB u l[i]=false):pS u l=0:=by rw[pS,suf_no h]; omega
theorem aGl (u:ByteArray) (l:List Ev):pS u l≤l.length:=Nat.sub_le _ _
theorem aOv (u:ByteArray) (x:Ev) (l:List Ev):pS u (l++[x])=if erB u x=true then l.length+1 else pS u l:=by
  have:=aOb u l
  rw[pS,aOd]
  split
  · simp
  · simp only[pS,List.length_append,List.length_cons,List.length_nil]; omega
theorem sufP_is (p:Pr) (l:List Ev):rM p l=l.drop (max (pS p.1 l) (pS p.2 l)):=by
  suffices H:∀ (n:Nat) (l:List Ev),l.length=n→rM p l=l.drop (max (pS p.1 l) (pS p.2 l)) from H _ l rfl
  intro n
  induction n with
  | zero=>intro l h; rw[List.eq_nil_of_length_eq_zero h]; rfl
  | succ n ih =>
    intro l h
    have hne:l≠[]:=fun e=>by rw[e] at h; simp at h
    obtain ⟨r,x,rfl⟩:∃ r x,l=r++[x]:=⟨l.dropLast,l.getLast hne,(List.dropLast_concat_getLast hne).symm⟩
    have hr:r.length=n:=by simpa using h
    have b1:=aGl p.1 r
    have b2:=aGl p.2 r
    rw[aBc,aOv,aOv,ih r hr]
    cases h1:erB p.1 x <;> cases h2:erB p.2 x <;> simp only[erP,h1,h2,Bool.or_self,Bool.or_true,Bool.true_or,Bool.false_eq_true,if_true,if_false]
    · rw[List.drop_append_of_le_length (by omega)]
    · rw[List.drop_eq_nil_of_le (by simp; omega)]
    · rw[List.drop_eq_nil_of_le (by simp; omega)]
    · rw[List.drop_eq_nil_of_le (by simp)]
theorem aAq {p:Pr} {l:List Ev} {i:Nat} (hi:i<l.length):rvO p (l.drop i)=if rvB p l[i]=true then some l[i].at' else rvO p (l.drop (i+1)):=by
  rw[List.drop_eq_getElem_cons hi,rvO]
theorem wL {p:Pr} {l:List Ev} {k:Nat} (hk:k<l.length):xS p (l.drop k)=(if grB p l[k]=true then [(l[k].at',(rvO p (l.drop (k+1))).getD 1099511627776)] else [])++xS p (l.drop (k+1)):=by
  rw[List.drop_eq_getElem_cons hk,xS]
theorem aRk {p:Pr} {l:List Ev} {k:Nat} (hk:l.length≤k):xS p (l.drop k)=[]:=by rw[List.drop_eq_nil_of_le hk]; rfl
theorem peM_is (l:List Ev) (p:Pr):peM l p=oE (xS p (l.drop (max (pS p.1 l) (pS p.2 l)))):=by rw[peM,sufP_is]
theorem aIz {l:List Ev} {k:Nat} (hk:k<l.length):aMp (l.take (k+1))=if l[k].kind=6 then max (aMp (l.take k)) l[k].n else aMp (l.take k):=by
  rw[aMp,List.take_succ_eq_append_getElem hk,List.foldl_append]; rfl
end Go.Abs
set_option linter.unusedVariables false
set_option linter.unusedSimpArgs false
namespace Go.Proofs.YtijnkglkchhomaaGreat
open Go Go.Abs
theorem yZ (l:List Ev) (u:ByteArray) (hl:l.length≤1000) :Den Tryz.prog 72 [.sl 6 (l.map evC),.s (.string u)]  (·=.s (.int .i64 ((pS u l:Nat):Int))):=by
 refine aS Tryz.func72 rfl (Nat.le_of_ble_eq_true rfl) (fun w0 A hf=>(aC (fun K1 hK1=>(aB (aE aA 1 rfl (aD (hK1 _ (aC (fun K2 hK2=>(aC (fun K3 hK3=>(aB (aE aA 2 rfl ?_)))))))))))))
 refine aF rfl (dB rfl rfl rfl) ?_
 refine aE aA 1 rfl (aD (hK3 _ (aO (bS (ι:=Nat) (fun j=>⟨30,[(0,.sl 6 (l.map evC)),(1,.s (.string u)),(5,.s (.int .i64 ((j:Int) - 1)))],[]⟩) (fun j=>j≤l.length∧∀ (i:Nat) (hi:i<l.length),j≤i→erB u l[i]=false) (fun j=>j) l.length ?_ ?_ ?_))))
 · exact⟨Nat.le_refl _,fun i hi h=>absurd hi (by omega)⟩
 · exact bT ⟨rfl,rfl,aM (by rw[List.length_map,wrap_i64 (by omega) (by omega)]),trivial⟩ rfl
 ·
  rintro j hC
  obtain ⟨h1,h2⟩:=hC
  refine aC (fun K4 hK4=>(aC (fun K5 hK5=>(aB (aE aA 2 rfl (aD (hK5 _ (aI rfl (fun hc1=>?_) (fun hc1=>?_)))))))))
  ·
   simp only[bs] at hc1
   have hk:j - 1<l.length:=by omega
   refine aL (hK4 _ (aC (fun K6 hK6=>(aO (aC (fun K7 hK7=>(aB (aE aA 2 rfl (aF rfl (aW rfl rfl gV gL (hP (k:=j - 1) (by omega) (by omega))) (aE aA 4 rfl (aY rfl rfl rfl (fun hg2=>?_) (fun hg2=>?_))))))))))))
   ·
    simp only[bs] at hg2
    refine aF rfl (fA rfl) (aE aA 1 rfl (bK rfl rfl rfl (aF rfl (aW rfl rfl gV gL (hP (k:=j - 1) (by omega) (by omega))) (aE aA 5 rfl (aD (hK7 _ (aI rfl (fun hc3=>?_) (fun hc3=>?_))))))))
    ·
     simp only[bs] at hc3
     have h0:erB u l[j - 1]=true:=by simp_all[erB,toList_inj]
     refine aC (fun K8 hK8=>(aB (aE aA 1 rfl ?_)))
     refine aF rfl (bJ rfl rfl (by omega) (by omega)) ?_
     refine aE aA 1 rfl (aD (hK8 _ (aJ ?_)))
     refine⟨_,rfl,?_⟩
     refine dM ?_
     rw[beg_hit hk h0 (fun i hi hji=>h2 i hi (by omega))]; omega
    ·
     simp only[bs] at hc3
     have h0:erB u l[j - 1]=false:=by simp_all[erB,toList_inj]
     refine aL (hK6 _ (aB (aE aA 1 rfl ?_)))
     refine aF rfl (fE rfl rfl (by omega) (by omega)) ?_
     refine aE aA 1 rfl (aD ?_)
     exact⟨j - 1,⟨by omega,fun i hi hji=>if he:i=j - 1 then by subst he; exact h0 else h2 i hi (by omega)⟩,by omega,bT ⟨rfl,rfl,aM (by omega),trivial⟩ rfl⟩
   ·
    simp only[bs] at hg2
    refine aE aA 7 rfl (aD (hK7 _ (bD rfl (aL (hK6 _ (aB (aE aA 1 rfl ?_)))))))
    refine aF rfl (fE rfl rfl (by omega) (by omega)) ?_
    refine aE aA 1 rfl (aD ?_)
    (  have h0:erB u l[j - 1]=false:=by simp_all[erB,toList_inj]
       exact⟨j - 1,⟨by omega,fun i hi hji=>if he:i=j - 1 then by subst he; exact h0 else h2 i hi (by omega)⟩,by omega,bT ⟨rfl,rfl,aM (by omega),trivial⟩ rfl⟩)
  ·
   simp only[bs] at hc1
   have hj0:j=0:=by omega
   subst hj0
   refine bA (hK2 _ (aC (fun K9 hK9=>(aB (aE aA 1 rfl (aD (hK9 _ (aJ ?_))))))))
   refine⟨_,rfl,?_⟩
   refine dM ?_
   rw[aSg (fun i hi=>h2 i hi (by omega))]; rfl
theorem xQ (l:List Ev) (hl:l.length≤1000) :Den Tryz.prog 39 [.sl 6 (l.map evC)]  (·=.s (.int .i64 (aMp l))):=by
 refine aS Tryz.func39 rfl (Nat.le_of_ble_eq_true rfl) (fun w0 A hf=>(aC (fun K1 hK1=>(aB (aE aA 1 rfl (aD (hK1 _ (aC (fun K2 hK2=>(aB (aE aA 1 rfl (aD (hK2 _ (aC (fun K3 hK3=>(aC (fun K4 hK4=>?_)))))))))))))))))
 refine aB (aE aA 1 rfl (aD (hK4 _ (aO (bS (ι:=Nat) (fun k=>⟨25,[(0,.sl 6 (l.map evC)),(3,.s (.int .i64 (aMp (l.take k)))),(4,.s (.int .i64 (k:Nat)))],[]⟩) (fun k=>k≤l.length) (fun k=>l.length - k) 0 ?_ ?_ ?_)))))
 · exact Nat.zero_le _
 · exact bT ⟨rfl,rfl,rfl,trivial⟩ rfl
 ·
  rintro k hC
  refine aC (fun K5 hK5=>(aC (fun K6 hK6=>(aB (aE aA 4 rfl (aD (hK6 _ (aI rfl (fun hc1=>?_) (fun hc1=>?_)))))))))
  ·
   simp only[bs] at hc1
   have hk:k<l.length:=by omega
   refine aL (hK5 _ (aC (fun K7 hK7=>(aO (aC (fun K8 hK8=>(aB (aE aA 2 rfl (aF rfl (aW rfl rfl gV gL (hP (k:=k) (by omega) (by omega))) (aE aA 3 rfl (aD (hK8 _ (aI rfl (fun hc2=>?_) (fun hc2=>?_))))))))))))))
   ·
    simp only[bs] at hc2
    refine aB (aE aA 3 rfl (aF rfl (aW rfl rfl gV gL (hP (k:=k) (by omega) (by omega))) (aE aA 2 rfl (aF rfl (aH7 rfl rfl) (aE aA 1 rfl ?_)))))
    refine bB ?_
    refine hK7 _ (aB (aE aA 1 rfl ?_))
    refine aF rfl (bJ rfl rfl (by omega) (by omega)) ?_
    refine aE aA 1 rfl (aD ?_)
    exact⟨k+1,by omega,by omega,bT ⟨rfl,aM (by rw[aIz hk,if_pos (by assumption)]),aM (by omega),trivial⟩ rfl⟩
   ·
    simp only[bs] at hc2
    refine aL (hK7 _ (aB (aE aA 1 rfl ?_)))
    refine aF rfl (bJ rfl rfl (by omega) (by omega)) ?_
    refine aE aA 1 rfl (aD ?_)
    exact⟨k+1,by omega,by omega,bT ⟨rfl,aM (by rw[aIz hk,if_neg (by assumption)]),aM (by omega),trivial⟩ rfl⟩
  ·
   simp only[bs] at hc1
   refine bA (hK3 _ (aC (fun K9 hK9=>(aB (aE aA 2 rfl (aD (hK9 _ (aJ ?_))))))))
   refine⟨_,rfl,?_⟩
   refine dM ?_
   rw[List.take_of_length_le (by omega)]
end Go.Proofs.YtijnkglkchhomaaGreat
set_option linter.unusedVariables false
set_option linter.unusedSimpArgs false
namespace Go.Proofs.YtijnkglkchhomaaGreat
open Go Go.Abs
theorem xP (l:List Ev) (w u:ByteArray) (hl:l.length≤1000) :Den Tryz.prog 38 [.sl 6 (l.map evC),.s (.string w),.s (.string u)]  (·=.sl 2 ((peM l (w,u)).map spC)):=by
 have hb1:=aGl w l
 have hb2:=aGl u l
 refine aS Tryz.func38 rfl (Nat.le_of_ble_eq_true rfl) (fun w0 A hf=>(aC (fun K1 hK1=>(aB (aF rfl (bE) (aD (hK1 _ (aC (fun K2 hK2=>(aB (jK hf 2 rfl rfl rfl (aD (hK2 _ (aC (fun K3 hK3=>(aC (fun K4 hK4=>?_)))))))))))))))))
 refine aB (aE aA 2 rfl (aK hf rfl (aR rfl rfl aDc rfl (yZ l w hl)) (aE aA 2 rfl (aK hf rfl (aR rfl rfl aDc rfl (yZ l u hl)) (aF rfl (aH7 rfl rfl) (aE aA 1 rfl (aD (hK4 _ (aO (bS (ι:=Nat×List Sp) (fun(⟨k,out⟩:Nat×List Sp)=>⟨97,[(0,.sl 6 (l.map evC)),(1,.s (.string w)),(2,.s (.string u)),(7,.own 7 2 0 out.length),(8,.s (.int .i64 (k:Nat)))],[(7,.buf 2 (out.map spC))]⟩) (fun(⟨k,out⟩:Nat×List Sp)=>k≤l.length∧out.length≤k∧out++xS (w,u) (l.drop k)=xS (w,u) (l.drop (max (pS w l) (pS u l)))) (fun(⟨k,out⟩:Nat×List Sp)=>l.length - k) (max (pS w l) (pS u l),[]) ?_ ?_ ?_))))))))))
 · exact⟨by omega,Nat.zero_le _,rfl⟩
 · exact bT ⟨rfl,rfl,rfl,rfl,aM (by omega),trivial⟩ rfl
 ·
  rintro ⟨k,out⟩ hC
  obtain ⟨h1,h2,h3⟩:=hC
  refine aC (fun K5 hK5=>(aC (fun K6 hK6=>(aB (aE aA 4 rfl (aD (hK6 _ (aI rfl (fun hc1=>?_) (fun hc1=>?_)))))))))
  ·
   simp only[bs] at hc1
   have hk:k<l.length:=by omega
   refine aL (hK5 _ (aC (fun K7 hK7=>(aO (aC (fun K8 hK8=>(aC (fun K9 hK9=>(aB (aE aA 2 rfl (aF rfl (aW rfl rfl gV gL (hP (k:=k) (by omega) (by omega))) (aE aA 4 rfl (aY rfl rfl rfl (fun hg2=>?_) (fun hg2=>?_))))))))))))))
   ·
    simp only[bs] at hg2
    refine aF rfl (fA rfl) (aE aA 1 rfl (bK rfl rfl rfl (aF rfl (aW rfl rfl gV gL (hP (k:=k) (by omega) (by omega))) (aE aA 6 rfl (aY rfl rfl rfl (fun hg3=>?_) (fun hg3=>?_))))))
    ·
     simp only[bs] at hg3
     refine aF rfl (fA rfl) (aE aA 1 rfl (bK rfl rfl rfl (aF rfl (aW rfl rfl gV gL (hP (k:=k) (by omega) (by omega))) (aE aA 5 rfl (aD (hK9 _ (aI rfl (fun hc4=>?_) (fun hc4=>?_))))))))
     ·
      simp only[bs] at hc4
      refine bA (hK7 _ (aB (aE aA 1 rfl ?_)))
      refine aF rfl (bJ rfl rfl (by omega) (by omega)) ?_
      refine aE aA 1 rfl (aD ?_)
      (  have hg:grB (w,u) l[k]=false:=by simp_all[grB,toList_inj]
         exact⟨(k+1,out),⟨by omega,by omega,by rw[← h3,wL hk,if_neg (by rw[hg]; decide)]; rfl⟩,by simp only; omega,bT ⟨rfl,rfl,rfl,rfl,aM (by omega),trivial⟩ rfl⟩)
     ·
      simp only[bs] at hc4
      have hg:grB (w,u) l[k]=true:=by simp_all[grB,toList_inj]
      refine aL (hK8 _ (aC (fun K10 hK10=>(aB (aE aA 1 rfl (aD (hK10 _ (aC (fun K11 hK11=>(aC (fun K12 hK12=>(aB (aE aA 2 rfl ?_)))))))))))))
      refine aF rfl (dB rfl rfl rfl) ?_
      refine aE aA 1 rfl (aD (hK12 _ (aO (bS (ι:=Nat) (fun j=>⟨97,[(0,.sl 6 (l.map evC)),(1,.s (.string w)),(2,.s (.string u)),(7,.own 7 2 0 out.length),(8,.s (.int .i64 (k:Nat))),(9,.s (.int .i64 ((rvO (w,u) (l.drop j)).getD 1099511627776))),(10,.s (.int .i64 ((j:Int) - 1)))],[(7,.buf 2 (out.map spC))]⟩) (fun j=>k<j∧j≤l.length) (fun j=>j) l.length ?_ ?_ ?_))))
      · exact⟨hk,Nat.le_refl _⟩
      · exact bT ⟨rfl,rfl,rfl,rfl,rfl,aM (by rw[List.drop_eq_nil_of_le (Nat.le_refl _)]; rfl),aM (by rw[List.length_map,wrap_i64 (by omega) (by omega)]),trivial⟩ rfl
      ·
       rintro j hC
       obtain ⟨i1,i2⟩:=hC
       refine aC (fun K13 hK13=>(aC (fun K14 hK14=>(aB (aE aA 3 rfl (aD (hK14 _ (aI rfl (fun hc5=>?_) (fun hc5=>?_)))))))))
       ·
        simp only[bs] at hc5
        have hi:j - 1<l.length:=by omega
        have ej:j - 1+1=j:=by omega
        refine aL (hK13 _ (aC (fun K15 hK15=>(aO (aC (fun K16 hK16=>(aB (aE aA 2 rfl (aF rfl (aW rfl rfl gV gL (hP (k:=j - 1) (by omega) (by omega))) (aE aA 4 rfl (aY rfl rfl rfl (fun hg6=>?_) (fun hg6=>?_))))))))))))
        ·
         simp only[bs] at hg6
         refine aF rfl (fA rfl) (aE aA 1 rfl (bK rfl rfl rfl (aF rfl (aW rfl rfl gV gL (hP (k:=j - 1) (by omega) (by omega))) (aE aA 6 rfl (aY rfl rfl rfl (fun hg7=>?_) (fun hg7=>?_))))))
         ·
          simp only[bs] at hg7
          refine aF rfl (fA rfl) (aE aA 1 rfl (bK rfl rfl rfl (aF rfl (aW rfl rfl gV gL (hP (k:=j - 1) (by omega) (by omega))) (aE aA 5 rfl (aD (hK16 _ (aI rfl (fun hc8=>?_) (fun hc8=>?_))))))))
          ·
           simp only[bs] at hc8
           refine aB (aE aA 2 rfl (aF rfl (aW rfl rfl gV gL (hP (k:=j - 1) (by omega) (by omega))) (aE aA 3 rfl ?_)))
           refine bB ?_
           refine hK15 _ (aB (aE aA 1 rfl ?_))
           refine aF rfl (fE rfl rfl (by omega) (by omega)) ?_
           refine aE aA 1 rfl (aD ?_)
           (  have hr:rvB (w,u) l[j - 1]=true:=by simp_all[rvB,toList_inj]
              exact⟨j - 1,⟨by omega,by omega⟩,by omega,bT ⟨rfl,rfl,rfl,rfl,rfl,aM (by rw[aAq hi,if_pos hr]; rfl),aM (by omega),trivial⟩ rfl⟩)
          ·
           simp only[bs] at hc8
           refine aL (hK15 _ (aB (aE aA 1 rfl ?_)))
           refine aF rfl (fE rfl rfl (by omega) (by omega)) ?_
           refine aE aA 1 rfl (aD ?_)
           (  have hr:rvB (w,u) l[j - 1]=false:=by simp_all[rvB,toList_inj]
              exact⟨j - 1,⟨by omega,by omega⟩,by omega,bT ⟨rfl,rfl,rfl,rfl,rfl,aM (by rw[aAq hi,ej,if_neg (by rw[hr]; decide)]),aM (by omega),trivial⟩ rfl⟩)
         ·
          simp only[bs] at hg7
          refine aE aA 7 rfl (aD (hK16 _ (bD rfl (aL (hK15 _ (aB (aE aA 1 rfl ?_)))))))
          refine aF rfl (fE rfl rfl (by omega) (by omega)) ?_
          refine aE aA 1 rfl (aD ?_)
          (  have hr:rvB (w,u) l[j - 1]=false:=by simp_all[rvB,toList_inj]
             exact⟨j - 1,⟨by omega,by omega⟩,by omega,bT ⟨rfl,rfl,rfl,rfl,rfl,aM (by rw[aAq hi,ej,if_neg (by rw[hr]; decide)]),aM (by omega),trivial⟩ rfl⟩)
        ·
         simp only[bs] at hg6
         refine aE aA 16 rfl (aD (hK16 _ (bD rfl (aL (hK15 _ (aB (aE aA 1 rfl ?_)))))))
         refine aF rfl (fE rfl rfl (by omega) (by omega)) ?_
         refine aE aA 1 rfl (aD ?_)
         (  have hr:rvB (w,u) l[j - 1]=false:=by simp_all[rvB,toList_inj]
            exact⟨j - 1,⟨by omega,by omega⟩,by omega,bT ⟨rfl,rfl,rfl,rfl,rfl,aM (by rw[aAq hi,ej,if_neg (by rw[hr]; decide)]),aM (by omega),trivial⟩ rfl⟩)
       ·
        simp only[bs] at hc5
        have ej:j=k+1:=by omega
        subst ej
        refine bA (hK11 _ (aB (aE aA 3 rfl (aF rfl (aW rfl rfl gV gL (hP (k:=k) (by omega) (by omega))) (aE aA 3 rfl (aF rfl (bO rfl eD dL (l3 rfl) rfl) (aK hf rfl (aN aU rfl rfl rfl rfl (l2 rfl)) (aT hf rfl aU rfl rfl rfl (.inl rfl) (by rw[List.length_map]) rfl (by first | rfl | simp [cV,bF]) (by first | (simp only[maxLen,List.length_map,List.length_append,List.length_cons,List.length_nil]; omega) | (simp [maxLen] <;> omega)) (by first | (simp only[List.length_map,List.length_append,List.length_cons,List.length_nil]; omega) | (simp <;> omega)) ?_))))))))
        refine aQ (cD [0,1,2,8,94] rfl) (aE aA 1 rfl ?_)
        refine bB ?_
        refine hK7 _ (aB (aE aA 1 rfl ?_))
        refine aF rfl (bJ rfl rfl (by omega) (by omega)) ?_
        refine aE aA 1 rfl (aD ?_)
        exact⟨(k+1,out++[(l[k].at',(rvO (w,u) (l.drop (k+1))).getD 1099511627776)]),⟨by omega,by rw[List.length_append]; simp only[List.length_cons,List.length_nil]; omega,by rw[← h3,wL hk,if_pos hg,List.append_assoc]⟩,by simp only; omega,bT ⟨rfl,rfl,rfl,(by rw[List.length_append]; rfl),aM (by omega),trivial⟩ (by rw[List.map_append]; rfl)⟩
    ·
     simp only[bs] at hg3
     refine aE aA 7 rfl (aD (hK9 _ (cS rfl (bA (hK7 _ (aB (aE aA 1 rfl ?_)))))))
     refine aF rfl (bJ rfl rfl (by omega) (by omega)) ?_
     refine aE aA 1 rfl (aD ?_)
     (  have hg:grB (w,u) l[k]=false:=by simp_all[grB,toList_inj]
        exact⟨(k+1,out),⟨by omega,by omega,by rw[← h3,wL hk,if_neg (by rw[hg]; decide)]; rfl⟩,by simp only; omega,bT ⟨rfl,rfl,rfl,rfl,aM (by omega),trivial⟩ rfl⟩)
   ·
    simp only[bs] at hg2
    refine aE aA 16 rfl (aD (hK9 _ (cS rfl (bA (hK7 _ (aB (aE aA 1 rfl ?_)))))))
    refine aF rfl (bJ rfl rfl (by omega) (by omega)) ?_
    refine aE aA 1 rfl (aD ?_)
    (  have hg:grB (w,u) l[k]=false:=by simp_all[grB,toList_inj]
       exact⟨(k+1,out),⟨by omega,by omega,by rw[← h3,wL hk,if_neg (by rw[hg]; decide)]; rfl⟩,by simp only; omega,bT ⟨rfl,rfl,rfl,rfl,aM (by omega),trivial⟩ rfl⟩)
  ·
   simp only[bs] at hc1
   have hpe:out=xS (w,u) (l.drop (max (pS w l) (pS u l))):=by rw[← h3,aRk (by omega),List.append_nil]
   refine bA (hK3 _ (aC (fun K17 hK17=>(aB (aQ (aEz (sl':=[(7,.sl 2 (out.map spC))]) ⟨⟨_,rfl,aB7 (g:=7) rfl (by rw[List.length_map])⟩,trivial⟩) ?_)))))
   refine aE aA 1 rfl (aK hf rfl (aR rfl rfl aNk rfl (aHw out (by omega))) (aE aA 1 rfl (aD (hK17 _ (aJ ?_)))))
   refine⟨_,rfl,?_⟩
   show AV.sl 2 ((oE out).map spC)=_
   rw[hpe,← peM_is]
end Go.Proofs.YtijnkglkchhomaaGreat
