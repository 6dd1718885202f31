import Derived.WalkKit
import Derived.WalkSpells
import Derived.WalkLawsBesides
import Derived.Deep.LoopGhost
import Derived.ChangeKeysEq
import Derived.Still
import Derived.Lib.AppendZeros
import Derived.Laws.StructEq
import Derived.OpenShut
import Derived.Scope
import Derived.Shelf.SlSortCmp.Kit1
import Derived.Shelf.SlSortCmp.InsertionK
import Derived.Lib.SlicesCompact
import Derived.ProofKit
import Derived.ChangeSame
import Derived.Carry
import Derived.SliceStrings
import Derived.ChangeMaps5
import Derived.Deep.Slices
import Derived.Test.YtckjaledibkghaaGreatRows
import Derived.Shelf.Abstract
import Derived.Deep.RegionLaw
import Derived.Lib.Walk
import Derived.Lib.Overlaps
import Derived.Lib.AppendZerosOnto
import Derived.Laws.CopyRow
import Derived.Test.YtckjaledibkghaaGreatK1
import Derived.Test.YtckjaledibkghaaGreatK2
import Derived.Test.YtckjaledibkghaaGreatK3
set_option maxRecDepth 20000
set_option maxHeartbeats 16000000
set_option linter.unusedVariables false
set_option linter.unusedSimpArgs false
namespace Go.Proofs.YtckjaledibkghaaGreat
open Go Go.Abs
theorem aP3 (a b:List Se) (ha:a.length≤9223372036854775807) (hb:b.length≤9223372036854775807) :Den Tryz.prog 87 [.sl 4 (a.map seC),.sl 4 (b.map seC)]  (·=.s (.bool (decide (a=b)))):=by
 refine aS Tryz.func87 rfl (Nat.le_of_ble_eq_true rfl) (fun w0 A hf=>(aC (fun K1 hK1=>(aB (aE aA 1 rfl (aD (hK1 _ (aC (fun K2 hK2=>(aB (aE aA 2 rfl (aJ hf rfl (aK rfl rfl aPc rfl (aPv a b ha hb)) (aE aA 1 rfl (aD (hK2 _ ?_)))))))))))))))
 refine aI ?_
 refine⟨_,rfl,?_⟩
 rfl
theorem aHv (a b:List Se) (ha:a.length≤9223372036854775807) (hb:b.length≤9223372036854775807) :Den Tryz.prog 54 [.sl 4 (a.map seC),.sl 4 (b.map seC)]  (·=.s (.bool (decide (a=b)))):=by
 refine aS Tryz.func54 rfl (Nat.le_of_ble_eq_true rfl) (fun w0 A hf=>(aC (fun K1 hK1=>(aB (aE aA 1 rfl (aD (hK1 _ (aC (fun K2 hK2=>(aC (fun K3 hK3=>(aB (aE aA 5 rfl (aD (hK3 _ (aL rfl (fun hc1=>?_) (fun hc1=>?_)))))))))))))))))
 ·
  simp only[bs] at hc1
  refine aC (fun K4 hK4=>(aB (aE aA 1 rfl (aD (hK4 _ (aI ?_))))))
  refine⟨_,rfl,?_⟩
  refine aP ?_
  rw[nP (by omega)]
 ·
  simp only[bs] at hc1
  refine aM (hK2 _ (aC (fun K5 hK5=>(aC (fun K6 hK6=>(aB (aE aA 1 rfl (aD (hK6 _ (aQ (bR (ι:=Nat) (fun k=>⟨26,[(0,.sl 4 (a.map seC)),(1,.sl 4 (b.map seC)),(5,.s (.int .i64 (k:Nat)))],[]⟩) (fun k=>k≤a.length∧a.take k=b.take k) (fun k=>a.length - k) 0 ?_ ?_ ?_)))))))))))
  · exact⟨Nat.zero_le _,rfl⟩
  · exact cN rfl
  ·
   rintro k hC
   obtain ⟨h1,h2⟩:=hC
   refine aC (fun K7 hK7=>(aC (fun K8 hK8=>(aB (aE aA 4 rfl (aD (hK8 _ (aL rfl (fun hc2=>?_) (fun hc2=>?_)))))))))
   ·
    simp only[bs] at hc2
    refine aM (hK7 _ (aC (fun K9 hK9=>(aQ (aC (fun K10 hK10=>(cM hf bE (by kernel_rfl) rfl (aT aA 2 rfl ?_))))))))
    refine bL [(17,_),(18,_)] rfl rfl ⟨⟨rfl,rfl⟩,⟨rfl,rfl⟩,trivial⟩ rfl (aY rfl rfl eJ dH (by first | exact ixm (by omega) | assumption | exact⟨by decide,rfl⟩)) ?_
    refine aT aA 3 rfl ?_
    refine bL [(21,_),(22,_)] rfl rfl ⟨⟨rfl,rfl⟩,⟨rfl,rfl⟩,trivial⟩ rfl (aY rfl rfl eJ dH (by first | exact ixm (by omega) | assumption | exact⟨by decide,rfl⟩)) ?_
    refine aT aA 1 rfl (bL [(20,_),(24,_)] rfl rfl ⟨⟨rfl,rfl⟩,⟨rfl,rfl⟩,trivial⟩ rfl (sK rfl rfl aWn rfl) ?_)
    rw[aVd]
    refine cP [0,1,5,25] rfl rfl rfl (hK10 _ (aL rfl (fun hc3=>?_) (fun hc3=>?_)))
    ·
     simp only[bs] at hc3
     refine aC (fun K11 hK11=>(aB (aE aA 1 rfl (aD (hK11 _ (aI ?_))))))
     refine⟨_,rfl,?_⟩
     refine aP ?_
     rw[lM (by omega) (by omega) (by assumption)]
    ·
     simp only[bs] at hc3
     refine aM (hK9 _ (aB (aE aA 1 rfl ?_)))
     refine aG rfl (bN rfl rfl (by omega) (by omega)) ?_
     refine aE aA 1 rfl (aD ?_)
     exact⟨k+1,⟨by omega,jI (by omega) (by omega) h2 (by assumption)⟩,by omega,cN rfl⟩
   ·
    simp only[bs] at hc2
    refine bB (hK5 _ (aC (fun K12 hK12=>(aB (aE aA 1 rfl (aD (hK12 _ (aI ?_))))))))
    refine⟨_,rfl,?_⟩
    refine aP ?_
    rw[kV (by omega) (by omega) h2]
theorem fF (l:List Se) (hl:l.length*40+40≤140737488355328) :Den Tryz.prog 40 [.sl 4 (l.map seC)]  (·=.sl 4 (l.map seC)):=by
 refine aS Tryz.func40 rfl (Nat.le_of_ble_eq_true rfl) (fun w0 A hf=>(aC (fun K1 hK1=>(aB (aG rfl (bQ) (aD (hK1 _ (aC (fun K2 hK2=>(aB (lD hf 4 rfl rfl rfl (aD (hK2 _ (aC (fun K3 hK3=>(aC (fun K4 hK4=>?_)))))))))))))))))
 refine aB (aE aA 3 rfl (aD (hK4 _ (aQ (bR (ι:=Nat) (fun k=>⟨18,[(3,.own 3 4 0 (l.take k).length),(6,.sl 4 (l.map seC)),(7,.s (.int .i64 ((l.map seC).length:Nat))),(8,.s (.int .i64 (k:Nat)))],[(3,.buf 4 ((l.take k).map seC))]⟩) (fun k=>k≤l.length) (fun k=>l.length - k) 0 ?_ ?_ ?_)))))
 · exact Nat.zero_le _
 · exact cN rfl
 ·
  rintro k hC
  refine aC (fun K5 hK5=>(aB (aE aA 1 rfl (aD (hK5 _ (aC (fun K6 hK6=>(aL rfl (fun hc1=>?_) (fun hc1=>?_)))))))))
  ·
   simp only[bs] at hc1
   refine aM (hK6 _ (aC (fun K7 hK7=>(aQ (aC (fun K8 hK8=>(aB ?_)))))))
   refine aG rfl (aY rfl rfl eJ dH (by first | exact ixm (by omega) | assumption | exact⟨by decide,rfl⟩)) ?_
   refine aE aA 1 rfl (bV hf rfl oR rfl dH rfl rfl rfl rfl (lf rfl) (aD (hK8 _ (aB ?_))))
   have htl:(l.take k).length=k:=by rw[List.length_take]; omega
   refine aE aA 2 rfl (aJ hf rfl (bD kY rfl rfl rfl rfl (l2 rfl)) (cA hf rfl kY rfl rfl rfl (.inl rfl) (by rw[List.length_map]) rfl (by first | rfl | simp [eV,bU]) (by first | (simp only[maxLen,List.length_map,List.length_append,List.length_cons,List.length_nil]; omega) | (simp [maxLen] <;> omega)) (by first | (simp only[List.length_map,List.length_append,List.length_cons,List.length_nil]; omega) | (simp <;> omega)) ?_))
   refine bO (eR [6,7,8,15] rfl) (aE aA 1 rfl ?_)
   refine bK ?_
   refine hK7 _ (aB ?_)
   refine aG rfl (bN rfl rfl (by omega) (by omega)) ?_
   refine aE aA 1 rfl (aD ?_)
   exact⟨k+1,by omega,by omega,cJ ⟨(by rw[jO l k (by omega)]; rfl),rfl,rfl,rfl,trivial⟩ (by rw[kN l seC k (by omega)]; rfl)⟩
  ·
   simp only[bs] at hc1
   refine bB (hK3 _ (aC (fun K9 hK9=>(aB (aE aA 2 rfl (aD (hK9 _ (aI ?_))))))))
   refine⟨_,rfl,?_⟩
   refine(bX (g:=3) rfl (by rw[List.length_map])).trans ?_
   rw[List.take_of_length_le (by omega)]
theorem fE (l:List Se) (hl:l.length*40+40≤140737488355328) :Den Tryz.prog 56 [.sl 4 (l.map seC)]  (·=.sl 4 (l.map seC)):=by
 refine aS Tryz.func56 rfl (Nat.le_of_ble_eq_true rfl) (fun w0 A hf=>(aC (fun K1 hK1=>(aB (aG rfl (bQ) (aD (hK1 _ (aC (fun K2 hK2=>(aB (lD hf 4 rfl rfl rfl (aD (hK2 _ (aC (fun K3 hK3=>(aC (fun K4 hK4=>?_)))))))))))))))))
 refine aB (aE aA 3 rfl (aD (hK4 _ (aQ (bR (ι:=Nat) (fun k=>⟨18,[(3,.own 3 4 0 (l.take k).length),(6,.sl 4 (l.map seC)),(7,.s (.int .i64 ((l.map seC).length:Nat))),(8,.s (.int .i64 (k:Nat)))],[(3,.buf 4 ((l.take k).map seC))]⟩) (fun k=>k≤l.length) (fun k=>l.length - k) 0 ?_ ?_ ?_)))))
 · exact Nat.zero_le _
 · exact cN rfl
 ·
  rintro k hC
  refine aC (fun K5 hK5=>(aB (aE aA 1 rfl (aD (hK5 _ (aC (fun K6 hK6=>(aL rfl (fun hc1=>?_) (fun hc1=>?_)))))))))
  ·
   simp only[bs] at hc1
   refine aM (hK6 _ (aC (fun K7 hK7=>(aQ (aC (fun K8 hK8=>(aB ?_)))))))
   refine aG rfl (aY rfl rfl eD cY (by first | exact ixm (by omega) | assumption | exact⟨by decide,rfl⟩)) ?_
   refine aE aA 1 rfl (bV hf rfl nW rfl cY rfl rfl rfl rfl (lf rfl) (aD (hK8 _ (aB ?_))))
   have htl:(l.take k).length=k:=by rw[List.length_take]; omega
   refine aE aA 2 rfl (aJ hf rfl (bD fM rfl rfl rfl rfl (l2 rfl)) (cA hf rfl fM rfl rfl rfl (.inl rfl) (by rw[List.length_map]) rfl (by first | rfl | simp [eV,bU]) (by first | (simp only[maxLen,List.length_map,List.length_append,List.length_cons,List.length_nil]; omega) | (simp [maxLen] <;> omega)) (by first | (simp only[List.length_map,List.length_append,List.length_cons,List.length_nil]; omega) | (simp <;> omega)) ?_))
   refine bO (eR [6,7,8,15] rfl) (aE aA 1 rfl ?_)
   refine bK ?_
   refine hK7 _ (aB ?_)
   refine aG rfl (bN rfl rfl (by omega) (by omega)) ?_
   refine aE aA 1 rfl (aD ?_)
   exact⟨k+1,by omega,by omega,cJ ⟨(by rw[jO l k (by omega)]; rfl),rfl,rfl,rfl,trivial⟩ (by rw[kN l seC k (by omega)]; rfl)⟩
  ·
   simp only[bs] at hc1
   refine bB (hK3 _ (aC (fun K9 hK9=>(aB (aE aA 2 rfl (aD (hK9 _ (aI ?_))))))))
   refine⟨_,rfl,?_⟩
   refine(bX (g:=3) rfl (by rw[List.length_map])).trans ?_
   rw[List.take_of_length_le (by omega)]
theorem yG (l:List Se) (u:ByteArray) (hl:l.length*40+40≤140737488355328) :Den Tryz.prog 99 [.sl 4 (l.map seC),.s (.string u)]  (·=.sl 4 ((l.filter (fun e=>!jK u e)).map seC)):=by
 refine aS Tryz.func99 rfl (Nat.le_of_ble_eq_true rfl) (fun w0 A hf=>(aC (fun K1 hK1=>(aB (aJ hf rfl (cI rfl rfl (lf rfl)) (aG rfl (bQ) (aD (hK1 _ (aC (fun K2 hK2=>(aB (aE aA 1 rfl (iO hf rfl rfl rfl rfl rfl iH rfl (jG l (by omega)) ?_)))))))))))))
 rintro _ rfl
 refine aG rfl (eW rfl) (hZ hf 6 rfl rfl rfl rfl rfl aO5 (aDu aO4 rfl (fun _=>rfl) (fun e=>jK u e) l _ (by rw[List.length_map]) (by omega) (fun x _=>aDv x u)) ?_)
 rintro r zs ⟨rfl,rfl⟩
 refine aE aA 1 rfl (aD (hK2 _ (aI ?_)))
 refine⟨_,rfl,?_⟩
 exact bX (g:=6) rfl (by rw[List.length_map])
theorem tK (l:List Se) (u:ByteArray) (hl:l.length*40+40≤140737488355328) :Den Tryz.prog 50 [.sl 4 (l.map seC),.s (.string u)]  (·=.sl 4 ((l.filter (fun e=>!jK u e)).map seC)):=by
 refine aS Tryz.func50 rfl (Nat.le_of_ble_eq_true rfl) (fun w0 A hf=>(aC (fun K1 hK1=>(aB (aG rfl (bQ) (aD (hK1 _ (aC (fun K2 hK2=>(aB (lD hf 4 rfl rfl rfl (aD (hK2 _ (aC (fun K3 hK3=>(aC (fun K4 hK4=>?_)))))))))))))))))
 refine aB (aE aA 1 rfl (aD (hK4 _ (aQ (bR (ι:=Nat×List Se) (fun(⟨k,out⟩:Nat×List Se)=>⟨28,[(0,.sl 4 (l.map seC)),(1,.s (.string u)),(5,.own 5 4 0 out.length),(6,.s (.int .i64 (k:Nat)))],[(5,.buf 4 (out.map seC))]⟩) (fun(⟨k,out⟩:Nat×List Se)=>k≤l.length∧out=(l.take k).filter (fun e=>!jK u e)∧out.length≤k) (fun(⟨k,out⟩:Nat×List Se)=>l.length - k) (0,[]) ?_ ?_ ?_)))))
 · exact⟨Nat.zero_le _,rfl,Nat.le_refl _⟩
 · exact cN rfl
 ·
  rintro ⟨k,out⟩ hC
  obtain ⟨h1,h2,h3⟩:=hC
  refine aC (fun K5 hK5=>(aC (fun K6 hK6=>(aB (aE aA 4 rfl (aD (hK6 _ (aL rfl (fun hc1=>?_) (fun hc1=>?_)))))))))
  ·
   simp only[bs] at hc1
   refine aM (hK5 _ (aC (fun K7 hK7=>(aQ (aC (fun K8 hK8=>(aB (aE aA 2 rfl ?_))))))))
   refine aG rfl (aY rfl rfl eJ dH (by first | exact ixm (by omega) | assumption | exact⟨by decide,rfl⟩)) ?_
   refine aE aA 4 rfl (aD (hK8 _ (aL rfl (fun hc2=>?_) (fun hc2=>?_))))
   ·
    simp only[bs] at hc2
    refine aB (aE aA 3 rfl ?_)
    refine aG rfl (aY rfl rfl eJ dH (by first | exact ixm (by omega) | assumption | exact⟨by decide,rfl⟩)) ?_
    refine aE aA 1 rfl (aJ hf rfl (bD fM rfl rfl rfl rfl (l2 rfl)) (cA hf rfl fM rfl rfl rfl (.inl rfl) (by rw[List.length_map]) rfl (by first | rfl | simp [eV,bU]) (by first | (simp only[maxLen,List.length_map,List.length_append,List.length_cons,List.length_nil]; omega) | (simp [maxLen] <;> omega)) (by first | (simp only[List.length_map,List.length_append,List.length_cons,List.length_nil]; omega) | (simp <;> omega)) ?_))
    refine bO (eR [0,1,6,26] rfl) (aE aA 1 rfl ?_)
    refine bK ?_
    refine hK7 _ (aB (aE aA 1 rfl ?_))
    refine aG rfl (bN rfl rfl (by omega) (by omega)) ?_
    refine aE aA 1 rfl (aD ?_)
    exact⟨(k+1,out++[l[k]]),⟨by omega,by rw[h2,aKx (by omega) (by simp_all[jK,toList_inj])],by rw[List.length_append]; simp only[List.length_cons,List.length_nil]; omega⟩,by simp only; omega,cJ ⟨rfl,rfl,(by rw[List.length_append]; rfl),rfl,trivial⟩ (by rw[List.map_append]; rfl)⟩
   ·
    simp only[bs] at hc2
    refine aM (hK7 _ (aB (aE aA 1 rfl ?_)))
    refine aG rfl (bN rfl rfl (by omega) (by omega)) ?_
    refine aE aA 1 rfl (aD ?_)
    exact⟨(k+1,out),⟨by omega,by rw[h2,aGh (by omega) (by simp_all[jK,toList_inj])],by omega⟩,by simp only; omega,cJ ⟨rfl,rfl,rfl,rfl,trivial⟩ rfl⟩
  ·
   simp only[bs] at hc1
   refine bB (hK3 _ (aC (fun K9 hK9=>(aB (aE aA 2 rfl (aD (hK9 _ (aI ?_))))))))
   refine⟨_,rfl,?_⟩
   refine(bX (g:=5) rfl (by rw[List.length_map])).trans ?_
   rw[h2,List.take_of_length_le (by omega)]
end Go.Proofs.YtckjaledibkghaaGreat
set_option linter.unusedVariables false
set_option linter.unusedSimpArgs false
namespace Go.Proofs.YtckjaledibkghaaGreat
open Go Go.Abs
theorem aT3 (l:List En) (p:Pr) (t:Int) (hl:l.length*48+48≤140737488355328) :Den Tryz.prog 110 [.sl 4 (l.map enC),.agg (prC p),.s (.int .i64 t)]  (·=.tup [.sl 4 ((if onB l p then [] else iC l p t).map enC),.s (.int .i64 (if onB l p then 90 else 0))]):=by
 refine aS Tryz.func110 rfl (Nat.le_of_ble_eq_true rfl) (fun w0 A hf=>(aC (fun K1 hK1=>(aB (aJ hf rfl (cI rfl rfl (lf rfl)) (aG rfl (bQ) (aE aA 1 rfl (aD (hK1 _ (aC (fun K2 hK2=>(aC (fun K3 hK3=>(aB (aE aA 2 rfl (aJ hf rfl (aK rfl rfl aOw rfl (aM7 _ _ (by omega))) ?_))))))))))))))))
 refine aD (hK3 _ (aL rfl (fun hc1=>?_) (fun hc1=>?_)))
 ·
  refine aC (fun K4 hK4=>(aB (aG rfl (rL (k:=4)) (aE aA 1 rfl (aD (hK4 _ (aI ?_)))))))
  refine⟨_,rfl,?_⟩
  rw[show onB l p=true by assumption]; rfl
 ·
  refine aM (hK2 _ (aC (fun K5 hK5=>(aB (aE aA 2 rfl (aG rfl (cB rfl aBc xW (l3 rfl) rfl) (aG rfl (cB rfl mG aGy (l3 rfl) rfl) (bV hf rfl mG rfl dL rfl rfl rfl rfl (lf rfl) (aD (hK5 _ (aC (fun K6 hK6=>(aB (aE aA 1 rfl ?_))))))))))))))
  refine aG rfl (eW rfl) (aJ hf rfl (aK rfl rfl sY rfl (oM aOv rfl (fun x=>decide (0<mL x (p,(t,1099511627776)))) l (by omega) (fun x _=>aQr x (p,(t,1099511627776))))) (aE aA 1 rfl (aD (hK6 _ (aC (fun K7 hK7=>(aC (fun K8 hK8=>(aB (aE aA 2 rfl (aD (hK8 _ (aL rfl (fun hc2=>?_) (fun hc2=>?_))))))))))))))
  ·
   simp only[bs] at hc2
   obtain ⟨k,hk⟩:∃ k:Nat,k=l.length:=⟨_,rfl⟩
   have hno:∀ x∈l,¬ 0<mL x (p,(t,1099511627776)):=by
     rcases dS (fun x=>decide (0<mL x (p,(t,1099511627776)))) l with ⟨_,h⟩ | ⟨k',_,e,_⟩
     · intro x hx; simpa using h x hx
     · exfalso; omega
   have hins:=aA1 (p,(t,1099511627776)) l k (by omega) (fun j hj _=>hno _ (List.getElem_mem hj)) (fun h=>by omega)
   refine aB (aE aA 2 rfl ?_)
   rw[List.length_map,← hk]
   refine aE aA 1 rfl (aD (hK7 _ (aC (fun K9 hK9=>(cM hf bE (by kernel_rfl) rfl (aT aA 2 rfl (bL [(24,_),(25,_)] rfl rfl ⟨⟨rfl,rfl⟩,⟨rfl,rfl⟩,trivial⟩ rfl (dE rfl eY dL rfl (kE rfl (by omega)) (by omega) (by simp only[List.length_map,Int.toNat_natCast] <;> omega) (jR (k:=k) (by omega))) ?_)))))))
   refine aT aA 1 rfl (aZ [(27,_)] rfl rfl ⟨⟨rfl,rfl⟩,trivial⟩ rfl (bD kW rfl rfl rfl rfl (l2 rfl)) (aT aA 2 rfl (bL [(29,_),(30,_)] rfl rfl ⟨⟨rfl,rfl⟩,⟨rfl,rfl⟩,trivial⟩ rfl (dE rfl eY dL (kE rfl (by omega)) rfl (by simp only[List.length_map,Int.toNat_natCast] <;> omega) (by omega) (gL (k:=k) (by omega))) ?_)))
   refine aZ [(26,_),(28,_),(31,_)] rfl rfl ⟨⟨rfl,rfl⟩,⟨rfl,rfl⟩,⟨rfl,rfl⟩,trivial⟩ rfl (bD aHf rfl rfl rfl rfl (l2 rfl)) (aZ [(32,_)] rfl rfl ⟨⟨rfl,rfl⟩,trivial⟩ rfl (aK rfl rfl aDh rfl ((show Den Tryz.prog _ _ (·=.sl 4 ((l.take k++(p,(t,1099511627776))::l.drop k).map enC)) from (dC (aCu [l.take k,[(p,(t,1099511627776))],l.drop k] (by simp) (by simp only[List.flatten_cons,List.flatten_nil,List.length_append,List.length_take,List.length_drop,List.length_cons,List.length_nil]; omega))).mono fun r h=>h.trans (by simp)))) ?_)
   refine aT aA 2 rfl (cP [6,7] rfl rfl rfl (hK9 _ (aI ?_)))
   refine⟨_,rfl,?_⟩
   rw[show onB l p=false from by first | assumption | (simp at *; assumption),← hins]; rfl
  ·
   simp only[bs] at hc2
   obtain ⟨k,hk,ek,hk1,hk2⟩:∃ k:Nat,∃ h:k<l.length,oD (fun x=>decide (0<mL x (p,(t,1099511627776)))) l=(k:Nat)∧0<mL l[k] (p,(t,1099511627776))∧∀ (j:Nat) (hj:j<l.length),j<k→¬ 0<mL l[j] (p,(t,1099511627776)):=by
     rcases dS (fun x=>decide (0<mL x (p,(t,1099511627776)))) l with ⟨e,_⟩ | ⟨k',h1,e,h2,h3⟩
     · exfalso; omega
     · exact⟨k',h1,e,by simpa using h2,fun j hj hjk=>by simpa using h3 j hj hjk⟩
   rw[ek]
   have hins:=aA1 (p,(t,1099511627776)) l k (by omega) hk2 (fun _=>hk1)
   refine aM (hK7 _ (aC (fun K10 hK10=>(cM hf bE (by kernel_rfl) rfl (aT aA 2 rfl (bL [(24,_),(25,_)] rfl rfl ⟨⟨rfl,rfl⟩,⟨rfl,rfl⟩,trivial⟩ rfl (dE rfl eY dL rfl (kE rfl (by omega)) (by omega) (by simp only[List.length_map,Int.toNat_natCast] <;> omega) (jR (k:=k) (by omega))) ?_))))))
   refine aT aA 1 rfl (aZ [(27,_)] rfl rfl ⟨⟨rfl,rfl⟩,trivial⟩ rfl (bD kW rfl rfl rfl rfl (l2 rfl)) (aT aA 2 rfl (bL [(29,_),(30,_)] rfl rfl ⟨⟨rfl,rfl⟩,⟨rfl,rfl⟩,trivial⟩ rfl (dE rfl eY dL (kE rfl (by omega)) rfl (by simp only[List.length_map,Int.toNat_natCast] <;> omega) (by omega) (gL (k:=k) (by omega))) ?_)))
   refine aZ [(26,_),(28,_),(31,_)] rfl rfl ⟨⟨rfl,rfl⟩,⟨rfl,rfl⟩,⟨rfl,rfl⟩,trivial⟩ rfl (bD aHf rfl rfl rfl rfl (l2 rfl)) (aZ [(32,_)] rfl rfl ⟨⟨rfl,rfl⟩,trivial⟩ rfl (aK rfl rfl aDh rfl ((show Den Tryz.prog _ _ (·=.sl 4 ((l.take k++(p,(t,1099511627776))::l.drop k).map enC)) from (dC (aCu [l.take k,[(p,(t,1099511627776))],l.drop k] (by simp) (by simp only[List.flatten_cons,List.flatten_nil,List.length_append,List.length_take,List.length_drop,List.length_cons,List.length_nil]; omega))).mono fun r h=>h.trans (by simp)))) ?_)
   refine aT aA 2 rfl (cP [6,7] rfl rfl rfl (hK10 _ (aI ?_)))
   refine⟨_,rfl,?_⟩
   rw[show onB l p=false from by first | assumption | (simp at *; assumption),← hins]; rfl
end Go.Proofs.YtckjaledibkghaaGreat
set_option linter.unusedVariables false
set_option linter.unusedSimpArgs false
namespace Go.Proofs.YtckjaledibkghaaGreat
open Go Go.Abs
theorem of_den (e:En) (p:Pr) :Den Tryz.prog 173 [.agg (enC e),.agg (prC p)]  (·=.s (.bool (ofB p e))):=by
 refine aS Tryz.func173 rfl (Nat.le_of_ble_eq_true rfl) (fun w0 A hf=>(aC (fun K1 hK1=>(aB (aJ hf rfl (cI rfl rfl (lf rfl)) (aJ hf rfl (cI rfl rfl (lf rfl)) (aE aA 1 rfl (aD (hK1 _ (aC (fun K2 hK2=>(aB (aE aA 6 rfl (aW rfl rfl rfl (fun hg1=>?_) (fun hg1=>?_)))))))))))))))
 ·
  simp only[bs] at hg1
  refine aG rfl (bF rfl aC1 cR rfl) ?_
  refine aE aA 6 rfl (aD (hK2 _ (aI ?_)))
  refine⟨_,rfl,?_⟩
  refine aP ?_
  unfold ofB
  rw[Bool.eq_iff_iff]
  simp_all[Prod.ext_iff,toList_inj]
 ·
  simp only[bs] at hg1
  refine aE aA 6 rfl (aD (hK2 _ (aI ?_)))
  refine⟨_,rfl,?_⟩
  refine aP ?_
  unfold ofB
  rw[Bool.eq_iff_iff]
  simp_all[Prod.ext_iff,toList_inj]
theorem aGu (a b:En) (h1:TS a.1.1) (h2:TS a.1.2) (h3:TS b.1.1) (h4:TS b.1.2) :Den Tryz.prog 101 [.agg (enC a),.agg (enC b)]  (·=.s (.bool (decide (mL a b<0)))):=by
 refine aS Tryz.func101 rfl (Nat.le_of_ble_eq_true rfl) (fun w0 A hf=>(aC (fun K1 hK1=>(aB (aJ hf rfl (cI rfl rfl (lf rfl)) (aJ hf rfl (cI rfl rfl (lf rfl)) (aE aA 1 rfl (aD (hK1 _ (aC (fun K2 hK2=>(aB (aE aA 4 rfl (aJ hf rfl (aK rfl rfl pI rfl (Nm.refCmp_den _ _ (by first | assumption | exact(ht _ (List.getElem_mem _)).1 | exact(ht _ (List.getElem_mem _)).2) (by first | assumption | exact(ht _ (List.getElem_mem _)).1 | exact(ht _ (List.getElem_mem _)).2))) ?_))))))))))))))
 refine aE aA 1 rfl (aD (hK2 _ (aC (fun K3 hK3=>(aC (fun K4 hK4=>(aB (aE aA 2 rfl (aD (hK4 _ (aL rfl (fun hc1=>?_) (fun hc1=>?_))))))))))))
 ·
  simp only[bs] at hc1
  refine aC (fun K5 hK5=>(aB (aE aA 3 rfl (aD (hK5 _ (aI ?_))))))
  refine⟨_,rfl,?_⟩
  refine aP ?_
  unfold mL tN xQ
  simp only[orI,nA]
  rw[Bool.eq_iff_iff]
  (repeat' split) <;> simp_all <;> omega
 ·
  simp only[bs] at hc1
  refine aM (hK3 _ (aC (fun K6 hK6=>(aB (aE aA 4 rfl (aJ hf rfl (aK rfl rfl pI rfl (Nm.refCmp_den _ _ (by first | assumption | exact(ht _ (List.getElem_mem _)).1 | exact(ht _ (List.getElem_mem _)).2) (by first | assumption | exact(ht _ (List.getElem_mem _)).1 | exact(ht _ (List.getElem_mem _)).2))) ?_))))))
  refine aE aA 1 rfl (aD (hK6 _ (aC (fun K7 hK7=>(aC (fun K8 hK8=>(aB (aE aA 2 rfl (aD (hK8 _ (aL rfl (fun hc2=>?_) (fun hc2=>?_))))))))))))
  ·
   simp only[bs] at hc2
   refine aC (fun K9 hK9=>(aB (aE aA 3 rfl (aD (hK9 _ (aI ?_))))))
   refine⟨_,rfl,?_⟩
   refine aP ?_
   unfold mL tN xQ
   simp only[orI,nA]
   rw[Bool.eq_iff_iff]
   (repeat' split) <;> simp_all <;> omega
  ·
   simp only[bs] at hc2
   refine aM (hK7 _ (aC (fun K10 hK10=>(aB (aE aA 6 rfl (aD (hK10 _ (aI ?_))))))))
   refine⟨_,rfl,?_⟩
   refine aP ?_
   unfold mL tN xQ
   simp only[orI,nA]
   rw[Bool.eq_iff_iff]
   (repeat' split) <;> simp_all <;> omega
theorem aAq (l:List En) (p:Pr) (hl:l.length≤9223372036854775807) :Den Tryz.prog 121 [.sl 4 (l.map enC),.agg (prC p)]  (·=.s (.int .i64 (oD (eX p) l))):=by
 refine aS Tryz.func121 rfl (Nat.le_of_ble_eq_true rfl) (fun w0 A hf=>(aC (fun K1 hK1=>(aB (aJ hf rfl (cI rfl rfl (lf rfl)) (aE aA 1 rfl (aD (hK1 _ (aC (fun K2 hK2=>(aC (fun K3 hK3=>(aB (aE aA 1 rfl (aD (hK3 _ ?_))))))))))))))))
 refine aQ (bR (ι:=Nat) (fun k=>⟨27,[(0,.sl 4 (l.map enC)),(3,.adr (prC p)),(5,.s (.int .i64 (k:Nat)))],[]⟩) (fun k=>k≤l.length∧∀ (j:Nat) (hj:j<l.length),j<k→eX p l[j]=false) (fun k=>l.length - k) 0 ?_ ?_ ?_)
 · exact⟨Nat.zero_le _,by omega⟩
 · exact cN rfl
 ·
  rintro k hC
  obtain ⟨h1,h2⟩:=hC
  refine aC (fun K4 hK4=>(aC (fun K5 hK5=>(aB (aE aA 4 rfl (aD (hK5 _ (aL rfl (fun hc1=>?_) (fun hc1=>?_)))))))))
  ·
   simp only[bs] at hc1
   refine aM (hK4 _ (aC (fun K6 hK6=>(aQ (aC (fun K7 hK7=>(cM hf bE (by kernel_rfl) rfl (aT aA 2 rfl ?_))))))))
   refine bL [(12,_),(13,_)] rfl rfl ⟨⟨rfl,rfl⟩,⟨rfl,rfl⟩,trivial⟩ rfl (aY rfl rfl fC eG (by first | exact ixm (by omega) | assumption | exact⟨by decide,rfl⟩)) ?_
   refine aT aA 2 rfl (aZ [(15,_),(16,_)] rfl rfl ⟨⟨rfl,rfl⟩,⟨rfl,rfl⟩,trivial⟩ rfl (aK rfl rfl aOo rfl (of_den _ _)) (aT aA 1 rfl (dP 18 true rfl (fun hg2=>?_) (fun hg2=>?_))))
   ·
    refine aT aA 2 rfl ?_
    refine bL [(19,_),(20,_)] rfl rfl ⟨⟨rfl,rfl⟩,⟨rfl,rfl⟩,trivial⟩ rfl (aY rfl rfl fC eG (by first | exact ixm (by omega) | assumption | exact⟨by decide,rfl⟩)) ?_
    refine aT aA 4 rfl (cP [0,3,5,25] rfl rfl rfl (hK7 _ (aL rfl (fun hc3=>?_) (fun hc3=>?_))))
    ·
     simp only[bs] at hc3
     refine aC (fun K8 hK8=>(aB (aE aA 2 rfl (aD (hK8 _ (aI ?_))))))
     refine⟨_,rfl,?_⟩
     refine eQ ?_
     rw[kH (by omega) h2 (by simp_all[eX,ofB])]
    ·
     simp only[bs] at hc3
     refine aM (hK6 _ (aB (aE aA 1 rfl ?_)))
     refine aG rfl (bN rfl rfl (by omega) (by omega)) ?_
     refine aE aA 1 rfl (aD ?_)
     exact⟨k+1,⟨by omega,fun j hj hjk=>by
       by_cases e:j=k
       · subst e; simp_all[eX,ofB]
       · exact h2 j hj (by omega)⟩,by omega,cN rfl⟩
   ·
    simp only[bs] at hg2
    refine aT aA 7 rfl (cP [0,3,5,25] rfl rfl rfl (hK7 _ (bG rfl (aM (hK6 _ (aB (aE aA 1 rfl ?_)))))))
    refine aG rfl (bN rfl rfl (by omega) (by omega)) ?_
    refine aE aA 1 rfl (aD ?_)
    exact⟨k+1,⟨by omega,fun j hj hjk=>by
      by_cases e:j=k
      · subst e; simp_all[eX,ofB]
      · exact h2 j hj (by omega)⟩,by omega,cN rfl⟩
  ·
   simp only[bs] at hc1
   refine bB (hK2 _ (aC (fun K9 hK9=>(aB (aE aA 1 rfl (aD (hK9 _ (aI ?_))))))))
   refine⟨_,rfl,?_⟩
   refine eQ ?_
   rw[oZ (fun j hj=>h2 j hj (by omega))]
theorem aKb (l:List En) (p:Pr) (t:Int) (hl:l.length*48+48≤140737488355328) (ht:∀ e∈l,TS e.1.1∧TS e.1.2) (hp1:TS p.1) (hp2:TS p.2) :Den Tryz.prog 48 [.sl 4 (l.map enC),.agg (prC p),.s (.int .i64 t)]  (·=.tup [.sl 4 ((if onB l p then [] else iC l p t).map enC),.s (.int .i64 (if onB l p then 90 else 0))]):=by
 refine aS Tryz.func48 rfl (Nat.le_of_ble_eq_true rfl) (fun w0 A hf=>(aC (fun K1 hK1=>(aB (aJ hf rfl (cI rfl rfl (lf rfl)) (aG rfl (bQ) (aE aA 1 rfl (aD (hK1 _ (aC (fun K2 hK2=>(aC (fun K3 hK3=>(aB (aE aA 2 rfl (aJ hf rfl (aK rfl rfl aDp rfl (aAq _ _ (by omega))) ?_))))))))))))))))
 refine aE aA 1 rfl (aD (hK3 _ (aL rfl (fun hc1=>?_) (fun hc1=>?_))))
 ·
  simp only[bs] at hc1
  refine aC (fun K4 hK4=>(aB (aG rfl (rL (k:=4)) (aE aA 1 rfl (aD (hK4 _ (aI ?_)))))))
  refine⟨_,rfl,?_⟩
  rw[show onB l p=true from onB_t (by omega)]; rfl
 ·
  simp only[bs] at hc1
  refine aM (hK2 _ (aC (fun K5 hK5=>(aB (aE aA 5 rfl (aG rfl (cB rfl rY aJj (l3 rfl) rfl) (bV hf rfl rY rfl eG rfl rfl rfl rfl (lf rfl) (aD (hK5 _ (aC (fun K6 hK6=>(aB (aE aA 1 rfl (aD ?_))))))))))))))
  refine hK6 _ (aC (fun K7 hK7=>(aQ (bR (ι:=Nat) (fun k=>⟨50,[(0,.sl 4 (l.map enC)),(8,.adr (enC (p,(t,1099511627776)))),(9,.s (.int .i64 (k:Nat)))],[]⟩) (fun k=>k≤l.length∧∀ (j:Nat) (hj:j<l.length),j<k→¬ 0<mL l[j] (p,(t,1099511627776))) (fun k=>l.length - k) 0 ?_ ?_ ?_))))
  · exact⟨Nat.zero_le _,by omega⟩
  · exact cN rfl
  ·
   rintro k hC
   obtain ⟨h1,h2⟩:=hC
   refine aC (fun K8 hK8=>(aC (fun K9 hK9=>(cM hf bE (by kernel_rfl) rfl (aT aA 5 rfl (dP 25 true rfl (fun hg2=>?_) (fun hg2=>?_)))))))
   ·
    simp only[bs] at hg2
    refine aT aA 3 rfl ?_
    refine bL [(27,_),(28,_)] rfl rfl ⟨⟨rfl,rfl⟩,⟨rfl,rfl⟩,trivial⟩ rfl (aY rfl rfl fC eG (by first | exact ixm (by omega) | assumption | exact⟨by decide,rfl⟩)) ?_
    refine aT aA 1 rfl (aZ [(26,_),(30,_)] rfl rfl ⟨⟨rfl,rfl⟩,⟨rfl,rfl⟩,trivial⟩ rfl (aK rfl rfl aDs rfl (aGu (p,(t,1099511627776)) _ hp1 hp2 (ht _ (List.getElem_mem _)).1 (ht _ (List.getElem_mem _)).2)) (aT aA 2 rfl (cP [0,8,9,33] rfl rfl rfl (hK9 _ (aL rfl (fun hc3=>?_) (fun hc3=>?_))))))
    ·
     simp only[bs] at hc3
     refine aM (hK8 _ (aQ (aB (aE aA 1 rfl ?_))))
     refine aG rfl (bN rfl rfl (by omega) (by omega)) ?_
     refine aE aA 1 rfl ?_
     refine bK ?_
     exact⟨k+1,⟨by omega,fun j hj hjk=>by
       by_cases e:j=k
       · subst e; have:=ordE_tri.swap l[j] (p,(t,1099511627776)); (try simp only[decide_eq_true_eq,decide_eq_false_iff_not,Bool.not_eq_true'] at *); omega
       · exact h2 j hj (by omega)⟩,by omega,cN rfl⟩
    ·
     simp only[bs] at hc3
     refine bB (hK7 _ (aC (fun K10 hK10=>(aB ?_))))
     have hins:=aA1 (p,(t,1099511627776)) l k (by omega) h2 (fun h=>by have:=ordE_tri.swap l[k] (p,(t,1099511627776)); (try simp only[decide_eq_true_eq,decide_eq_false_iff_not,Bool.not_eq_true'] at *); omega)
     refine fU hf rfl rfl rfl eA rfl rfl rfl rfl (l2 rfl) ?_
     refine aE aA 2 rfl (aG rfl (dE rfl fC eG rfl (kE rfl (by omega)) (by omega) (by simp only[List.length_map,Int.toNat_natCast] <;> omega) (jR (k:=k) (by omega))) ?_)
     refine cA hf rfl eA rfl rfl rfl (.inl rfl) (by first | rfl | (simp only[List.length_append,List.length_map,List.length_cons,List.length_nil,List.length_take] <;> omega)) rfl (by first | rfl | simp [eV,bU]) (by first | (simp only[maxLen,List.length_map,List.length_append,List.length_cons,List.length_nil]; omega) | (simp [maxLen] <;> omega)) (by first | (simp only[List.length_map,List.length_append,List.length_cons,List.length_nil]; omega) | (simp <;> omega)) ?_
     refine bO (eR [0,8,9,40] rfl) (aE aA 1 rfl (aD (hK10 _ (aC (fun K11 hK11=>(aB (aE aA 2 rfl (aJ hf rfl (bD eA rfl rfl rfl rfl (l2 rfl)) (cA hf rfl eA rfl rfl rfl (.inl rfl) (by first | rfl | (simp only[List.length_append,List.length_map,List.length_cons,List.length_nil,List.length_take] <;> omega)) rfl (by first | rfl | simp [eV,bU]) (by first | (simp only[maxLen,List.length_map,List.length_append,List.length_cons,List.length_nil]; omega) | (simp [maxLen] <;> omega)) (by first | (simp only[List.length_map,List.length_append,List.length_cons,List.length_nil]; omega) | (simp <;> omega)) ?_)))))))))
     refine bO (eR [0,9,44] rfl) (aE aA 1 rfl (aD (hK11 _ (aC (fun K12 hK12=>(aB (aE aA 3 rfl (aG rfl (dE rfl fC eG (kE rfl (by omega)) rfl (by simp only[List.length_map,Int.toNat_natCast] <;> omega) (by omega) (gL (k:=k) (by omega))) ?_))))))))
     refine cA hf rfl eA rfl rfl rfl (.inl rfl) (by first | rfl | (simp only[List.length_append,List.length_map,List.length_cons,List.length_nil,List.length_take] <;> omega)) rfl (by first | rfl | simp [eV,bU]) (by first | (simp only[maxLen,List.length_map,List.length_append,List.length_cons,List.length_nil]; omega) | (simp [maxLen] <;> omega)) (by first | (simp only[List.length_map,List.length_append,List.length_cons,List.length_nil]; omega) | (simp <;> omega)) ?_
     refine bO (eR [49] rfl) (aE aA 2 rfl (aD (hK12 _ (aI ?_))))
     refine⟨_,rfl,?_⟩
     rw[show onB l p=false from aSp (by omega)]
     refine(congrArg (fun z=>AV.tup [z,.s (.int .i64 0)]) (bX (g:=36) rfl ?_)).trans ?_
     · simp only[List.length_append,List.length_map,List.length_cons,List.length_nil,List.length_take]
     · rw[if_neg (by simp),if_neg (by simp),iC,hins]; first | (simp; done) | (simp; rfl)
   ·
    simp only[bs] at hg2
    refine aT aA 8 rfl (cP [0,8,9,33] rfl rfl rfl (hK9 _ (bG rfl (bB (hK7 _ (aC (fun K13 hK13=>(aB ?_))))))))
    have hins:=aA1 (p,(t,1099511627776)) l k (by omega) h2 (fun h=>by have:=ordE_tri.swap l[k] (p,(t,1099511627776)); (try simp only[decide_eq_true_eq,decide_eq_false_iff_not,Bool.not_eq_true'] at *); omega)
    refine fU hf rfl rfl rfl eA rfl rfl rfl rfl (l2 rfl) ?_
    refine aE aA 2 rfl (aG rfl (dE rfl fC eG rfl (kE rfl (by omega)) (by omega) (by simp only[List.length_map,Int.toNat_natCast] <;> omega) (jR (k:=k) (by omega))) ?_)
    refine cA hf rfl eA rfl rfl rfl (.inl rfl) (by first | rfl | (simp only[List.length_append,List.length_map,List.length_cons,List.length_nil,List.length_take] <;> omega)) rfl (by first | rfl | simp [eV,bU]) (by first | (simp only[maxLen,List.length_map,List.length_append,List.length_cons,List.length_nil]; omega) | (simp [maxLen] <;> omega)) (by first | (simp only[List.length_map,List.length_append,List.length_cons,List.length_nil]; omega) | (simp <;> omega)) ?_
    refine bO (eR [0,8,9,40] rfl) (aE aA 1 rfl (aD (hK13 _ (aC (fun K14 hK14=>(aB (aE aA 2 rfl (aJ hf rfl (bD eA rfl rfl rfl rfl (l2 rfl)) (cA hf rfl eA rfl rfl rfl (.inl rfl) (by first | rfl | (simp only[List.length_append,List.length_map,List.length_cons,List.length_nil,List.length_take] <;> omega)) rfl (by first | rfl | simp [eV,bU]) (by first | (simp only[maxLen,List.length_map,List.length_append,List.length_cons,List.length_nil]; omega) | (simp [maxLen] <;> omega)) (by first | (simp only[List.length_map,List.length_append,List.length_cons,List.length_nil]; omega) | (simp <;> omega)) ?_)))))))))
    refine bO (eR [0,9,44] rfl) (aE aA 1 rfl (aD (hK14 _ (aC (fun K15 hK15=>(aB (aE aA 3 rfl (aG rfl (dE rfl fC eG (kE rfl (by omega)) rfl (by simp only[List.length_map,Int.toNat_natCast] <;> omega) (by omega) (gL (k:=k) (by omega))) ?_))))))))
    refine cA hf rfl eA rfl rfl rfl (.inl rfl) (by first | rfl | (simp only[List.length_append,List.length_map,List.length_cons,List.length_nil,List.length_take] <;> omega)) rfl (by first | rfl | simp [eV,bU]) (by first | (simp only[maxLen,List.length_map,List.length_append,List.length_cons,List.length_nil]; omega) | (simp [maxLen] <;> omega)) (by first | (simp only[List.length_map,List.length_append,List.length_cons,List.length_nil]; omega) | (simp <;> omega)) ?_
    refine bO (eR [49] rfl) (aE aA 2 rfl (aD (hK15 _ (aI ?_))))
    refine⟨_,rfl,?_⟩
    rw[show onB l p=false from aSp (by omega)]
    refine(congrArg (fun z=>AV.tup [z,.s (.int .i64 0)]) (bX (g:=36) rfl ?_)).trans ?_
    · simp only[List.length_append,List.length_map,List.length_cons,List.length_nil,List.length_take]
    · rw[if_neg (by simp),if_neg (by simp),iC,hins]; first | (simp; done) | (simp; rfl)
theorem aHx (l:List En) (p:Pr) (t:Int) (hl:l.length*48+48≤140737488355328) :Den Tryz.prog 49 [.sl 4 (l.map enC),.agg (prC p),.s (.int .i64 t)]  (·=.tup [.sl 4 ((if onB l p then kA l p t else []).map enC),.s (.int .i64 (if onB l p then 0 else 91))]):=by
 refine aS Tryz.func49 rfl (Nat.le_of_ble_eq_true rfl) (fun w0 A hf=>(aC (fun K1 hK1=>(aB (aJ hf rfl (cI rfl rfl (lf rfl)) (aG rfl (bQ) (aE aA 1 rfl (aD (hK1 _ (aC (fun K2 hK2=>(aB (aE aA 2 rfl (aJ hf rfl (aK rfl rfl aDp rfl (aAq _ _ (by omega))) (aE aA 1 rfl ?_)))))))))))))))
 refine aD (hK2 _ (aC (fun K3 hK3=>(aC (fun K4 hK4=>(aB (aE aA 2 rfl (aD (hK4 _ (aL rfl (fun hc1=>?_) (fun hc1=>?_)))))))))))
 ·
  simp only[bs] at hc1
  refine aC (fun K5 hK5=>(aB (aG rfl (rL (k:=4)) (aE aA 1 rfl (aD (hK5 _ (aI ?_)))))))
  refine⟨_,rfl,?_⟩
  rw[show onB l p=false from aSp (by omega)]; rfl
 ·
  simp only[bs] at hc1
  obtain ⟨n,hn,en,hn1,hn2⟩:∃ n:Nat,∃ h:n<l.length,oD (eX p) l=(n:Nat)∧eX p l[n]=true∧∀ (j:Nat) (hj:j<l.length),j<n→eX p l[j]=false:=by
    rcases dS (eX p) l with ⟨e,_⟩ | ⟨k',h1,e,h2,h3⟩
    · exfalso; omega
    · exact⟨k',h1,e,h2,h3⟩
  rw[en]
  refine aM (hK3 _ (aC (fun K6 hK6=>(aB (lD hf 4 rfl rfl rfl (aD (hK6 _ (aC (fun K7 hK7=>(aC (fun K8 hK8=>(aB (aE aA 1 rfl (aD (hK8 _ ?_)))))))))))))))
  refine aQ (bR (ι:=Nat×List En) (fun(⟨k,out⟩:Nat×List En)=>⟨47,[(0,.sl 4 (l.map enC)),(2,.s (.int .i64 t)),(8,.s (.int .i64 (n:Nat))),(9,.own 9 4 0 out.length),(10,.s (.int .i64 (k:Nat)))],[(9,.buf 4 (out.map enC))]⟩) (fun(⟨k,out⟩:Nat×List En)=>RevI l n t k out) (fun(⟨k,out⟩:Nat×List En)=>l.length - k) (0,[]) ?_ ?_ ?_)
  · exact RevI.start t hn
  · exact cN rfl
  ·
   rintro ⟨k,out⟩ hC
   have h1:=hC.1
   have h2:=hC.len
   refine aC (fun K9 hK9=>(aC (fun K10 hK10=>(aB (aE aA 4 rfl (aD (hK10 _ (aL rfl (fun hc2=>?_) (fun hc2=>?_)))))))))
   ·
    simp only[bs] at hc2
    refine aM (hK9 _ (aC (fun K11 hK11=>(aQ (aC (fun K12 hK12=>(aB (aE aA 2 rfl ?_))))))))
    refine aG rfl (aY rfl rfl fC eG (by first | exact ixm (by omega) | assumption | exact⟨by decide,rfl⟩)) ?_
    refine aE aA 1 rfl (aX hf rfl rfl rfl rY (aU hf rfl rfl eG rfl rfl (l1 rfl) (l4 rfl) rfl (aD (hK12 _ (aC (fun K13 hK13=>(aC (fun K14 hK14=>(aB (aE aA 3 rfl (aD (hK14 _ (aL rfl (fun hc3=>?_) (fun hc3=>?_))))))))))))))
    ·
     simp only[bs] at hc3
     refine aB (aE aA 2 rfl (aU hf rfl rfl bZ rfl rfl (l1 rfl) (l4 rfl) rfl (aD (hK13 _ (aC (fun K15 hK15=>(aB ?_)))))))
     refine bO (mB (nee 11) (sl':=[(0,.sl 4 (l.map enC)),(2,.s (.int .i64 t)),(8,.s (.int .i64 (n:Nat))),(9,.own 9 4 0 out.length),(10,.s (.int .i64 (k:Nat))),(11,.adr (enC (l[k].1,(l[k].2.1,t))))]) (m':=[(9,.buf 4 (out.map enC))]) ⟨⟨_,rfl,rfl⟩,⟨_,rfl,rfl⟩,⟨_,rfl,rfl⟩,⟨_,rfl,rfl⟩,⟨_,rfl,rfl⟩,⟨_,rfl,rfl⟩,trivial⟩ rfl) ?_
     refine aE aA 4 rfl (aW rfl rfl rfl (fun hg4=>?_) (fun hg4=>?_))
     ·
      simp only[bs] at hg4
      refine aG rfl (bF rfl sS bZ rfl) ?_
      refine aE aA 5 rfl (aD (hK15 _ (aL rfl (fun hc5=>?_) (fun hc5=>?_))))
      ·
       simp only[bs] at hc5
       refine aB (aE aA 2 rfl (aJ hf rfl (bD eA rfl rfl rfl rfl (l2 rfl)) (cA hf rfl eA rfl rfl rfl (.inl rfl) (by rw[List.length_map]) rfl (by first | rfl | simp [eV,bU]) (by first | (simp only[maxLen,List.length_map,List.length_append,List.length_cons,List.length_nil]; omega) | (simp [maxLen] <;> omega)) (by first | (simp only[List.length_map,List.length_append,List.length_cons,List.length_nil]; omega) | (simp <;> omega)) ?_)))
       refine bO (eR [0,2,8,10,45] rfl) (aE aA 1 rfl ?_)
       refine bK ?_
       refine hK11 _ (aB (aE aA 1 rfl ?_))
       refine aG rfl (bN rfl rfl (by omega) (by omega)) ?_
       refine aE aA 1 rfl (aD ?_)
       exact⟨(k+1,out++[(l[k].1,(l[k].2.1,t))]),hC.keep (by omega) (by omega) (by omega),by simp only; omega,cJ ⟨rfl,rfl,rfl,(by rw[List.length_append]; rfl),rfl,trivial⟩ (by rw[List.map_append]; rfl)⟩
      ·
       simp only[bs] at hc5
       refine aM (hK11 _ (aB (aE aA 1 rfl ?_)))
       refine aG rfl (bN rfl rfl (by omega) (by omega)) ?_
       refine aE aA 1 rfl (aD ?_)
       exact⟨(k+1,out),hC.gone (by omega) (by omega) (by omega),by simp only; omega,cJ ⟨rfl,rfl,rfl,rfl,rfl,trivial⟩ rfl⟩
     ·
      simp only[bs] at hg4
      refine aE aA 5 rfl (aD (hK15 _ (bM rfl (aB (aE aA 2 rfl (aJ hf rfl (bD eA rfl rfl rfl rfl (l2 rfl)) (cA hf rfl eA rfl rfl rfl (.inl rfl) (by rw[List.length_map]) rfl (by first | rfl | simp [eV,bU]) (by first | (simp only[maxLen,List.length_map,List.length_append,List.length_cons,List.length_nil]; omega) | (simp [maxLen] <;> omega)) (by first | (simp only[List.length_map,List.length_append,List.length_cons,List.length_nil]; omega) | (simp <;> omega)) ?_)))))))
      refine bO (eR [0,2,8,10,45] rfl) (aE aA 1 rfl ?_)
      refine bK ?_
      refine hK11 _ (aB (aE aA 1 rfl ?_))
      refine aG rfl (bN rfl rfl (by omega) (by omega)) ?_
      refine aE aA 1 rfl (aD ?_)
      (exfalso; omega)
    ·
     simp only[bs] at hc3
     refine aM (hK13 _ (aC (fun K16 hK16=>(aB ?_))))
     refine bO (mB (nee 11) (sl':=[(0,.sl 4 (l.map enC)),(2,.s (.int .i64 t)),(8,.s (.int .i64 (n:Nat))),(9,.own 9 4 0 out.length),(10,.s (.int .i64 (k:Nat))),(11,.adr (enC l[k]))]) (m':=[(9,.buf 4 (out.map enC))]) ⟨⟨_,rfl,rfl⟩,⟨_,rfl,rfl⟩,⟨_,rfl,rfl⟩,⟨_,rfl,rfl⟩,⟨_,rfl,rfl⟩,⟨_,rfl,rfl⟩,trivial⟩ rfl) ?_
     refine aE aA 4 rfl (aW rfl rfl rfl (fun hg7=>?_) (fun hg7=>?_))
     ·
      simp only[bs] at hg7
      refine aG rfl (bF rfl sS bZ rfl) ?_
      refine aE aA 5 rfl (aD (hK16 _ (aL rfl (fun hc8=>?_) (fun hc8=>?_))))
      ·
       simp only[bs] at hc8
       refine aB (aE aA 2 rfl (aJ hf rfl (bD eA rfl rfl rfl rfl (l2 rfl)) (cA hf rfl eA rfl rfl rfl (.inl rfl) (by rw[List.length_map]) rfl (by first | rfl | simp [eV,bU]) (by first | (simp only[maxLen,List.length_map,List.length_append,List.length_cons,List.length_nil]; omega) | (simp [maxLen] <;> omega)) (by first | (simp only[List.length_map,List.length_append,List.length_cons,List.length_nil]; omega) | (simp <;> omega)) ?_)))
       refine bO (eR [0,2,8,10,45] rfl) (aE aA 1 rfl ?_)
       refine bK ?_
       refine hK11 _ (aB (aE aA 1 rfl ?_))
       refine aG rfl (bN rfl rfl (by omega) (by omega)) ?_
       refine aE aA 1 rfl (aD ?_)
       (exfalso; omega)
      ·
       simp only[bs] at hc8
       refine aM (hK11 _ (aB (aE aA 1 rfl ?_)))
       refine aG rfl (bN rfl rfl (by omega) (by omega)) ?_
       refine aE aA 1 rfl (aD ?_)
       (exfalso; omega)
     ·
      simp only[bs] at hg7
      refine aE aA 5 rfl (aD (hK16 _ (bM rfl (aB (aE aA 2 rfl (aJ hf rfl (bD eA rfl rfl rfl rfl (l2 rfl)) (cA hf rfl eA rfl rfl rfl (.inl rfl) (by rw[List.length_map]) rfl (by first | rfl | simp [eV,bU]) (by first | (simp only[maxLen,List.length_map,List.length_append,List.length_cons,List.length_nil]; omega) | (simp [maxLen] <;> omega)) (by first | (simp only[List.length_map,List.length_append,List.length_cons,List.length_nil]; omega) | (simp <;> omega)) ?_)))))))
      refine bO (eR [0,2,8,10,45] rfl) (aE aA 1 rfl ?_)
      refine bK ?_
      refine hK11 _ (aB (aE aA 1 rfl ?_))
      refine aG rfl (bN rfl rfl (by omega) (by omega)) ?_
      refine aE aA 1 rfl (aD ?_)
      exact⟨(k+1,out++[l[k]]),hC.ne (by omega) (by omega),by simp only; omega,cJ ⟨rfl,rfl,rfl,(by rw[List.length_append]; rfl),rfl,trivial⟩ (by rw[List.map_append]; rfl)⟩
   ·
    simp only[bs] at hc2
    refine bB (hK7 _ (aC (fun K17 hK17=>(aB (aE aA 3 rfl (aD (hK17 _ (aI ?_))))))))
    refine⟨_,rfl,?_⟩
    rw[show onB l p=true from aQg hn hn1]
    refine(congrArg (fun z=>AV.tup [z,.s (.int .i64 0)]) (bX (g:=9) rfl (by rw[List.length_map]))).trans ?_
    rw[if_pos rfl,if_pos rfl,hC.fin (by omega) hn2 (fun _=>hn1)]
end Go.Proofs.YtckjaledibkghaaGreat
set_option linter.unusedVariables false
set_option linter.unusedSimpArgs false
namespace Go.Proofs.YtckjaledibkghaaGreat
open Go Go.Abs
theorem vX (l:List En) (u:ByteArray) (hl:l.length*48+48≤140737488355328) :Den Tryz.prog 51 [.sl 4 (l.map enC),.s (.string u)]  (·=.sl 4 ((l.filter (fun e=>!lC u e)).map enC)):=by
 refine aS Tryz.func51 rfl (Nat.le_of_ble_eq_true rfl) (fun w0 A hf=>(aC (fun K1 hK1=>(aB (aG rfl (bQ) (aD (hK1 _ (aC (fun K2 hK2=>(aB (lD hf 4 rfl rfl rfl (aD (hK2 _ (aC (fun K3 hK3=>(aC (fun K4 hK4=>?_)))))))))))))))))
 refine aB (aE aA 1 rfl (aD (hK4 _ (aQ (bR (ι:=Nat×List En) (fun(⟨k,out⟩:Nat×List En)=>⟨37,[(0,.sl 4 (l.map enC)),(1,.s (.string u)),(5,.own 5 4 0 out.length),(6,.s (.int .i64 (k:Nat)))],[(5,.buf 4 (out.map enC))]⟩) (fun(⟨k,out⟩:Nat×List En)=>k≤l.length∧out=((l.take k).filter (fun e=>!lC u e))∧out.length≤k) (fun(⟨k,out⟩:Nat×List En)=>l.length - k) (0,[]) ?_ ?_ ?_)))))
 · exact⟨Nat.zero_le _,rfl,Nat.le_refl _⟩
 · exact cN rfl
 ·
  rintro ⟨k,out⟩ hC
  obtain ⟨h1,h2,h3⟩:=hC
  refine aC (fun K5 hK5=>(aC (fun K6 hK6=>(aB (aE aA 4 rfl (aD (hK6 _ (aL rfl (fun hc1=>?_) (fun hc1=>?_)))))))))
  ·
   simp only[bs] at hc1
   refine aM (hK5 _ (aC (fun K7 hK7=>(aQ (aC (fun K8 hK8=>(aB (aE aA 2 rfl ?_))))))))
   refine aG rfl (aY rfl rfl fC eG (by first | exact ixm (by omega) | assumption | exact⟨by decide,rfl⟩)) ?_
   refine aE aA 5 rfl (aW rfl rfl rfl (fun hg2=>?_) (fun hg2=>?_))
   ·
    simp only[bs] at hg2
    refine aG rfl (gJ rfl) (aE aA 1 rfl (bI rfl rfl rfl ?_))
    refine aG rfl (aY rfl rfl fC eG (by first | exact ixm (by omega) | assumption | exact⟨by decide,rfl⟩)) ?_
    refine aE aA 5 rfl (aD (hK8 _ (aL rfl (fun hc3=>?_) (fun hc3=>?_))))
    ·
     simp only[bs] at hc3
     refine aB (aE aA 3 rfl ?_)
     refine aG rfl (aY rfl rfl fC eG (by first | exact ixm (by omega) | assumption | exact⟨by decide,rfl⟩)) ?_
     refine aE aA 1 rfl (aJ hf rfl (bD eA rfl rfl rfl rfl (l2 rfl)) (cA hf rfl eA rfl rfl rfl (.inl rfl) (by rw[List.length_map]) rfl (by first | rfl | simp [eV,bU]) (by first | (simp only[maxLen,List.length_map,List.length_append,List.length_cons,List.length_nil]; omega) | (simp [maxLen] <;> omega)) (by first | (simp only[List.length_map,List.length_append,List.length_cons,List.length_nil]; omega) | (simp <;> omega)) ?_))
     refine bO (eR [0,1,6,35] rfl) (aE aA 1 rfl ?_)
     refine bK ?_
     refine hK7 _ (aB (aE aA 1 rfl ?_))
     refine aG rfl (bN rfl rfl (by omega) (by omega)) ?_
     refine aE aA 1 rfl (aD ?_)
     exact⟨(k+1,out++[l[k]]),⟨by omega,by rw[h2,aKx (by omega) (hasU_f (by assumption) (by assumption))],by rw[List.length_append]; simp only[List.length_cons,List.length_nil]; omega⟩,by simp only; omega,cJ ⟨rfl,rfl,(by rw[List.length_append]; rfl),rfl,trivial⟩ (by rw[List.map_append]; rfl)⟩
    ·
     simp only[bs] at hc3
     refine aM (hK7 _ (aB (aE aA 1 rfl ?_)))
     refine aG rfl (bN rfl rfl (by omega) (by omega)) ?_
     refine aE aA 1 rfl (aD ?_)
     exact⟨(k+1,out),⟨by omega,by rw[h2,aGh (by omega) (aVx (by first | exact .inl (by assumption) | exact .inr (by assumption)))],by omega⟩,by simp only; omega,cJ ⟨rfl,rfl,rfl,rfl,trivial⟩ rfl⟩
   ·
    simp only[bs] at hg2
    refine aE aA 7 rfl (aD (hK8 _ (bG rfl (aM (hK7 _ (aB (aE aA 1 rfl ?_)))))))
    refine aG rfl (bN rfl rfl (by omega) (by omega)) ?_
    refine aE aA 1 rfl (aD ?_)
    exact⟨(k+1,out),⟨by omega,by rw[h2,aGh (by omega) (aVx (by first | exact .inl (by assumption) | exact .inr (by assumption)))],by omega⟩,by simp only; omega,cJ ⟨rfl,rfl,rfl,rfl,trivial⟩ rfl⟩
  ·
   simp only[bs] at hc1
   refine bB (hK3 _ (aC (fun K9 hK9=>(aB (aE aA 2 rfl (aD (hK9 _ (aI ?_))))))))
   refine⟨_,rfl,?_⟩
   refine(bX (g:=5) rfl (by rw[List.length_map])).trans ?_
   rw[h2,List.take_of_length_le (by omega)]
theorem aKd (l:List En) (t:Int) (hl:l.length*48+48≤140737488355328) :Den Tryz.prog 83 [.sl 4 (l.map enC),.s (.int .i64 t)]  (·=.sl 4 ((l.filter (fun e=>!decide (e.2.2≤t))).map enC)):=by
 refine aS Tryz.func83 rfl (Nat.le_of_ble_eq_true rfl) (fun w0 A hf=>(aC (fun K1 hK1=>(aB (aG rfl (bQ) (aD (hK1 _ (aC (fun K2 hK2=>(aB (lD hf 4 rfl rfl rfl (aD (hK2 _ (aC (fun K3 hK3=>(aC (fun K4 hK4=>?_)))))))))))))))))
 refine aB (aE aA 1 rfl (aD (hK4 _ (aQ (bR (ι:=Nat×List En) (fun(⟨k,out⟩:Nat×List En)=>⟨28,[(0,.sl 4 (l.map enC)),(1,.s (.int .i64 t)),(5,.own 5 4 0 out.length),(6,.s (.int .i64 (k:Nat)))],[(5,.buf 4 (out.map enC))]⟩) (fun(⟨k,out⟩:Nat×List En)=>k≤l.length∧out=((l.take k).filter (fun e=>!decide (e.2.2≤t)))∧out.length≤k) (fun(⟨k,out⟩:Nat×List En)=>l.length - k) (0,[]) ?_ ?_ ?_)))))
 · exact⟨Nat.zero_le _,rfl,Nat.le_refl _⟩
 · exact cN rfl
 ·
  rintro ⟨k,out⟩ hC
  obtain ⟨h1,h2,h3⟩:=hC
  refine aC (fun K5 hK5=>(aC (fun K6 hK6=>(aB (aE aA 4 rfl (aD (hK6 _ (aL rfl (fun hc1=>?_) (fun hc1=>?_)))))))))
  ·
   simp only[bs] at hc1
   refine aM (hK5 _ (aC (fun K7 hK7=>(aQ (aC (fun K8 hK8=>(aB (aE aA 2 rfl ?_))))))))
   refine aG rfl (aY rfl rfl fC eG (by first | exact ixm (by omega) | assumption | exact⟨by decide,rfl⟩)) ?_
   refine aE aA 4 rfl (aD (hK8 _ (aL rfl (fun hc2=>?_) (fun hc2=>?_))))
   ·
    simp only[bs] at hc2
    refine aB (aE aA 3 rfl ?_)
    refine aG rfl (aY rfl rfl fC eG (by first | exact ixm (by omega) | assumption | exact⟨by decide,rfl⟩)) ?_
    refine aE aA 1 rfl (aJ hf rfl (bD eA rfl rfl rfl rfl (l2 rfl)) (cA hf rfl eA rfl rfl rfl (.inl rfl) (by rw[List.length_map]) rfl (by first | rfl | simp [eV,bU]) (by first | (simp only[maxLen,List.length_map,List.length_append,List.length_cons,List.length_nil]; omega) | (simp [maxLen] <;> omega)) (by first | (simp only[List.length_map,List.length_append,List.length_cons,List.length_nil]; omega) | (simp <;> omega)) ?_))
    refine bO (eR [0,1,6,26] rfl) (aE aA 1 rfl ?_)
    refine bK ?_
    refine hK7 _ (aB (aE aA 1 rfl ?_))
    refine aG rfl (bN rfl rfl (by omega) (by omega)) ?_
    refine aE aA 1 rfl (aD ?_)
    exact⟨(k+1,out++[l[k]]),⟨by omega,by rw[h2,aKx (by omega) (by simp; omega)],by rw[List.length_append]; simp only[List.length_cons,List.length_nil]; omega⟩,by simp only; omega,cJ ⟨rfl,rfl,(by rw[List.length_append]; rfl),rfl,trivial⟩ (by rw[List.map_append]; rfl)⟩
   ·
    simp only[bs] at hc2
    refine aM (hK7 _ (aB (aE aA 1 rfl ?_)))
    refine aG rfl (bN rfl rfl (by omega) (by omega)) ?_
    refine aE aA 1 rfl (aD ?_)
    exact⟨(k+1,out),⟨by omega,by rw[h2,aGh (by omega) (by simp; omega)],by omega⟩,by simp only; omega,cJ ⟨rfl,rfl,rfl,rfl,trivial⟩ rfl⟩
  ·
   simp only[bs] at hc1
   refine bB (hK3 _ (aC (fun K9 hK9=>(aB (aE aA 2 rfl (aD (hK9 _ (aI ?_))))))))
   refine⟨_,rfl,?_⟩
   refine(bX (g:=5) rfl (by rw[List.length_map])).trans ?_
   rw[h2,List.take_of_length_le (by omega)]
theorem aCb (l:List En) (u:ByteArray) (hl:l.length*48+48≤140737488355328) :Den Tryz.prog 100 [.sl 4 (l.map enC),.s (.string u)]  (·=.sl 4 ((l.filter fun e=>!lC u e).map enC)):=by
 refine aS Tryz.func100 rfl (Nat.le_of_ble_eq_true rfl) (fun w0 A hf=>(aC (fun K1 hK1=>(aB (aJ hf rfl (cI rfl rfl (lf rfl)) (aG rfl (bQ) (aD (hK1 _ (aC (fun K2 hK2=>(aB (aE aA 1 rfl (iO hf rfl rfl rfl rfl rfl oA rfl (pB _ (by omega)) ?_)))))))))))))
 rintro _ rfl
 refine aG rfl (eW rfl) (hZ hf 6 rfl rfl rfl rfl rfl aDk (vF aO3 rfl (fun _=>rfl) (lC u) l _ (by rw[List.length_map]) (by omega) (fun x _=>aJw x u)) ?_)
 rintro r zs ⟨rfl,rfl⟩
 refine aE aA 1 rfl (aD (hK2 _ (aI ?_)))
 refine⟨_,rfl,?_⟩
 exact bX (g:=6) rfl (by rw[List.length_map])
theorem aUr (l:List En) (t:Int) (hl:l.length*48+48≤140737488355328) :Den Tryz.prog 80 [.sl 4 (l.map enC),.s (.int .i64 t)]  (·=.sl 4 ((l.filter fun e=>!decide (e.2.2≤t)).map enC)):=by
 refine aS Tryz.func80 rfl (Nat.le_of_ble_eq_true rfl) (fun w0 A hf=>(aC (fun K1 hK1=>(aB (aJ hf rfl (cI rfl rfl (lf rfl)) (aG rfl (bQ) (aD (hK1 _ (aC (fun K2 hK2=>(aB (aE aA 1 rfl (iO hf rfl rfl rfl rfl rfl oA rfl (pB _ (by omega)) ?_)))))))))))))
 rintro _ rfl
 refine aG rfl (eW rfl) (hZ hf 6 rfl rfl rfl rfl rfl aDk (vF aPe rfl (fun _=>rfl) (fun e=>decide (e.2.2≤t)) l _ (by rw[List.length_map]) (by omega) (fun x _=>aQ5 x t)) ?_)
 rintro r zs ⟨rfl,rfl⟩
 refine aE aA 1 rfl (aD (hK2 _ (aI ?_)))
 refine⟨_,rfl,?_⟩
 exact bX (g:=6) rfl (by rw[List.length_map])
end Go.Proofs.YtckjaledibkghaaGreat
set_option linter.unusedVariables false
set_option linter.unusedSimpArgs false
namespace Go.Abs
def aSi (x:List En) (p:Pr) (t:Int):List En:=if onB x p=true then kA x p t else iC x p t
def aWu (x:List En) (a:Int):Prop:=sG x=true∧∀ e∈x,e.2.1≤a∧(e.2.2=1099511627776∨e.2.2≤a)∧TS e.1.1∧TS e.1.2
theorem ordE_eq {a b:En}:mL a b=0↔a.1=b.1∧a.2.1=b.2.1:=by
  rw[wE,tR,aF1]
  refine and_congr_right fun _=>?_
  unfold nA; (repeat' split) <;> omega
theorem aAx {e:En}:∀ {l:List En},l.Pairwise RisR→(∀ x∈l,¬ 0<mL x e→RisR x e)→(∀ x∈l,0<mL x e→RisR e x)→(tB l e).Pairwise RisR
  | [],_,_,_=>by simp [tB]
  | x::l,h,h1,h2=>by
    obtain ⟨hx,hl⟩:=List.pairwise_cons.1 h
    rw[tB]
    split
    · rename_i h0
      refine List.pairwise_cons.2 ⟨fun y hy=>?_,h⟩
      rcases List.mem_cons.1 hy with rfl | hy
      · exact h2 _ (by simp) h0
      · refine h2 y (by simp [hy]) ?_
        have e1:=ordE_tri.lt_tr (show mL e x<0 by have:=ordE_tri.swap e x; omega) (hx y hy).1
        have:=ordE_tri.swap e y; omega
    · rename_i h0
      refine List.pairwise_cons.2 ⟨fun y hy=>?_,aAx hl (fun z hz=>h1 z (by simp [hz])) (fun z hz=>h2 z (by simp [hz]))⟩
      rcases wJ.1 hy with rfl | hy
      · exact h1 x (by simp) h0
      · exact hx y hy
theorem aAk {p:Pr} {t:Int} {y:En}:∀ {l:List En},y∈kA l p t→y∈l∨∃ e∈l,eX p e=true∧e.2.1<t∧y=(e.1,(e.2.1,t))
  | [],h=>by simp [kA] at h
  | x::l,h=>by
    rw[kA] at h
    split at h
    · rename_i hf
      rcases List.mem_append.1 h with h | h
      · unfold vC at h
        split at h
        · simp at h
        · simp only[List.mem_singleton] at h
          exact .inr ⟨x,by simp,hf,by omega,h⟩
      · exact .inl (by simp [h])
    · rcases List.mem_cons.1 h with h | h
      · exact .inl (by simp [h])
      · rcases aAk h with h | ⟨e,he,h⟩
        · exact .inl (by simp [h])
        · exact .inr ⟨e,by simp [he],h⟩
theorem aJc {p:Pr} {e:En}:eX p e=true↔e.1=p∧e.2.2=1099511627776:=by simp [eX]
theorem aAj {p:Pr} {t:Int}:∀ {l:List En},l.Pairwise RisR→(∀ y∈l,y.2.1<1099511627776)→(kA l p t).Pairwise RisR
  | [],_,_=>by simp [kA]
  | x::l,h,h1=>by
    obtain ⟨hx,hl⟩:=List.pairwise_cons.1 h
    rw[kA]
    split
    · rename_i hf
      have hF:=(aJc.1 hf).2
      unfold vC
      split
      · exact hl
      · refine List.pairwise_cons.2 ⟨fun y hy=>⟨(hx y hy).1,fun e=>?_⟩,hl⟩
        have:=(hx y hy).2 e
        have:=h1 y (List.mem_cons_of_mem _ hy)
        omega
    · refine List.pairwise_cons.2 ⟨fun y hy=>?_,aAj hl (fun z hz=>h1 z (by simp [hz]))⟩
      rcases aAk hy with hy | ⟨e,he,_,_,rfl⟩
      · exact hx y hy
      · exact⟨(hx e he).1,fun e'=>(hx e he).2 e'⟩
theorem aJa {x:List En} {a t:Int} {p:Pr} (h:aWu x a) (h1:a≤t) (h2:t<1099511627776) (r1:cT p.1=true) (r2:cT p.2=true) (s1:TS p.1) (s2:TS p.2):aWu (aSi x p t) t:=by
  obtain ⟨hr,he⟩:=h
  obtain ⟨ho,hp⟩:=(rD x).1 hr
  have hT:∀ e∈x,e.2.1<e.2.2:=fun e hm=>by have:=ho e hm; simp only[okE,Bool.and_eq_true,decide_eq_true_eq] at this; exact this.1
  have hF:∀ e∈x,e.2.1<1099511627776:=fun e hm=>by have:=(he e hm).1; omega
  unfold aSi
  split
  · refine⟨(rD _).2 ⟨fun y hy=>?_,aAj hp hF⟩,fun y hy=>?_⟩
    · rcases aAk hy with hy | ⟨e,hm,_,hlt,rfl⟩
      · exact ho y hy
      · have:=ho e hm
        simp only[okE,Bool.and_eq_true,decide_eq_true_eq] at this ⊢
        exact⟨hlt,this.2⟩
    · rcases aAk hy with hy | ⟨e,hm,_,hlt,rfl⟩
      · obtain ⟨q1,q2,q3⟩:=he y hy
        exact⟨by omega,by omega,q3⟩
      · obtain ⟨q1,q2,q3⟩:=he e hm
        exact⟨by simp only; omega,.inr (by simp),q3⟩
  · rename_i hon
    refine⟨(rD _).2 ⟨fun y hy=>?_,aAx hp (fun y hy hle=>?_) (fun y hy hlt=>?_)⟩,fun y hy=>?_⟩
    · rcases wJ.1 hy with rfl | hy
      · simp [okE,h2,r1,r2]
      · exact ho y hy
    · have hne:¬ (y.1=p∧y.2.2=1099511627776):=fun hh=>hon (aKj.2 ⟨y,hy,hh⟩)
      obtain ⟨q1,q2,_⟩:=he y hy
      have q4:=hT y hy
      have hyt:y.1=p→y.2.2≤t:=fun e=>by rcases q2 with q2 | q2; exact absurd ⟨e,q2⟩ hne; omega
      refine⟨?_,fun e=>by simp only at e ⊢; exact hyt e⟩
      rcases Int.lt_or_eq_of_le (show mL y (p,(t,1099511627776))≤0 by omega) with e | e
      · exact e
      · exfalso
        obtain ⟨e1,e2⟩:=ordE_eq.1 e
        have:=hyt e1
        simp only at e2; omega
    · refine⟨by have:=ordE_tri.swap y (p,(t,1099511627776)); omega,fun e=>?_⟩
      exfalso
      simp only at e
      have q1:=(he y hy).1
      have:mL y (p,(t,1099511627776))=nA y.2.1 t:=by
        rw[wE,wI,if_neg (by simp [aF1,← e])]
      rw[this] at hlt
      unfold nA at hlt
      (repeat' split at hlt) <;> omega
    · rcases wJ.1 hy with rfl | hy
      · exact⟨Int.le_refl _,.inl rfl,s1,s2⟩
      · obtain ⟨q1,q2,q3⟩:=he y hy
        exact⟨by omega,by omega,q3⟩
end Go.Abs
set_option linter.unusedVariables false
set_option linter.unusedSimpArgs false
namespace Go.Abs
theorem lF {s:ByteArray} (h:cT s=true):TS s:=by
  simp only[cT,Bool.and_eq_true,decide_eq_true_eq] at h
  have:=h.1.2
  show s.size≤_
  omega
theorem oI {s:Sta} {x:bS}:eK s x=true↔(∀ e∈s.opn,e.1.1=x.2.1→x.1.2≤e.2.2)∧0≤x.1.1∧x.1.2≤s.now∧1≤x.2.1∧x.2.1≤999∧1≤x.2.2∧x.2.2≤4:=by
  simp only[eK,Bool.and_eq_true,decide_eq_true_eq,Bool.not_eq_true',List.any_eq_false,not_and,Int.not_lt]
theorem mP {s:Sta} {x:Us}:mN s x=true↔x.2≠[]∧vH x.2=true∧∀ y∈x.2,eK s y=true:=by
  simp only[mN,Bool.and_eq_true,Bool.not_eq_true',List.isEmpty_eq_false_iff,List.all_eq_true,ne_eq]
theorem gM {s:Sta} {e:En}:kP s e=true↔0≤e.2.1∧e.2.1≤s.now∧(e.2.2≤s.now∨e.2.2=1099511627776):=by
  simp only[kP,Bool.and_eq_true,Bool.or_eq_true,decide_eq_true_eq]
theorem lI {s:Sta} {x:Tm}:rO s x=true↔0≤x.2∧x.2≤s.now:=by
  simp only[rO,Bool.and_eq_true,decide_eq_true_eq]
theorem aBw {e:Se}:fP e=true↔cT e.1.2=true∧1≤e.1.1∧e.1.1≤999∧1≤e.2.1∧e.2.1≤4∧0≤e.2.2∧e.2.2≤1099511627775:=by
  simp only[fP,Bool.and_eq_true,decide_eq_true_eq,and_assoc]
theorem aIq {s:Sta} (h:RightP s) {e:Se} (he:e∈s.opn):cT e.1.2=true∧1≤e.1.1∧e.1.1≤999∧1≤e.2.1∧e.2.1≤4∧0≤e.2.2∧e.2.2≤1099511627775 :=
  aBw.1 (((kO _).1 h.opn).1.1 e he)
theorem xS {l:List Us} {u:ByteArray} {p:Us→Prop} (h:cQ cK l) (hp:∀ x∈l,p x) (h0:p (u,[])):p (u,ofU l u):=by
  by_cases hh:hP cK l u=true
  · obtain ⟨hk,e⟩:=aBx h hh
    rw[← e]; exact hp _ (List.getElem_mem hk)
  · rw[pS (Bool.eq_false_iff.2 hh)]; exact h0
theorem aI1 {s:Sta} (h:RightP s) (u:ByteArray):vH (ofU s.usr u)=true∧∀ y∈ofU s.usr u,eK s y=true:=by
  have:=xS (u:=u) (p:=fun x=>vH x.2=true∧∀ y∈x.2,eK s y=true) h.usr (fun x hx=>(mP.1 (h.uok x hx)).2) ⟨rfl,by simp⟩
  exact this
theorem aWi {l:List bS} {x y:bS} (h:y∈fZ l x):y=x∨y∈l:=by
  unfold fZ at h
  split at h
  · exact .inr h
  · exact List.mem_cons.1 ((gN x l).mem_iff.1 h)
theorem yT {s:Sta} {t:Int} {opn':List Se} {e:Se} (h:RightP s) (ht:s.now≤t) (ht1:t<1099511627776) (he:e∈s.opn) (hr:gI opn'=true) (hl:∀ x∈opn',x.2.2≤t)
    (hb:∀ x∈opn',(x∈s.opn∧x.1.1≠e.1.1)∨t≤x.2.2):RightP ⟨t,s.hor,opn',kR s.usr e.1.2 (dK e t),s.sub,s.tmb⟩:=by
  obtain ⟨g1,g2,g3,g4,g5,g6,g7⟩:=aIq h he
  have hold:∀ y,eK s y=true→eK ⟨t,s.hor,opn',kR s.usr e.1.2 (dK e t),s.sub,s.tmb⟩ y=true:=fun y hy=>by
    obtain ⟨a1,a2,a3,a4⟩:=oI.1 hy
    refine oI.2 ⟨fun x hx hn=>?_,a2,Int.le_trans a3 ht,a4⟩
    rcases hb x hx with ⟨h1,_⟩ | h1
    · exact a1 x h1 hn
    · exact Int.le_trans a3 (Int.le_trans ht h1)
  have hold2:∀ x,mN s x=true→mN ⟨t,s.hor,opn',kR s.usr e.1.2 (dK e t),s.sub,s.tmb⟩ x=true:=fun x hx=>by
    obtain ⟨a1,a2,a3⟩:=mP.1 hx
    exact mP.2 ⟨a1,a2,fun y hy=>hold y (a3 y hy)⟩
  have hmem:∀ x∈kR s.usr e.1.2 (dK e t),x∈s.usr∨(e.2.2<t∧x=(e.1.2,fZ (ofU s.usr e.1.2) (dK e t))):=fun x hx=>by
    unfold kR at hx
    split at hx
    · exact .inl hx
    · rename_i hlt
      rcases lB.1 hx with ⟨hx,_⟩ | hx
      · exact .inl hx
      · unfold lY at hx
        split at hx
        · cases hx
        · exact .inr ⟨Int.not_le.1 hlt,List.mem_singleton.1 hx⟩
  refine⟨Int.le_trans h.n0 ht,ht1,h.h0,h.h1,hr,hl,fun x hx=>?_,?_,fun x hx=>?_,h.sub,fun y hy=>?_,h.tnm,h.tmb,fun x hx=>?_⟩
  · rcases hmem x hx with hx | ⟨_,rfl⟩
    · exact h.unm x hx
    · exact g1
  · show cQ cK (kR s.usr e.1.2 (dK e t))
    unfold kR
    split
    · exact h.usr
    · exact tF h.usr
  · rcases hmem x hx with hx | ⟨hlt,rfl⟩
    · exact hold2 x (h.uok x hx)
    · obtain ⟨q1,q2⟩:=aI1 h e.1.2
      refine mP.2 ⟨fun e0=>?_,?_,fun y hy=>?_⟩
      · have h1:=aGd (ofU s.usr e.1.2) (dK e t)
        simp only at e0
        rw[fZ,if_neg (show ¬ (dK e t).1.2≤(dK e t).1.1 from Int.not_le.2 hlt)] at e0
        rw[e0] at h1; simp at h1
      · show vH (fZ (ofU s.usr e.1.2) (dK e t))=true
        rw[ris_add q1,Bool.not_eq_true',List.any_eq_false]
        intro y hy hye
        simp only[decide_eq_true_eq] at hye
        have:=(oI.1 (q2 y hy)).1 e he (by rw[hye]; rfl)
        rw[hye] at this
        exact absurd hlt (Int.not_lt.2 this)
      · rcases aWi hy with rfl | hy
        · refine oI.2 ⟨fun x hx hn=>?_,g6,Int.le_refl _,g2,g3,g4,g5⟩
          rcases hb x hx with ⟨_,h1⟩ | h1
          · exact absurd hn h1
          · exact h1
        · exact hold y (q2 y hy)
  · obtain ⟨a,b,c⟩:=gM.1 (h.sok y hy)
    exact gM.2 ⟨a,Int.le_trans b ht,c.imp (fun c=>Int.le_trans c ht) id⟩
  · obtain ⟨a,b⟩:=lI.1 (h.tok x hx)
    exact lI.2 ⟨a,Int.le_trans b ht⟩
theorem rA {s s':Sta} (h:RightP s) (ht:s.now≤s'.now) (ht1:s'.now<1099511627776) (h0:0≤s'.hor) (h1:s'.hor<1099511627776) (hr:gI s'.opn=true) (hl:∀ x∈s'.opn,x.2.2≤s'.now)
    (hb:∀ x∈s'.opn,x∈s.opn∨s.now≤x.2.2) (hu:∀ x∈s'.usr,x∈s.usr) (hu2:cQ cK s'.usr) (hs:sG s'.sub=true) (hs2:∀ e∈s'.sub,kP s' e=true) (htm:cQ cW s'.tmb) (htm2:∀ x∈s'.tmb,x∈s.tmb∨(cT x.1=true∧0≤x.2∧x.2≤s'.now)):RightP s':=by
  have hold:∀ y,eK s y=true→eK s' y=true:=fun y hy=>by
    obtain ⟨a1,a2,a3,a4⟩:=oI.1 hy
    refine oI.2 ⟨fun x hx hn=>?_,a2,Int.le_trans a3 ht,a4⟩
    rcases hb x hx with h1 | h1
    · exact a1 x h1 hn
    · exact Int.le_trans a3 h1
  refine⟨Int.le_trans h.n0 ht,ht1,h0,h1,hr,hl,fun x hx=>h.unm x (hu x hx),hu2,fun x hx=>?_,hs,hs2,fun x hx=>?_,htm,fun x hx=>?_⟩
  · obtain ⟨a1,a2,a3⟩:=mP.1 (h.uok x (hu x hx))
    exact mP.2 ⟨a1,a2,fun y hy=>hold y (a3 y hy)⟩
  · rcases htm2 x hx with h2 | h2
    · exact h.tnm x h2
    · exact h2.1
  · rcases htm2 x hx with h2 | h2
    · obtain ⟨a,b⟩:=lI.1 (h.tok x h2)
      exact lI.2 ⟨a,Int.le_trans b ht⟩
    · exact lI.2 h2.2
theorem aBp {s:Sta} (h:RightP s) {t:Int} (ht:s.now≤t) {u:List Us} {o:List Se} {hr:Int} {tm:List Tm}:∀ e∈s.sub,kP ⟨t,hr,o,u,s.sub,tm⟩ e=true:=fun e he=>by
  obtain ⟨a,b,c⟩:=gM.1 (h.sok e he)
  exact gM.2 ⟨a,Int.le_trans b ht,c.imp (fun c=>Int.le_trans c ht) id⟩
theorem aFh {s:Sta} (h:RightP s):aWu s.sub s.now:=by
  refine⟨h.sub,fun e he=>?_⟩
  obtain ⟨a,b,c⟩:=gM.1 (h.sok e he)
  have:=((rD _).1 h.sub).1 e he
  simp only[okE,Bool.and_eq_true,decide_eq_true_eq] at this
  exact⟨b,c.symm,lF this.2.1,lF this.2.2⟩
theorem ev_at {e:Ev} (h:bT e=true):0≤e.at'∧e.at'<1099511627776:=by
  simp only[bT,Bool.and_eq_true,decide_eq_true_eq] at h
  exact⟨h.1,h.2.1⟩
theorem tU {e:Ev} (h:bT e=true):(e.kind=1∧eC e=true∧1≤e.st∧e.st≤4)∨(e.kind=2∧eC e=true∧1≤e.st∧e.st≤4)∨(e.kind=3∧eC e=true∧e.st=0)∨(e.kind=4∧cT e.user=true∧cT e.other=true∧e.n=0∧e.st=0)∨(e.kind=5∧cT e.user=true∧cT e.other=true∧e.n=0∧e.st=0)∨(e.kind=6∧e.user=bs0∧e.other=bs0∧e.st=0∧0≤e.n∧e.n<1099511627776)∨(e.kind=7∧cT e.user=true∧e.other=bs0∧e.n=0∧e.st=0):=by
  simp only[bT,Bool.and_eq_true,decide_eq_true_eq] at h
  obtain ⟨_,_,h⟩:=h
  split at h
  · rename_i hk
    simp only[Bool.and_eq_true,decide_eq_true_eq] at h
    rcases hk with hk | hk
    · exact .inl ⟨hk,h⟩
    · exact .inr (.inl ⟨hk,h⟩)
  · split at h
    · rename_i hk
      simp only[Bool.and_eq_true,decide_eq_true_eq] at h
      exact .inr (.inr (.inl ⟨hk,h⟩))
    · split at h
      · rename_i hk
        simp only[Bool.and_eq_true,decide_eq_true_eq] at h
        rcases hk with hk | hk
        · exact .inr (.inr (.inr (.inl ⟨hk,h⟩)))
        · exact .inr (.inr (.inr (.inr (.inl ⟨hk,h⟩))))
      · split at h
        · rename_i hk
          simp only[Bool.and_eq_true,decide_eq_true_eq] at h
          exact .inr (.inr (.inr (.inr (.inr (.inl ⟨hk,h⟩)))))
        · split at h
          · rename_i hk
            simp only[Bool.and_eq_true,decide_eq_true_eq] at h
            exact .inr (.inr (.inr (.inr (.inr (.inr ⟨hk,h⟩)))))
          · cases h
theorem aL1 {e:Ev}:eC e=true↔1≤e.n∧e.n≤999∧cT e.user=true∧e.other=bs0:=by
  simp only[eC,Bool.and_eq_true,decide_eq_true_eq]
theorem uT {l:List Se} {n:Int} {u:ByteArray} (h:fR l n u=0):∃ pre e post,l=pre++e::post∧e.1=(n,u)∧aKv l n=e∧(∀ st t,aNr l n st t=pre++(e.1,(st,t))::post)∧aK1 l n=pre++post:=by
  obtain ⟨k,hk,ek,h1,h2,h3⟩:=aA5 h
  refine⟨l.take k,l[k],l.drop (k+1),?_,?_,?_,fun st t=>?_,?_⟩
  · rw[← List.drop_eq_getElem_cons hk,List.take_append_drop]
  · exact Prod.ext (by simpa [isN] using h1) h2
  · exact(mW n u 0 0 l k hk h3 h1).2.1
  · rw[(mW n u st t l k hk h3 h1).2.2.2.1,List.set_eq_take_append_cons_drop,if_pos hk]
  · exact(mW n u 0 0 l k hk h3 h1).2.2.2.2
theorem aK0 {pre post:List Se} {e:Se} (h:gI (pre++e::post)=true):gI (pre++post)=true∧∀ x∈pre++post,x∈pre++e::post∧x.1.1≠e.1.1:=by
  obtain ⟨⟨h1,h2⟩,h3⟩:=(kO _).1 h
  have hm:∀ x∈pre++post,x∈pre++e::post:=fun x hx=>by
    rcases List.mem_append.1 hx with hx | hx
    · exact List.mem_append_left _ hx
    · exact List.mem_append_right _ (List.mem_cons_of_mem _ hx)
  obtain ⟨p1,p2,p3⟩:=List.pairwise_append.1 h2
  obtain ⟨p4,p5⟩:=List.pairwise_cons.1 p2
  refine⟨(kO _).2 ⟨⟨fun x hx=>h1 x (hm x hx),List.pairwise_append.2 ⟨p1,p5,fun a ha b hb=>p3 a ha b (List.mem_cons_of_mem _ hb)⟩⟩,by simp only[List.length_append,List.length_cons] at h3 ⊢; omega⟩,fun x hx=>⟨hm x hx,?_⟩⟩
  rcases List.mem_append.1 hx with hx | hx
  · have:=p3 x hx e (by simp); omega
  · have:=p4 x hx; omega
theorem chg_ris {pre post:List Se} {e e':Se} (h:gI (pre++e::post)=true) (he:fP e'=true) (hn:e'.1.1=e.1.1):gI (pre++e'::post)=true:=by
  obtain ⟨⟨h1,h2⟩,h3⟩:=(kO _).1 h
  obtain ⟨p1,p2,p3⟩:=List.pairwise_append.1 h2
  obtain ⟨p4,p5⟩:=List.pairwise_cons.1 p2
  refine(kO _).2 ⟨⟨fun x hx=>?_,List.pairwise_append.2 ⟨p1,List.pairwise_cons.2 ⟨fun b hb=>by rw[hn]; exact p4 b hb,p5⟩,fun a ha b hb=>?_⟩⟩,by simp only[List.length_append,List.length_cons] at h3 ⊢; omega⟩
  · rcases List.mem_append.1 hx with hx | hx
    · exact h1 x (List.mem_append_left _ hx)
    · rcases List.mem_cons.1 hx with rfl | hx
      · exact he
      · exact h1 x (List.mem_append_right _ (List.mem_cons_of_mem _ hx))
  · rcases List.mem_cons.1 hb with rfl | hb
    · rw[hn]; exact p3 a ha e (by simp)
    · exact p3 a ha b (List.mem_cons_of_mem _ hb)
theorem aL5 {l:List Se} (q:Se→Bool) (h:gI l=true):gI (l.filter q)=true:=by
  obtain ⟨⟨h1,h2⟩,h3⟩:=(kO _).1 h
  exact(kO _).2 ⟨⟨fun x hx=>h1 x (List.mem_filter.1 hx).1,h2.filter q⟩,Nat.le_trans (List.length_filter_le _ _) h3⟩
theorem aLp {l:List Tm} {u:ByteArray} {t:Int} (h:cQ cW l):cQ cW (nH l u t):=xL h (by simp) (by simp)
theorem aQy {s:Sta} {e:Ev} (h:RightP s) (he:bT e=true) (ht:s.now≤e.at') (h0:(bP s e).2=0):RightP { (bP s e).1 with now:=e.at' }:=by
  obtain ⟨t0,t1⟩:=ev_at he
  rcases tU he with ⟨hk,hs,s1,s2⟩ | ⟨hk,hs,s1,s2⟩ | ⟨hk,hs,s1⟩ | ⟨hk,r1,r2,n0,s0⟩ | ⟨hk,r1,r2,n0,s0⟩ | ⟨hk,r1,r2,s0,n0,n1⟩ | ⟨hk,r1,r2,n0,s0⟩
  · obtain ⟨m1,m2,m3,m4⟩:=aL1.1 hs
    rw[bP,if_pos hk] at h0 ⊢
    simp only at h0 ⊢
    rw[show mM s.opn ((e.n,e.user),(e.st,e.at'))=aD9 s.opn ((e.n,e.user),(e.st,e.at')) from if_pos h0]
    have hm:∀ x∈aD9 s.opn ((e.n,e.user),(e.st,e.at')),x=((e.n,e.user),(e.st,e.at'))∨x∈s.opn:=fun x hx=>aAz.1 hx
    have h1:gI [((e.n,e.user),(e.st,e.at'))]=true:=(kO _).2 ⟨⟨fun x hx=>by rw[List.mem_singleton.1 hx]; exact aBw.2 ⟨m3,m1,m2,s1,s2,t0,by show e.at'≤_; omega⟩,List.pairwise_singleton _ _⟩,by simp⟩
    refine rA h ht t1 h.h0 h.h1 (opn_ris h.opn h1 h0) (fun x hx=>?_) (fun x hx=>?_) (fun _ hx=>hx) h.usr h.sub (aBp h ht) h.tmb (fun _ hx=>.inl hx)
    · rcases hm x hx with rfl | hx
      · exact Int.le_refl _
      · exact Int.le_trans (h.late x hx) ht
    · rcases hm x hx with rfl | hx
      · exact .inr ht
      · exact .inl hx
  · obtain ⟨m1,m2,m3,m4⟩:=aL1.1 hs
    rw[bP,if_neg (by omega),if_pos hk] at h0 ⊢
    simp only at h0 ⊢
    obtain ⟨pre,x,post,e1,e2,e3,e4,e5⟩:=uT h0
    have hx:x∈s.opn:=by rw[e1]; simp
    have hn:x.1.1=e.n∧x.1.2=e.user:=by rw[e2]; exact⟨rfl,rfl⟩
    have hr:=h.opn
    rw[e1] at hr
    obtain ⟨q1,q2⟩:=aK0 hr
    rw[show mT s.opn e.n e.user e.st e.at'=pre++(x.1,(e.st,e.at'))::post from by rw[mT,if_pos h0,e4],show stR s.opn e.n e.user e.at'=dK x e.at' from by rw[stR,if_pos h0,e3],← hn.2]
    have hm:∀ y∈pre++(x.1,(e.st,e.at'))::post,y=(x.1,(e.st,e.at'))∨y∈pre++post:=fun y hy=>by
      rcases List.mem_append.1 hy with hy | hy
      · exact .inr (List.mem_append_left _ hy)
      · rcases List.mem_cons.1 hy with hy | hy
        · exact .inl hy
        · exact .inr (List.mem_append_right _ hy)
    refine yT h ht t1 hx (chg_ris hr (aBw.2 ⟨by show cT x.1.2=true; rw[hn.2]; exact m3,by show 1≤x.1.1; omega,by show x.1.1≤999; omega,s1,s2,t0,by show e.at'≤_; omega⟩) rfl) (fun y hy=>?_) (fun y hy=>?_)
    · rcases hm y hy with rfl | hy
      · exact Int.le_refl _
      · exact Int.le_trans (h.late y (by rw[e1]; exact(q2 y hy).1)) ht
    · rcases hm y hy with rfl | hy
      · exact .inr (Int.le_refl _)
      · exact .inl ⟨by rw[e1]; exact(q2 y hy).1,(q2 y hy).2⟩
  · rw[bP,if_neg (by omega),if_neg (by omega),if_pos hk] at h0 ⊢
    simp only at h0 ⊢
    obtain ⟨pre,x,post,e1,e2,e3,e4,e5⟩:=uT h0
    have hx:x∈s.opn:=by rw[e1]; simp
    have hn:x.1.2=e.user:=by rw[e2]
    have hr:=h.opn
    rw[e1] at hr
    obtain ⟨q1,q2⟩:=aK0 hr
    rw[show mE s.opn e.n e.user=pre++post from by rw[mE,if_pos h0,e5],show stR s.opn e.n e.user e.at'=dK x e.at' from by rw[stR,if_pos h0,e3],← hn]
    exact yT h ht t1 hx q1 (fun y hy=>Int.le_trans (h.late y (by rw[e1]; exact(q2 y hy).1)) ht) (fun y hy=>.inl ⟨by rw[e1]; exact(q2 y hy).1,(q2 y hy).2⟩)
  · rw[bP,if_neg (by omega),if_neg (by omega),if_neg (by omega),if_pos hk] at h0 ⊢
    simp only at h0 ⊢
    have hon:¬ onB s.sub (e.user,e.other)=true:=fun hh=>by rw[if_pos hh] at h0; omega
    rw[if_neg hon]
    have hg:=aJa (p:=(e.user,e.other)) (aFh h) ht t1 r1 r2 (lF r1) (lF r2)
    rw[aSi,if_neg hon] at hg
    refine rA h ht t1 h.h0 h.h1 h.opn (fun x hx=>Int.le_trans (h.late x hx) ht) (fun _ hx=>.inl hx) (fun _ hx=>hx) h.usr hg.1 (fun y hy=>gM.2 ⟨?_,(hg.2 y hy).1,(hg.2 y hy).2.1.symm⟩) h.tmb (fun _ hx=>.inl hx)
    rcases wJ.1 hy with rfl | hy
    · exact t0
    · exact(gM.1 (h.sok y hy)).1
  · rw[bP,if_neg (by omega),if_neg (by omega),if_neg (by omega),if_neg (by omega),if_pos hk] at h0 ⊢
    simp only at h0 ⊢
    have hon:onB s.sub (e.user,e.other)=true:=by
      by_cases hh:onB s.sub (e.user,e.other)=true
      · exact hh
      · rw[if_neg hh] at h0; omega
    rw[if_pos hon]
    have hg:=aJa (p:=(e.user,e.other)) (aFh h) ht t1 r1 r2 (lF r1) (lF r2)
    rw[aSi,if_pos hon] at hg
    refine rA h ht t1 h.h0 h.h1 h.opn (fun x hx=>Int.le_trans (h.late x hx) ht) (fun _ hx=>.inl hx) (fun _ hx=>hx) h.usr hg.1 (fun y hy=>gM.2 ⟨?_,(hg.2 y hy).1,(hg.2 y hy).2.1.symm⟩) h.tmb (fun _ hx=>.inl hx)
    rcases aAk hy with hy | ⟨z,hz,_,_,rfl⟩
    · exact(gM.1 (h.sok y hy)).1
    · exact(gM.1 (h.sok z hz)).1
  · rw[bP,if_neg (by omega),if_neg (by omega),if_neg (by omega),if_neg (by omega),if_neg (by omega),if_pos hk] at h0 ⊢
    have:=h.h0
    have:=h.h1
    exact rA h ht t1 (by show 0≤max s.hor e.n; omega) (by show max s.hor e.n<_; omega) h.opn (fun x hx=>Int.le_trans (h.late x hx) ht) (fun _ hx=>.inl hx) (fun _ hx=>hx) h.usr h.sub (aBp h ht) h.tmb (fun _ hx=>.inl hx)
  · rw[bP,if_neg (by omega),if_neg (by omega),if_neg (by omega),if_neg (by omega),if_neg (by omega),if_neg (by omega)] at h0 ⊢
    refine rA h ht t1 h.h0 h.h1 (aL5 _ h.opn) (fun x hx=>Int.le_trans (h.late x (List.mem_filter.1 hx).1) ht) (fun x hx=>.inl (List.mem_filter.1 hx).1) (fun x hx=>?_) (tF h.usr) (aCg _ h.sub) (fun y hy=>aBp (o:=[]) (u:=[]) (hr:=0) (tm:=[]) h ht y (List.mem_filter.1 hy).1) (aLp h.tmb) (fun x hx=>?_)
    · rcases lB.1 hx with hx | hx
      · exact hx.1
      · unfold lY at hx; rw[if_pos rfl] at hx; cases hx
    · rcases lB.1 hx with hx | hx
      · exact .inl hx.1
      · rw[List.mem_singleton.1 hx]; exact .inr ⟨r1,t0,Int.le_refl _⟩
theorem aNu {s:Sta} {e:Ev} (h:RightP s) (h0:(aR s e).2=0):RightP (aR s e).1:=by
  unfold aR at h0 ⊢
  split at h0
  · rename_i he
    rw[if_pos he]
    split at h0
    · simp at h0
    · rename_i ht
      rw[if_neg ht]
      split at h0
      · rename_i h2
        rw[if_pos h2]
        exact aQy h he (Int.not_lt.1 ht) h2
      · rename_i h2; exact absurd h0 h2
  · simp at h0
theorem uE:RightP mY:=gZ.1 (by decide)
theorem aWe (l:List Us) (u:ByteArray) (x:bS) (h:cQ cK l):(kR l u x).length≤l.length+1:=by
  unfold kR; split
  · omega
  · have e:=(tH (u:=u) h).1
    have e2:=congrArg List.length e
    have:=@aFe u (fZ (ofU l u) x)
    simp only[oF,aAh,List.length_append] at *
    omega
end Go.Abs
set_option linter.unusedVariables false
set_option linter.unusedSimpArgs false
namespace Go.Abs
open Go
theorem aLi (a b:Int):IntKind.i64.wrap (IntKind.i64.wrap a+b)=IntKind.i64.wrap (a+b):=by
  rw[IntKind.wrap_i64,IntKind.wrap_i64,IntKind.wrap_i64]; omega
theorem aCv {l:List Us} {k:Nat} (hk:k<l.length):uS (l.take (k+1))=uS (l.take k)+l[k].2.length:=by
  rw[uS,uS,kN l _ k hk,List.sum_append]; simp
theorem aSs {α β:Type} {p:α→Bool} {l:List α} (f:α→β):decide ((((l.filter fun x=>!p x).map f).length:Nat)<(((l.map f).length:Nat):Int))=l.any p:=by
  rw[Bool.eq_iff_iff]
  simp only[List.length_map,decide_eq_true_eq,List.any_eq_true]
  have h1:=List.length_filter_le (fun x=>!p x) l
  constructor
  · intro h
    by_cases hn:∃ x∈l,p x=true
    · exact hn
    · exfalso
      have:l.filter (fun x=>!p x)=l:=List.filter_eq_self.2 fun x hx=>by
        cases hp:p x with
        | false=>rfl
        | true=>exact absurd ⟨x,hx,hp⟩ hn
      rw[this] at h; omega
  · rintro ⟨x,hx,hp⟩
    have h2:(l.filter fun x=>!p x).length≠l.length:=fun e=>by
      have:=List.filter_eq_self.1 (List.Sublist.eq_of_length (List.filter_sublist) e) x hx
      simp [hp] at this
    omega
theorem oE {a b:Sta}:a=b↔a.now=b.now∧a.hor=b.hor∧a.opn=b.opn∧a.usr=b.usr∧a.sub=b.sub∧a.tmb=b.tmb:=by
  cases a; cases b; simp only[Sta.mk.injEq]
theorem bJ {a:ByteArray}:a.toList=[]↔a=bs0:=by
  have:bs0.toList=[]:=by rw[pO]
  rw[← this,toList_inj]
theorem has_not {α:Type} {key:α→ByteArray} {l:List α} {u:ByteArray}:hP key (l.filter fun x=>!isK key u x) u=false:=by
  rw[hP,List.any_eq_false]
  intro x hx
  have:=(List.mem_filter.1 hx).2
  simpa using this
theorem aLq {l:List Tm} {u:ByteArray} {t:Int} (h:cQ cW l):(l.filter fun x=>!isK cW u x).take (dQ cW (l.filter fun x=>!isK cW u x) u)++(u,t)::(l.filter fun x=>!isK cW u x).drop (dQ cW (l.filter fun x=>!isK cW u x) u)=nH l u t:=by
  rw[aSj (key:=cW) (mZ h _) has_not,nH]
  refine rB (key:=cW) (xL (mZ h _) (by simp) (by simp)) (xL h (by simp) (by simp)) fun x=>?_
  rw[lB,lB,List.mem_filter]
  simp only[isK,Bool.not_eq_true',decide_eq_false_iff_not]
  constructor
  · rintro (⟨⟨a,_⟩,b⟩ | a)
    · exact .inl ⟨a,b⟩
    · exact .inr a
  · rintro (⟨a,b⟩ | a)
    · exact .inl ⟨⟨a,b⟩,b⟩
    · exact .inr a
theorem aS8 {l:List Tm} {u:ByteArray} {t:Int} (h:cQ cW l):((l.filter fun x=>!isK cW u x).map tmC).take (dQ cW (l.filter fun x=>!isK cW u x) u)++[.s (.string u),.s (.int .i64 t)]::((l.filter fun x=>!isK cW u x).map tmC).drop (dQ cW (l.filter fun x=>!isK cW u x) u)=(nH l u t).map tmC:=by
  rw[← aLq h]
  simp only[List.map_append,List.map_cons,List.map_take,List.map_drop]; rfl
theorem aU5 {l:List Tm} {u:ByteArray} {t:Int}:(nH l u t).length≤l.length+1:=by
  have:(nH l u t).length=(l.filter (loK cW u)).length+((l.filter (hiK cW u)).length+1):=by simp [nH,aAh]
  have h2:(l.filter (loK cW u)).length+(l.filter (hiK cW u)).length≤l.length:=by
    induction l with
    | nil=>simp
    | cons x l ih =>
      simp only[List.filter_cons]
      have:¬ (loK cW u x=true∧hiK cW u x=true):=by
        rintro ⟨a,b⟩
        simp only[loK,hiK,decide_eq_true_eq] at a b
        omega
      have ih:=ih (by simp [nH,aAh])
      by_cases a:loK cW u x=true <;> by_cases b:hiK cW u x=true <;> simp [a,b] <;> first | omega | exact absurd ⟨a,b⟩ this
  omega
theorem erU {s:Sta} {u:ByteArray} {t:Int} (hr:cQ cK s.usr):(s.usr.filter fun x=>!isK cK u x)=(fQ s u t).usr:=by
  show _=oF s.usr u []
  rw[oF,lY,if_pos rfl]
  exact aE8 hr u
theorem erUl {s:Sta} {u:ByteArray} {t:Int} (hr:cQ cK s.usr):(s.usr.filter fun x=>!isK cK u x).length=((fQ s u t).usr.map usC).length:=by rw[List.length_map,erU hr]
theorem erTl {l:List Tm} {u:ByteArray} {t:Int} (h:cQ cW l):(l.filter fun x=>!isK cW u x).length+1=((nH l u t).map tmC).length:=by
  have hp:=aAu (key:=cW) (l.filter fun x=>!isK cW u x) u
  rw[← aLq h,List.length_map,List.length_append,List.length_cons,List.length_take,List.length_drop]
  omega
theorem dA {P:Program} {t:TypeId} {k:IntKind} {a b:Int} (h:a≠b):qJ P .eql t (.int k a) (.int k b)=some (.bool false):=by
  simp [qJ,aBb,h]
theorem aVb {l:List Us} {u:ByteArray} (h:cQ cK l):(oF l u []).length≤l.length:=by
  have e:oF l u []=l.filter fun x=>!isK cK u x:=by rw[oF,lY,if_pos rfl]; exact(aE8 h u).symm
  rw[e]; exact List.length_filter_le _ _
theorem erSz {n m:Nat} {s:Sta} {u:ByteArray} {t:Int} (hz:SzS n s) (hr:cQ cK s.usr) (hm:n+24≤m):SzS m (fQ s u t):=by
  have h1:=List.length_filter_le (fun e=>!jK u e) s.opn
  have h2:=List.length_filter_le (fun e=>!lC u e) s.sub
  have h3:=aVb (u:=u) hr
  have h4:=aU5 (l:=s.tmb) (u:=u) (t:=t)
  have z1:=hz.o
  have z2:=hz.u
  have z3:=hz.b
  have z4:=hz.t
  refine⟨?_,?_,?_,?_,fun x hx=>?_⟩
  · show (s.opn.filter fun e=>!jK u e).length*40≤m
    omega
  · show (oF s.usr u []).length*40≤m
    omega
  · show (s.sub.filter fun e=>!lC u e).length*48≤m
    omega
  · show (nH s.tmb u t).length*24≤m
    omega
  · have hx':x∈oF s.usr u []:=hx
    rcases lB.1 hx' with ⟨hx',_⟩ | hx'
    · have:=hz.y x hx'; omega
    · unfold lY at hx'; rw[if_pos rfl] at hx'; cases hx'
theorem aWf {n m:Nat} {s:Sta} {u:ByteArray} {x:bS} (hz:SzS n s) (hr:cQ cK s.usr) (hm:n+40≤m):SzS m (dU s u x):=by
  have z1:=hz.o
  have z2:=hz.u
  have z3:=hz.b
  have z4:=hz.t
  have q:=aWe s.usr u x hr
  refine⟨by show s.opn.length*40≤m; omega,by show (kR s.usr u x).length*40≤m; omega,by show s.sub.length*48≤m; omega,by show s.tmb.length*24≤m; omega,fun y hy=>?_⟩
  have hy':y∈kR s.usr u x:=hy
  unfold kR at hy'
  split at hy'
  · have:=hz.y y hy'; omega
  · rcases lB.1 hy' with ⟨hy',_⟩ | hy'
    · have:=hz.y y hy'; omega
    · unfold lY at hy'
      split at hy'
      · cases hy'
      · rw[List.mem_singleton.1 hy']
        have h1:(ofU s.usr u).length*32≤n:=xS (p:=fun x=>x.2.length*32≤n) hr hz.y (by simp)
        have h2:=tZ (ofU s.usr u) x
        show (fZ (ofU s.usr u) x).length*32≤m
        omega
theorem aN0 {l:List Us} {u:ByteArray} {x:bS} (h:cQ cK l):cQ cK (kR l u x):=by
  unfold kR; split
  · exact h
  · exact tF h
def lZ (s:Sta) (k:Nat):Sta:={ s with usr:=oX s (s.opn.take k) s.usr }
theorem tJ {s:Sta} {k:Nat} (hk:k<s.opn.length):lZ s (k+1)=dU (lZ s k) s.opn[k].1.2 (dK s.opn[k] s.now):=by
  unfold lZ oX dU
  rw[oV s.opn _ _ k hk]
theorem aAl {s:Sta} (h:cQ cK s.usr):∀ (k:Nat),k≤s.opn.length→cQ cK (lZ s k).usr
  | 0,_=>h
  | k+1,hk=>by rw[tJ (by omega)]; exact aN0 (aAl h k (by omega))
theorem aEi {n:Nat} {s:Sta} (hz:SzS n s) (h:cQ cK s.usr):∀ (k:Nat),k≤s.opn.length→SzS (n+40*k) (lZ s k)
  | 0,_=>hz.mono (by omega)
  | k+1,hk=>by rw[tJ (by omega)]; exact aWf (aEi hz h k (by omega)) (aAl h k (by omega)) (by omega)
theorem kD {l:List Us} {h:Int} {k:Nat} (hk:k<l.length):eH h (l.take (k+1))=eH h (l.take k)++lY l[k].1 (fS h l[k].2):=uC l _ k hk
theorem uM (h:Int):∀ (l:List Us),(eH h l).length≤l.length
  | []=>Nat.le_refl _
  | x::l=>by
    have:=uM h l
    have h2:=@aFe x.1 (fS h x.2)
    simp only[eH,List.flatMap_cons,List.length_append,List.length_cons] at *
    omega
theorem aUh (e:Se) (t:Int):mE [e] e.1.1 e.1.2=[]∧stR [e] e.1.1 e.1.2 t=dK e t∧fR [e] e.1.1 e.1.2=0:=by
  have hc:fR [e] e.1.1 e.1.2=0:=by simp [fR,isN]
  exact⟨by rw[mE,if_pos hc]; simp [aK1,isN],by rw[stR,if_pos hc]; simp [aKv,isN],hc⟩
theorem aIs {w:World} {p:Hp} {v:Value} {k:Nat} {a b c d e:AV} (h:RelV w p (.agg [a,b,.s (.slice none 0 0),c,d,e]) v):RelV w p (.agg [a,b,.sl k [],c,d,e]) v:=by
  cases h with
  | agg _ vs hl h =>
    refine .agg _ _ hl fun i c' v hc hv=>?_
    match i,hc with
    | 0,hc=>exact h 0 _ v hc hv
    | 1,hc=>exact h 1 _ v hc hv
    | 2,hc=>cases hc; have:=h 2 _ v rfl hv; cases this; exact .sln k none 0 (by simp [maxLen])
    | 3,hc=>exact h 3 _ v hc hv
    | 4,hc=>exact h 4 _ v hc hv
    | 5,hc=>exact h 5 _ v hc hv
end Go.Abs
set_option linter.unusedVariables false
set_option linter.unusedSimpArgs false
namespace Go.Proofs.YtckjaledibkghaaGreat
open Go Go.Abs
theorem aCc (s:Sta) (u:ByteArray) (t:Int) (hz:SzS 140737488352000 s) (ho:s.opn.length≤50) (hr:cQ cK s.usr) :Den Tryz.prog 29 [.agg (aO s),.s (.string u),.s (.int .i64 t)]  (·=.sl 4 ((fN s u t).map stC)):=by
 have z1:=hz.o
 have z2:=hz.u
 have hlm:(s.usr.map usC).length=s.usr.length:=List.length_map _
 have hpl:=aAu (key:=cK) s.usr u
 have hsl:=aBk s.opn u t
 have hou:(ofU s.usr u).length*32≤140737488352000:=xS (p:=fun x=>x.2.length*32≤140737488352000) hr hz.y (by simp)
 refine aS Tryz.func29 rfl (Nat.le_of_ble_eq_true rfl) (fun w0 A hf=>(aC (fun K1 hK1=>(aB (aJ hf rfl (cI rfl rfl (lf rfl)) (aG rfl (bQ) (aD (hK1 _ (aC (fun K2 hK2=>(aB (aG rfl (rL (k:=4)) (aD (hK2 _ (aC (fun K3 hK3=>?_))))))))))))))))
 refine aC (fun K4 hK4=>(aB (aE aA 3 rfl (aJ hf rfl (aK rfl rfl zQ rfl (yS s.usr u (by omega) hr)) (aE aA 5 rfl (aD (hK4 _ (aC (fun K5 hK5=>(aB (aE aA 1 rfl (aD (hK5 _ (aL rfl (fun hc1=>?_) (fun hc1=>?_)))))))))))))))
 ·
  obtain ⟨hk0,he⟩:=aBx hr (show hP cK s.usr u=true by assumption)
  refine aB (aE aA 3 rfl (aG rfl (aY rfl rfl eF dG (iB (k:=dQ cK s.usr u) (by omega) hk0)) (aE aA 2 rfl (aJ hf rfl (aK rfl rfl uX rfl (dC (uH s.usr[dQ cK s.usr u].2 (by rw[he]; show (ofU s.usr u).length*32≤_; omega)))) ?_))))
  refine aE aA 1 rfl (aD (hK3 _ (aC (fun K6 hK6=>(aC (fun K7 hK7=>(aB (aE aA 4 rfl (aJ hf rfl (aK rfl rfl aG3 rfl (aCd s.opn u t (by omega))) (aE aA 2 rfl (aD (hK7 _ (aQ (bR (ι:=Nat×List bS) (fun(⟨k,out⟩:Nat×List bS)=>⟨42,[(7,.sl 4 (out.map stC)),(31,.sl 4 ((dM s.opn u t).map stC)),(32,.s (.int .i64 (((dM s.opn u t).map stC).length:Nat))),(33,.s (.int .i64 (k:Nat)))],[]⟩) (fun(⟨k,out⟩:Nat×List bS)=>k≤(dM s.opn u t).length∧out=((dM s.opn u t).take k).foldl fZ (ofU s.usr u)∧out.length≤(ofU s.usr u).length+k) (fun(⟨k,out⟩:Nat×List bS)=>(dM s.opn u t).length - k) (0,ofU s.usr u) ?_ ?_ ?_))))))))))))))
  · exact⟨Nat.zero_le _,rfl,Nat.le_refl _⟩
  · first | exact jS ⟨(by rw[show (ofU s.usr u)=(s.usr[dQ cK s.usr u]).2 from by rw[he]]; rfl),rfl,rfl,rfl,trivial⟩ | exact jS ⟨(by rw[pS hno]; rfl),rfl,rfl,rfl,trivial⟩
  ·
   rintro ⟨k,out⟩ hC
   obtain ⟨h1,h2,h3⟩:=hC
   refine aC (fun K8 hK8=>(aB (aE aA 1 rfl (aD (hK8 _ (aC (fun K9 hK9=>(aL rfl (fun hc2=>?_) (fun hc2=>?_)))))))))
   ·
    simp only[bs] at hc2
    refine aM (hK9 _ (aC (fun K10 hK10=>(aQ (aC (fun K11 hK11=>(aB ?_)))))))
    refine aG rfl (aY rfl rfl cH bH (by first | exact ixm (by omega) | assumption | exact⟨by decide,rfl⟩)) ?_
    refine aE aA 1 rfl (bV hf rfl eU rfl bH rfl rfl rfl rfl (lf rfl) (aD (hK11 _ (aB (aE aA 2 rfl (aJ hf rfl (aK rfl rfl zP rfl (aGx out (dM s.opn u t)[k] (by omega))) (aE aA 1 rfl ?_)))))))
    refine bK ?_
    refine hK10 _ (aB ?_)
    refine aG rfl (bN rfl rfl (by omega) (by omega)) ?_
    refine aE aA 1 rfl (aD ?_)
    exact⟨(k+1,fZ out (dM s.opn u t)[k]),⟨by omega,by rw[oV (dM s.opn u t) fZ _ k (by omega),← h2],by have:=tZ out (dM s.opn u t)[k]; omega⟩,by simp only; omega,cN rfl⟩
   ·
    simp only[bs] at hc2
    refine bB (hK6 _ (aC (fun K12 hK12=>(aB (aE aA 2 rfl (aD (hK12 _ (aI ?_))))))))
    refine⟨_,rfl,?_⟩
    show AV.sl 4 (out.map stC)=_
    rw[h2,List.take_of_length_le (by omega)]; rfl
 ·
  have hno:hP cK s.usr u=false:=by simp_all
  refine aM (hK3 _ (aC (fun K13 hK13=>(aC (fun K14 hK14=>(aB (aE aA 4 rfl (aJ hf rfl (aK rfl rfl aG3 rfl (aCd s.opn u t (by omega))) (aE aA 2 rfl (aD (hK14 _ (aQ (bR (ι:=Nat×List bS) (fun(⟨k,out⟩:Nat×List bS)=>⟨42,[(7,.sl 4 (out.map stC)),(31,.sl 4 ((dM s.opn u t).map stC)),(32,.s (.int .i64 (((dM s.opn u t).map stC).length:Nat))),(33,.s (.int .i64 (k:Nat)))],[]⟩) (fun(⟨k,out⟩:Nat×List bS)=>k≤(dM s.opn u t).length∧out=((dM s.opn u t).take k).foldl fZ (ofU s.usr u)∧out.length≤(ofU s.usr u).length+k) (fun(⟨k,out⟩:Nat×List bS)=>(dM s.opn u t).length - k) (0,ofU s.usr u) ?_ ?_ ?_)))))))))))))
  · exact⟨Nat.zero_le _,rfl,Nat.le_refl _⟩
  · first | exact jS ⟨(by rw[show (ofU s.usr u)=(s.usr[dQ cK s.usr u]).2 from by rw[he]]; rfl),rfl,rfl,rfl,trivial⟩ | exact jS ⟨(by rw[pS hno]; rfl),rfl,rfl,rfl,trivial⟩
  ·
   rintro ⟨k,out⟩ hC
   obtain ⟨h1,h2,h3⟩:=hC
   refine aC (fun K15 hK15=>(aB (aE aA 1 rfl (aD (hK15 _ (aC (fun K16 hK16=>(aL rfl (fun hc3=>?_) (fun hc3=>?_)))))))))
   ·
    simp only[bs] at hc3
    refine aM (hK16 _ (aC (fun K17 hK17=>(aQ (aC (fun K18 hK18=>(aB ?_)))))))
    refine aG rfl (aY rfl rfl cH bH (by first | exact ixm (by omega) | assumption | exact⟨by decide,rfl⟩)) ?_
    refine aE aA 1 rfl (bV hf rfl eU rfl bH rfl rfl rfl rfl (lf rfl) (aD (hK18 _ (aB (aE aA 2 rfl (aJ hf rfl (aK rfl rfl zP rfl (aGx out (dM s.opn u t)[k] (by omega))) (aE aA 1 rfl ?_)))))))
    refine bK ?_
    refine hK17 _ (aB ?_)
    refine aG rfl (bN rfl rfl (by omega) (by omega)) ?_
    refine aE aA 1 rfl (aD ?_)
    exact⟨(k+1,fZ out (dM s.opn u t)[k]),⟨by omega,by rw[oV (dM s.opn u t) fZ _ k (by omega),← h2],by have:=tZ out (dM s.opn u t)[k]; omega⟩,by simp only; omega,cN rfl⟩
   ·
    simp only[bs] at hc3
    refine bB (hK13 _ (aC (fun K19 hK19=>(aB (aE aA 2 rfl (aD (hK19 _ (aI ?_))))))))
    refine⟨_,rfl,?_⟩
    show AV.sl 4 (out.map stC)=_
    rw[h2,List.take_of_length_le (by omega)]; rfl
theorem aI9 (s:Sta) (u:ByteArray) (hz:SzS 140737488352000 s) (hr:cQ cK s.usr) (hr2:cQ cW s.tmb) :Den Tryz.prog 31 [.agg (aO s),.s (.string u)]  (·=.s (.bool (mO s u))):=by
 have z1:=hz.o
 have z2:=hz.u
 have z3:=hz.b
 have z4:=hz.t
 refine aS Tryz.func31 rfl (Nat.le_of_ble_eq_true rfl) (fun w0 A hf=>(aC (fun K1 hK1=>(aB (aJ hf rfl (cI rfl rfl (lf rfl)) (aE aA 1 rfl (aD (hK1 _ (aC (fun K2 hK2=>(aB (aE aA 3 rfl (aJ hf rfl (aK rfl rfl zQ rfl (yS s.usr u (by omega) hr)) (aE aA 5 rfl (aD ?_)))))))))))))))
 refine hK2 _ (aC (fun K3 hK3=>(aB (aE aA 3 rfl (aJ hf rfl (aK rfl rfl aG1 rfl (aEx s.tmb u (by omega) hr2)) (aE aA 5 rfl (aD (hK3 _ (aC (fun K4 hK4=>(cM hf bE (by kernel_rfl) rfl (aT aA 2 rfl (dP 24 false rfl (fun hg1=>?_) (fun hg1=>?_))))))))))))))
 ·
  refine aT aA 3 rfl (dP 27 false rfl (fun hg2=>?_) (fun hg2=>?_))
  ·
   refine aT aA 3 rfl (aZ [(29,_),(30,_)] rfl rfl ⟨⟨rfl,rfl⟩,⟨rfl,rfl⟩,trivial⟩ rfl (aK rfl rfl aG0 rfl (yG s.opn u (by omega))) (aT aA 4 rfl (bL [(32,_),(35,_)] rfl rfl ⟨⟨rfl,rfl⟩,⟨rfl,rfl⟩,trivial⟩ rfl (cU rfl rfl (show qJ _ _ _ _ _=some (.bool (s.opn.any (jK u))) from by rw[← aSs seC]; rfl)) ?_)))
   refine aT aA 2 rfl (dP 38 false rfl (fun hg3=>?_) (fun hg3=>?_))
   ·
    refine aT aA 3 rfl (aZ [(40,_),(41,_)] rfl rfl ⟨⟨rfl,rfl⟩,⟨rfl,rfl⟩,trivial⟩ rfl (aK rfl rfl aDt rfl (aCb s.sub u (by omega))) (aT aA 4 rfl (bL [(43,_),(46,_)] rfl rfl ⟨⟨rfl,rfl⟩,⟨rfl,rfl⟩,trivial⟩ rfl (cU rfl rfl (show qJ _ _ _ _ _=some (.bool (s.sub.any (lC u))) from by rw[← aSs enC]; rfl)) ?_)))
    refine aT aA 2 rfl (cP [4] rfl rfl rfl (hK4 _ (aI ?_)))
    refine⟨_,rfl,?_⟩
    refine aP ?_
    unfold mO
    generalize hP cW s.tmb u=b1 at *
    generalize hP cK s.usr u=b2 at *
    generalize s.opn.any (jK u)=b3 at *
    generalize s.sub.any (lC u)=b4 at *
    simp_all
   ·
    simp only[bs] at hg3
    refine aT aA 11 rfl (cP [4] rfl rfl rfl (hK4 _ (aI ?_)))
    refine⟨_,rfl,?_⟩
    refine aP ?_
    unfold mO
    generalize hP cW s.tmb u=b1 at *
    generalize hP cK s.usr u=b2 at *
    generalize s.opn.any (jK u)=b3 at *
    generalize s.sub.any (lC u)=b4 at *
    simp_all
  ·
   simp only[bs] at hg2
   refine aT aA 22 rfl (cP [4] rfl rfl rfl (hK4 _ (aI ?_)))
   refine⟨_,rfl,?_⟩
   refine aP ?_
   unfold mO
   generalize hP cW s.tmb u=b1 at *
   generalize hP cK s.usr u=b2 at *
   generalize s.opn.any (jK u)=b3 at *
   generalize s.sub.any (lC u)=b4 at *
   simp_all
 ·
  simp only[bs] at hg1
  refine aT aA 25 rfl (cP [4] rfl rfl rfl (hK4 _ (aI ?_)))
  refine⟨_,rfl,?_⟩
  refine aP ?_
  unfold mO
  generalize hP cW s.tmb u=b1 at *
  generalize hP cK s.usr u=b2 at *
  generalize s.opn.any (jK u)=b3 at *
  generalize s.sub.any (lC u)=b4 at *
  simp_all
theorem aCx (s:Sta) (hz:SzS 140737488352000 s) :Den Tryz.prog 33 [.agg (aO s)]  (·=.s (.int .i64 (IntKind.i64.wrap ((tW s:Nat):Int)))):=by
 have z1:=hz.o
 have z2:=hz.u
 have z3:=hz.b
 have z4:=hz.t
 have y1:(s.opn.map seC).length=s.opn.length:=List.length_map _
 have y2:(s.sub.map enC).length=s.sub.length:=List.length_map _
 have y3:(s.tmb.map tmC).length=s.tmb.length:=List.length_map _
 refine aS Tryz.func33 rfl (Nat.le_of_ble_eq_true rfl) (fun w0 A hf=>(aC (fun K1 hK1=>(aB (aJ hf rfl (cI rfl rfl (lf rfl)) (aE aA 1 rfl (aD (hK1 _ (aC (fun K2 hK2=>(aB (aE aA 6 rfl ?_))))))))))))
 refine aG rfl (bN rfl rfl (by omega) (by omega)) ?_
 refine aE aA 3 rfl ?_
 refine aG rfl (bN rfl rfl (by omega) (by omega)) ?_
 refine aE aA 1 rfl (aD (hK2 _ (aC (fun K3 hK3=>(aC (fun K4 hK4=>(aB (aE aA 4 rfl (aD (hK4 _ (aQ (bR (ι:=Nat) (fun k=>⟨31,[(3,.s (.int .i64 (IntKind.i64.wrap ((s.opn.length+s.sub.length+s.tmb.length+uS (s.usr.take k):Nat):Int)))),(18,.sl 2 (s.usr.map usC)),(19,.s (.int .i64 ((s.usr.map usC).length:Nat))),(20,.s (.int .i64 (k:Nat)))],[]⟩) (fun k=>k≤s.usr.length) (fun k=>s.usr.length - k) 0 ?_ ?_ ?_))))))))))))
 · exact Nat.zero_le _
 · exact jS ⟨(aV (by rw[List.take_zero,show uS []=0 from rfl,wrap_i64 (by omega) (by omega)]; simp only[List.length_map]; omega)),rfl,rfl,rfl,trivial⟩
 ·
  rintro k hC
  refine aC (fun K5 hK5=>(aB (aE aA 1 rfl (aD (hK5 _ (aC (fun K6 hK6=>(aL rfl (fun hc1=>?_) (fun hc1=>?_)))))))))
  ·
   simp only[bs] at hc1
   refine aM (hK6 _ (aC (fun K7 hK7=>(aQ (aC (fun K8 hK8=>(aB ?_)))))))
   refine aG rfl (aY rfl rfl eF dG (by first | exact ixm (by omega) | assumption | exact⟨by decide,rfl⟩)) ?_
   refine aE aA 1 rfl (bV hf rfl lO rfl dG rfl rfl rfl rfl (lf rfl) (aD (hK8 _ (aB (aE aA 4 rfl (aG rfl (cU rfl rfl rfl) (aE aA 1 rfl ?_)))))))
   refine bK ?_
   refine hK7 _ (aB ?_)
   refine aG rfl (bN rfl rfl (by omega) (by omega)) ?_
   refine aE aA 1 rfl (aD ?_)
   exact⟨k+1,by omega,by omega,jS ⟨(aV (by rw[aLi,aCv (by omega)]; congr 1; simp only[List.length_map]; omega)),rfl,rfl,rfl,trivial⟩⟩
  ·
   simp only[bs] at hc1
   refine bB (hK3 _ (aC (fun K9 hK9=>(aB (aE aA 2 rfl (aD (hK9 _ (aI ?_))))))))
   refine⟨_,rfl,?_⟩
   unfold tW
   rw[List.take_of_length_le (by omega)]; rfl
theorem vY (s:Sta) (hz:SzS 140737488352000 s) :Den Tryz.prog 34 [.agg (aO s)]  (·=.s (.int .i64 (IntKind.i64.wrap ((tW s:Nat):Int)))):=by
 have z1:=hz.o
 have z2:=hz.u
 have z3:=hz.b
 have z4:=hz.t
 have y1:(s.opn.map seC).length=s.opn.length:=List.length_map _
 have y2:(s.sub.map enC).length=s.sub.length:=List.length_map _
 have y3:(s.tmb.map tmC).length=s.tmb.length:=List.length_map _
 refine aS Tryz.func34 rfl (Nat.le_of_ble_eq_true rfl) (fun w0 A hf=>(aC (fun K1 hK1=>(aB (aJ hf rfl (cI rfl rfl (lf rfl)) (aE aA 1 rfl (aD (hK1 _ (aC (fun K2 hK2=>(aB (aE aA 6 rfl ?_))))))))))))
 refine aG rfl (bN rfl rfl (by omega) (by omega)) ?_
 refine aE aA 3 rfl ?_
 refine aG rfl (bN rfl rfl (by omega) (by omega)) ?_
 refine aE aA 1 rfl (aD (hK2 _ (aC (fun K3 hK3=>(aC (fun K4 hK4=>(aB (aE aA 1 rfl (aD (hK4 _ (aQ (bR (ι:=Nat) (fun k=>⟨33,[(1,.adr (aO s)),(3,.s (.int .i64 (IntKind.i64.wrap ((s.opn.length+s.sub.length+s.tmb.length+uS (s.usr.take k):Nat):Int)))),(4,.s (.int .i64 (k:Nat)))],[]⟩) (fun k=>k≤s.usr.length) (fun k=>s.usr.length - k) 0 ?_ ?_ ?_))))))))))))
 · exact Nat.zero_le _
 · exact jS ⟨rfl,(aV (by rw[List.take_zero,show uS []=0 from rfl,wrap_i64 (by omega) (by omega)]; simp only[List.length_map]; omega)),rfl,trivial⟩
 ·
  rintro k hC
  refine aC (fun K5 hK5=>(aC (fun K6 hK6=>(aB (aE aA 5 rfl (aD (hK6 _ (aL rfl (fun hc1=>?_) (fun hc1=>?_)))))))))
  ·
   simp only[bs] at hc1
   refine aM (hK5 _ (aC (fun K7 hK7=>(aQ (aB (aE aA 4 rfl ?_))))))
   refine aG rfl (aY rfl rfl dW dO (by first | exact ixm (by omega) | assumption | exact⟨by decide,rfl⟩)) ?_
   refine aE aA 3 rfl (aG rfl (cU rfl rfl rfl) (aE aA 1 rfl ?_))
   refine bK ?_
   refine hK7 _ (aB (aE aA 1 rfl ?_))
   refine aG rfl (bN rfl rfl (by omega) (by omega)) ?_
   refine aE aA 1 rfl (aD ?_)
   exact⟨k+1,by omega,by omega,jS ⟨rfl,(aV (by rw[aLi,aCv (by omega)]; congr 1; simp only[List.length_map]; omega)),rfl,trivial⟩⟩
  ·
   simp only[bs] at hc1
   refine bB (hK3 _ (aC (fun K8 hK8=>(aB (aE aA 2 rfl (aD (hK8 _ (aI ?_))))))))
   refine⟨_,rfl,?_⟩
   unfold tW
   rw[List.take_of_length_le (by omega)]; rfl
theorem aEv (a b:List Us) (ha:a.length≤9223372036854775807) (hb:b.length≤9223372036854775807) (hx:∀ x∈a,x.2.length≤9223372036854775807) (hy:∀ x∈b,x.2.length≤9223372036854775807) :Den Tryz.prog 84 [.sl 2 (a.map usC),.sl 2 (b.map usC),.fn 85 []]  (·=.s (.bool (decide (a=b)))):=by
 refine aS Tryz.func84 rfl (Nat.le_of_ble_eq_true rfl) (fun w0 A hf=>(aC (fun K1 hK1=>(aB (aE aA 1 rfl (aD (hK1 _ (aC (fun K2 hK2=>(aC (fun K3 hK3=>(aB (aE aA 5 rfl (aD (hK3 _ (aL rfl (fun hc1=>?_) (fun hc1=>?_)))))))))))))))))
 ·
  simp only[bs] at hc1
  refine aC (fun K4 hK4=>(aB (aE aA 1 rfl (aD (hK4 _ (aI ?_))))))
  refine⟨_,rfl,?_⟩
  refine aP ?_
  rw[nP (by omega)]
 ·
  simp only[bs] at hc1
  refine aM (hK2 _ (aC (fun K5 hK5=>(aC (fun K6 hK6=>(aB (aE aA 3 rfl (aD (hK6 _ (aQ (bR (ι:=Nat) (fun k=>⟨32,[(1,.sl 2 (b.map usC)),(2,.fn 85 []),(15,.sl 2 (a.map usC)),(16,.s (.int .i64 ((a.map usC).length:Nat))),(17,.s (.int .i64 (k:Nat)))],[]⟩) (fun k=>k≤a.length∧a.take k=b.take k) (fun k=>a.length - k) 0 ?_ ?_ ?_)))))))))))
  · exact⟨Nat.zero_le _,rfl⟩
  · exact cN rfl
  ·
   rintro k hC
   obtain ⟨h1,h2⟩:=hC
   refine aC (fun K7 hK7=>(aB (aE aA 1 rfl (aD (hK7 _ (aC (fun K8 hK8=>(aL rfl (fun hc2=>?_) (fun hc2=>?_)))))))))
   ·
    simp only[bs] at hc2
    refine aM (hK8 _ (aC (fun K9 hK9=>(aQ (aC (fun K10 hK10=>(aB (aE aA 1 rfl ?_))))))))
    refine aG rfl (aY rfl rfl eF dG (by first | exact ixm (by omega) | assumption | exact⟨by decide,rfl⟩)) ?_
    refine aE aA 1 rfl (aX hf rfl rfl rfl lO (aE aA 1 rfl (aU hf rfl rfl dG rfl rfl (l1 rfl) (l4 rfl) rfl (bO (mB (nee 8) (sl':=[(1,_),(2,_),(7,_),(8,_),(15,_),(16,_),(17,_)]) (m':=[]) ⟨⟨_,rfl,rfl⟩,⟨_,rfl,rfl⟩,⟨_,rfl,rfl⟩,⟨_,rfl,rfl⟩,⟨_,rfl,rfl⟩,⟨_,rfl,rfl⟩,⟨_,rfl,rfl⟩,trivial⟩ rfl) (aD (hK10 _ (aC (fun K11 hK11=>(aB (aE aA 2 rfl ?_))))))))))
    refine aG rfl (aY rfl rfl eF dG (by first | exact ixm (by omega) | assumption | exact⟨by decide,rfl⟩)) ?_
    refine aE aA 1 rfl (bV hf rfl lO rfl dG rfl rfl rfl rfl (lf rfl) (aD (hK11 _ (aC (fun K12 hK12=>(aB (aE aA 3 rfl (aJ hf rfl (aK rfl rfl aRe rfl (aP2 a[k] b[k] (hx _ (List.getElem_mem _)) (hy _ (List.getElem_mem _)))) (aE aA 1 rfl (aD (hK12 _ (aL rfl (fun hc3=>?_) (fun hc3=>?_)))))))))))))
    ·
     simp only[bs] at hc3
     refine aC (fun K13 hK13=>(aB (aE aA 1 rfl (aD (hK13 _ (aI ?_))))))
     refine⟨_,rfl,?_⟩
     refine aP ?_
     rw[lM (k:=k) (by omega) (by omega) (by simp_all)]
    ·
     simp only[bs] at hc3
     refine aM (hK9 _ (aB ?_))
     refine aG rfl (bN rfl rfl (by omega) (by omega)) ?_
     refine aE aA 1 rfl (aD ?_)
     exact⟨k+1,⟨by omega,jI (by omega) (by omega) h2 (by simp_all)⟩,by omega,cN rfl⟩
   ·
    simp only[bs] at hc2
    refine bB (hK5 _ (aC (fun K14 hK14=>(aB (aE aA 1 rfl (aD (hK14 _ (aI ?_))))))))
    refine⟨_,rfl,?_⟩
    refine aP ?_
    rw[kV (by omega) (by omega) h2]
end Go.Proofs.YtckjaledibkghaaGreat
set_option linter.unusedVariables false
set_option linter.unusedSimpArgs false
namespace Go.Proofs.YtckjaledibkghaaGreat
open Go Go.Abs
theorem aP7 (l:List En) (hl:l.length≤9223372036854775807) (ht:∀ e∈l,TS e.1.1∧TS e.1.2) :Den Tryz.prog 72 [.sl 4 (l.map enC)]  (·=.s (.bool (sG l))):=by
 refine aS Tryz.func72 rfl (Nat.le_of_ble_eq_true rfl) (fun w0 A hf=>(aC (fun K1 hK1=>(aB (aE aA 1 rfl (aD (hK1 _ (aC (fun K2 hK2=>(aC (fun K3 hK3=>(aB (aE aA 3 rfl (aD (hK3 _ (aQ ?_))))))))))))))))
 refine bR (ι:=Nat) (fun k=>⟨58,[(0,.sl 4 (l.map enC)),(5,.sl 4 (l.map enC)),(6,.s (.int .i64 ((l.map enC).length:Nat))),(7,.s (.int .i64 (k:Nat)))],[]⟩) (fun k=>k≤l.length∧sG l=oC okE aI3 (iK l k) (l.drop k)) (fun k=>l.length - k) 0 ?_ ?_ ?_
 · exact⟨Nat.zero_le _,rfl⟩
 · exact cN rfl
 ·
  rintro k hC
  obtain ⟨h1,h2⟩:=hC
  refine aC (fun K4 hK4=>(aB (aE aA 1 rfl (aD (hK4 _ (aC (fun K5 hK5=>(aL rfl (fun hc1=>?_) (fun hc1=>?_)))))))))
  ·
   simp only[bs] at hc1
   refine aM (hK5 _ (aC (fun K6 hK6=>(aQ (aC (fun K7 hK7=>(aB (aE aA 1 rfl ?_))))))))
   refine aG rfl (aY rfl rfl eY dL (by first | exact ixm (by omega) | assumption | exact⟨by decide,rfl⟩)) ?_
   refine aE aA 1 rfl (aX hf rfl rfl rfl mG (aE aA 1 rfl (aU hf rfl rfl dL rfl rfl (l1 rfl) (l4 rfl) rfl (bO (mB (nee 4) (sl':=[(0,_),(3,_),(4,_),(5,_),(6,_),(7,_)]) (m':=[]) ⟨⟨_,rfl,rfl⟩,⟨_,rfl,rfl⟩,⟨_,rfl,rfl⟩,⟨_,rfl,rfl⟩,⟨_,rfl,rfl⟩,⟨_,rfl,rfl⟩,trivial⟩ rfl) (aD (hK7 _ (aC (fun K8 hK8=>(aC (fun K9 hK9=>(aB (aE aA 2 rfl (aJ hf rfl (aK rfl rfl nZ rfl (tQ _)) (aE aA 1 rfl ?_))))))))))))))
   refine aW rfl rfl rfl (fun hg2=>?_) (fun hg2=>?_)
   ·
    simp only[bs] at hg2
    refine aG rfl (bF rfl aLc oB rfl) ?_
    refine aE aA 1 rfl (bI rfl rfl rfl (aJ hf rfl (aK rfl rfl aPi rfl (Nm.pairRight_den _ _ (ht _ (List.getElem_mem _)).1 (ht _ (List.getElem_mem _)).2)) (aE aA 2 rfl (aD (hK9 _ (aL rfl (fun hc3=>?_) (fun hc3=>?_)))))))
    ·
     simp only[bs] at hc3
     refine aC (fun K10 hK10=>(aB (aE aA 1 rfl (aD (hK10 _ (aI ?_))))))
     refine⟨_,rfl,?_⟩
     refine aP ?_
     rw[fA h2 (by omega) (aMr (by first | exact .inl (by omega) | exact .inr (.inl (by assumption)) | exact .inr (.inr (.inl (by assumption))) | exact .inr (.inr (.inr (by assumption))) | (simp_all; done)))]
    ·
     simp only[bs] at hc3
     refine aM (hK8 _ (aC (fun K11 hK11=>(cM hf bE (by kernel_rfl) rfl (aT aA 3 rfl (dP 23 true rfl (fun hg4=>?_) (fun hg4=>?_)))))))
     ·
      simp only[bs] at hg4
      refine aT aA 2 rfl ?_
      refine bL [(25,_)] rfl rfl ⟨⟨rfl,rfl⟩,trivial⟩ rfl (fB rfl rfl (by omega) (by omega)) ?_
      refine bL [(24,_),(26,_)] rfl rfl ⟨⟨rfl,rfl⟩,⟨rfl,rfl⟩,trivial⟩ rfl (aY rfl rfl eY dL (iB (k:=k - 1) (by omega) (by omega))) (aT aA 2 rfl (aZ [(28,_),(29,_)] rfl rfl ⟨⟨rfl,rfl⟩,⟨rfl,rfl⟩,trivial⟩ rfl (aK rfl rfl aDm rfl (aIy _ _)) (aT aA 2 rfl (dP 32 false rfl (fun hg5=>?_) (fun hg5=>?_)))))
      ·
       simp only[bs] at hg5
       refine aT aA 2 rfl ?_
       refine bL [(34,_)] rfl rfl ⟨⟨rfl,rfl⟩,trivial⟩ rfl (fB rfl rfl (by omega) (by omega)) ?_
       refine bL [(33,_),(35,_)] rfl rfl ⟨⟨rfl,rfl⟩,⟨rfl,rfl⟩,trivial⟩ rfl (aY rfl rfl eY dL (iB (k:=k - 1) (by omega) (by omega))) (aT aA 4 rfl (bL [(38,_),(40,_)] rfl rfl ⟨⟨rfl,rfl⟩,⟨rfl,rfl⟩,trivial⟩ rfl (jL rfl rfl aJi (aeq_pr (x:=l[k - 1].1) (y:=l[k].1))) (aT aA 1 rfl (dP 42 true rfl (fun hg6=>?_) (fun hg6=>?_)))))
       ·
        simp only[bs] at hg6
        refine aT aA 2 rfl ?_
        refine bL [(44,_)] rfl rfl ⟨⟨rfl,rfl⟩,trivial⟩ rfl (fB rfl rfl (by omega) (by omega)) ?_
        refine bL [(43,_),(45,_)] rfl rfl ⟨⟨rfl,rfl⟩,⟨rfl,rfl⟩,trivial⟩ rfl (aY rfl rfl eY dL (iB (k:=k - 1) (by omega) (by omega))) (aT aA 10 rfl (cP [0,5,6,7,56] rfl rfl rfl (hK11 _ (aL rfl (fun hc7=>?_) (fun hc7=>?_)))))
        ·
         simp only[bs] at hc7
         refine aC (fun K12 hK12=>(aB (aE aA 1 rfl (aD (hK12 _ (aI ?_))))))
         refine⟨_,rfl,?_⟩
         refine aP ?_
         rw[fO h2 (by omega) (by omega) (aEj (by first | exact .inl (by omega) | exact .inr ⟨by first | assumption | exact aKh (by assumption) (by assumption),by omega⟩))]
        ·
         simp only[bs] at hc7
         refine aM (hK6 _ (aB ?_))
         refine aG rfl (bN rfl rfl (by omega) (by omega)) ?_
         refine aE aA 1 rfl (aD ?_)
         exact⟨k+1,⟨by omega,gB h2 (by omega) (aF7 (by omega) (by simp_all) (by simp_all)) (fun h0=>qM.2 ⟨by omega,fun e=>by first | omega | exact absurd e (by assumption) | exact absurd e (zI (by assumption)) | exact absurd e (zH (by assumption))⟩)⟩,by omega,cN rfl⟩
       ·
        simp only[bs] at hg6
        refine aT aA 14 rfl (cP [0,5,6,7,56] rfl rfl rfl (hK11 _ (bG rfl (aM (hK6 _ (aB ?_))))))
        refine aG rfl (bN rfl rfl (by omega) (by omega)) ?_
        refine aE aA 1 rfl (aD ?_)
        exact⟨k+1,⟨by omega,gB h2 (by omega) (aF7 (by omega) (by simp_all) (by simp_all)) (fun h0=>qM.2 ⟨by omega,fun e=>by first | omega | exact absurd e (by assumption) | exact absurd e (zI (by assumption)) | exact absurd e (zH (by assumption))⟩)⟩,by omega,cN rfl⟩
      ·
       simp only[bs] at hg5
       refine aT aA 10 rfl (bC rfl rfl ?_)
       refine bC rfl rfl ?_
       refine bC rfl rfl ?_
       refine bC rfl rfl ?_
       refine bC rfl rfl ?_
       refine bC rfl rfl ?_
       refine bC rfl rfl ?_
       refine bC rfl rfl ?_
       refine bC rfl rfl ?_
       refine bC rfl rfl ?_
       refine bC rfl rfl ?_
       refine aT aA 3 rfl (cP [0,5,6,7,56] rfl rfl rfl (hK11 _ (bM rfl (aC (fun K13 hK13=>(aB (aE aA 1 rfl (aD (hK13 _ (aI ?_))))))))))
       refine⟨_,rfl,?_⟩
       refine aP ?_
       rw[fO h2 (by omega) (by omega) (aEj (by first | exact .inl (by omega) | exact .inr ⟨by first | assumption | exact aKh (by assumption) (by assumption),by omega⟩))]
     ·
      simp only[bs] at hg4
      refine aT aA 9 rfl (bC rfl rfl ?_)
      refine bC rfl rfl ?_
      refine bC rfl rfl ?_
      refine bC rfl rfl ?_
      refine bC rfl rfl ?_
      refine bC rfl rfl ?_
      refine bC rfl rfl ?_
      refine bC rfl rfl ?_
      refine bC rfl rfl ?_
      refine bC rfl rfl ?_
      refine bC rfl rfl ?_
      refine bC rfl rfl ?_
      refine bC rfl rfl ?_
      refine bC rfl rfl ?_
      refine bC rfl rfl ?_
      refine bC rfl rfl ?_
      refine bC rfl rfl ?_
      refine bC rfl rfl ?_
      refine bC rfl rfl ?_
      refine bC rfl rfl ?_
      refine bC rfl rfl ?_
      refine bC rfl rfl ?_
      refine aT aA 2 rfl (cP [0,5,6,7,56] rfl rfl rfl (hK11 _ (bG rfl (aM (hK6 _ (aB ?_))))))
      refine aG rfl (bN rfl rfl (by omega) (by omega)) ?_
      refine aE aA 1 rfl (aD ?_)
      exact⟨k+1,⟨by omega,gB h2 (by omega) (aF7 (by omega) (by simp_all) (by simp_all)) (fun h0=>qM.2 ⟨by omega,fun e=>by first | omega | exact absurd e (by assumption) | exact absurd e (zI (by assumption)) | exact absurd e (zH (by assumption))⟩)⟩,by omega,cN rfl⟩
   ·
    simp only[bs] at hg2
    refine aE aA 4 rfl (aD (hK9 _ (bM rfl (aC (fun K14 hK14=>(aB (aE aA 1 rfl (aD (hK14 _ (aI ?_))))))))))
    refine⟨_,rfl,?_⟩
    refine aP ?_
    rw[fA h2 (by omega) (aMr (by first | exact .inl (by omega) | exact .inr (.inl (by assumption)) | exact .inr (.inr (.inl (by assumption))) | exact .inr (.inr (.inr (by assumption))) | (simp_all; done)))]
  ·
   simp only[bs] at hc1
   refine bB (hK2 _ (aC (fun K15 hK15=>(aB (aE aA 1 rfl (aD (hK15 _ (aI ?_))))))))
   refine⟨_,rfl,?_⟩
   refine aP ?_
   rw[pP h2 (by omega)]
theorem aHw (l:List En) (hl:l.length≤9223372036854775807) (ht:∀ e∈l,TS e.1.1∧TS e.1.2) :Den Tryz.prog 36 [.sl 4 (l.map enC)]  (·=.s (.bool (sG l))):=by
 refine aS Tryz.func36 rfl (Nat.le_of_ble_eq_true rfl) (fun w0 A hf=>(aC (fun K1 hK1=>(aB (aE aA 1 rfl (aD (hK1 _ (aC (fun K2 hK2=>(aC (fun K3 hK3=>(aB (aE aA 1 rfl (aD (hK3 _ (aQ ?_))))))))))))))))
 refine bR (ι:=Nat) (fun k=>⟨75,[(0,.sl 4 (l.map enC)),(3,.s (.int .i64 (k:Nat)))],[]⟩) (fun k=>k≤l.length∧sG l=oC okE aI3 (iK l k) (l.drop k)) (fun k=>l.length - k) 0 ?_ ?_ ?_
 · exact⟨Nat.zero_le _,rfl⟩
 · exact cN rfl
 ·
  rintro k hC
  obtain ⟨h1,h2⟩:=hC
  refine aC (fun K4 hK4=>(aC (fun K5 hK5=>(aB (aE aA 4 rfl (aD (hK5 _ (aL rfl (fun hc1=>?_) (fun hc1=>?_)))))))))
  ·
   simp only[bs] at hc1
   refine aM (hK4 _ (aC (fun K6 hK6=>(aQ (aC (fun K7 hK7=>(aB (aE aA 2 rfl ?_))))))))
   refine aG rfl (aY rfl rfl fC eG (by first | exact ixm (by omega) | assumption | exact⟨by decide,rfl⟩)) ?_
   refine aE aA 1 rfl (bV hf rfl rY rfl eG rfl rfl rfl rfl (lf rfl) (aD (hK7 _ (aC (fun K8 hK8=>(aC (fun K9 hK9=>(aB (aE aA 6 rfl (aW rfl rfl rfl (fun hg2=>?_) (fun hg2=>?_)))))))))))
   ·
    simp only[bs] at hg2
    refine aG rfl (bF rfl aN8 cR rfl) ?_
    refine aE aA 1 rfl (bI rfl rfl rfl (aJ hf rfl (aK rfl rfl iM rfl (Nm.refRight_den _ (by first | assumption | exact(ht _ (List.getElem_mem _)).1 | exact(ht _ (List.getElem_mem _)).2))) ?_))
    refine aE aA 3 rfl (aW rfl rfl rfl (fun hg3=>?_) (fun hg3=>?_))
    ·
     simp only[bs] at hg3
     refine aG rfl (bF rfl aC1 cR rfl) ?_
     refine aE aA 1 rfl (bI rfl rfl rfl (aJ hf rfl (aK rfl rfl iM rfl (Nm.refRight_den _ (by first | assumption | exact(ht _ (List.getElem_mem _)).1 | exact(ht _ (List.getElem_mem _)).2))) ?_))
     refine aE aA 2 rfl (aD (hK9 _ (aL rfl (fun hc4=>?_) (fun hc4=>?_))))
     ·
      simp only[bs] at hc4
      refine aC (fun K10 hK10=>(aB (aE aA 1 rfl (aD (hK10 _ (aI ?_))))))
      refine⟨_,rfl,?_⟩
      refine aP ?_
      rw[fA h2 (by omega) (aMr (by first | exact .inl (by omega) | exact .inr (.inl (by assumption)) | exact .inr (.inr (.inl (by assumption))) | exact .inr (.inr (.inr (by assumption))) | (simp_all; done)))]
     ·
      simp only[bs] at hc4
      refine aM (hK8 _ (aC (fun K11 hK11=>(aC (fun K12 hK12=>(aB (aE aA 2 rfl (aD (hK12 _ (aL rfl (fun hc5=>?_) (fun hc5=>?_)))))))))))
      ·
       simp only[bs] at hc5
       refine bB (hK6 _ (aB (aE aA 1 rfl ?_)))
       refine aG rfl (bN rfl rfl (by omega) (by omega)) ?_
       refine aE aA 1 rfl (aD ?_)
       exact⟨k+1,⟨by omega,gB h2 (by omega) (aF7 (by omega) (by simp_all) (by simp_all)) (fun h0=>qM.2 ⟨by omega,fun e=>by first | omega | exact absurd e (by assumption) | exact absurd e (zI (by assumption)) | exact absurd e (zH (by assumption))⟩)⟩,by omega,cN rfl⟩
      ·
       simp only[bs] at hc5
       refine aM (hK11 _ (aC (fun K13 hK13=>(cM hf bE (by kernel_rfl) rfl (aT aA 2 rfl ?_)))))
       refine bL [(35,_)] rfl rfl ⟨⟨rfl,rfl⟩,trivial⟩ rfl (fB rfl rfl (by omega) (by omega)) ?_
       refine bL [(34,_),(36,_)] rfl rfl ⟨⟨rfl,rfl⟩,⟨rfl,rfl⟩,trivial⟩ rfl (aY rfl rfl fC eG (iB (k:=k - 1) (by omega) (by omega))) (aT aA 2 rfl (aZ [(38,_),(39,_)] rfl rfl ⟨⟨rfl,rfl⟩,⟨rfl,rfl⟩,trivial⟩ rfl (aK rfl rfl aDs rfl (aGu _ _ (ht _ (List.getElem_mem _)).1 (ht _ (List.getElem_mem _)).2 (ht _ (List.getElem_mem _)).1 (ht _ (List.getElem_mem _)).2)) (aT aA 2 rfl (dP 42 false rfl (fun hg6=>?_) (fun hg6=>?_)))))
       ·
        simp only[bs] at hg6
        refine aT aA 2 rfl ?_
        refine bL [(44,_)] rfl rfl ⟨⟨rfl,rfl⟩,trivial⟩ rfl (fB rfl rfl (by omega) (by omega)) ?_
        refine bL [(43,_),(45,_)] rfl rfl ⟨⟨rfl,rfl⟩,⟨rfl,rfl⟩,trivial⟩ rfl (aY rfl rfl fC eG (iB (k:=k - 1) (by omega) (by omega))) (aT aA 6 rfl (dP 52 true rfl (fun hg7=>?_) (fun hg7=>?_)))
        ·
         simp only[bs] at hg7
         refine aT aA 2 rfl ?_
         refine bL [(54,_)] rfl rfl ⟨⟨rfl,rfl⟩,trivial⟩ rfl (fB rfl rfl (by omega) (by omega)) ?_
         refine bL [(53,_),(55,_)] rfl rfl ⟨⟨rfl,rfl⟩,⟨rfl,rfl⟩,trivial⟩ rfl (aY rfl rfl fC eG (iB (k:=k - 1) (by omega) (by omega))) (aT aA 7 rfl (dP 63 true rfl (fun hg8=>?_) (fun hg8=>?_)))
         ·
          simp only[bs] at hg8
          refine aT aA 2 rfl ?_
          refine bL [(65,_)] rfl rfl ⟨⟨rfl,rfl⟩,trivial⟩ rfl (fB rfl rfl (by omega) (by omega)) ?_
          refine bL [(64,_),(66,_)] rfl rfl ⟨⟨rfl,rfl⟩,⟨rfl,rfl⟩,trivial⟩ rfl (aY rfl rfl fC eG (iB (k:=k - 1) (by omega) (by omega))) (aT aA 7 rfl (cP [0,3,74] rfl rfl rfl (hK13 _ (aL rfl (fun hc9=>?_) (fun hc9=>?_)))))
          ·
           simp only[bs] at hc9
           refine aC (fun K14 hK14=>(aB (aE aA 1 rfl (aD (hK14 _ (aI ?_))))))
           refine⟨_,rfl,?_⟩
           refine aP ?_
           rw[fO h2 (by omega) (by omega) (aEj (by first | exact .inl (by omega) | exact .inr ⟨by first | assumption | exact aKh (by assumption) (by assumption),by omega⟩))]
          ·
           simp only[bs] at hc9
           refine aM (hK6 _ (aB (aE aA 1 rfl ?_)))
           refine aG rfl (bN rfl rfl (by omega) (by omega)) ?_
           refine aE aA 1 rfl (aD ?_)
           exact⟨k+1,⟨by omega,gB h2 (by omega) (aF7 (by omega) (by simp_all) (by simp_all)) (fun h0=>qM.2 ⟨by omega,fun e=>by first | omega | exact absurd e (by assumption) | exact absurd e (zI (by assumption)) | exact absurd e (zH (by assumption))⟩)⟩,by omega,cN rfl⟩
         ·
          simp only[bs] at hg8
          refine aT aA 11 rfl (cP [0,3,74] rfl rfl rfl (hK13 _ (bG rfl (aM (hK6 _ (aB (aE aA 1 rfl ?_)))))))
          refine aG rfl (bN rfl rfl (by omega) (by omega)) ?_
          refine aE aA 1 rfl (aD ?_)
          exact⟨k+1,⟨by omega,gB h2 (by omega) (aF7 (by omega) (by simp_all) (by simp_all)) (fun h0=>qM.2 ⟨by omega,fun e=>by first | omega | exact absurd e (by assumption) | exact absurd e (zI (by assumption)) | exact absurd e (zH (by assumption))⟩)⟩,by omega,cN rfl⟩
        ·
         simp only[bs] at hg7
         refine aT aA 22 rfl (cP [0,3,74] rfl rfl rfl (hK13 _ (bG rfl (aM (hK6 _ (aB (aE aA 1 rfl ?_)))))))
         refine aG rfl (bN rfl rfl (by omega) (by omega)) ?_
         refine aE aA 1 rfl (aD ?_)
         exact⟨k+1,⟨by omega,gB h2 (by omega) (aF7 (by omega) (by simp_all) (by simp_all)) (fun h0=>qM.2 ⟨by omega,fun e=>by first | omega | exact absurd e (by assumption) | exact absurd e (zI (by assumption)) | exact absurd e (zH (by assumption))⟩)⟩,by omega,cN rfl⟩
       ·
        simp only[bs] at hg6
        refine aT aA 10 rfl (bC rfl rfl ?_)
        refine bC rfl rfl ?_
        refine bC rfl rfl ?_
        refine bC rfl rfl ?_
        refine bC rfl rfl ?_
        refine bC rfl rfl ?_
        refine bC rfl rfl ?_
        refine bC rfl rfl ?_
        refine bC rfl rfl ?_
        refine aT aA 2 rfl (bC rfl rfl ?_)
        refine bC rfl rfl ?_
        refine bC rfl rfl ?_
        refine bC rfl rfl ?_
        refine bC rfl rfl ?_
        refine bC rfl rfl ?_
        refine bC rfl rfl ?_
        refine bC rfl rfl ?_
        refine bC rfl rfl ?_
        refine aT aA 2 rfl (cP [0,3,74] rfl rfl rfl (hK13 _ (bM rfl (aC (fun K15 hK15=>(aB (aE aA 1 rfl (aD (hK15 _ (aI ?_))))))))))
        refine⟨_,rfl,?_⟩
        refine aP ?_
        rw[fO h2 (by omega) (by omega) (aEj (by first | exact .inl (by omega) | exact .inr ⟨by first | assumption | exact aKh (by assumption) (by assumption),by omega⟩))]
    ·
     simp only[bs] at hg3
     refine aE aA 4 rfl (aD (hK9 _ (bM rfl (aC (fun K16 hK16=>(aB (aE aA 1 rfl (aD (hK16 _ (aI ?_))))))))))
     refine⟨_,rfl,?_⟩
     refine aP ?_
     rw[fA h2 (by omega) (aMr (by first | exact .inl (by omega) | exact .inr (.inl (by assumption)) | exact .inr (.inr (.inl (by assumption))) | exact .inr (.inr (.inr (by assumption))) | (simp_all; done)))]
   ·
    simp only[bs] at hg2
    refine aE aA 10 rfl (aD (hK9 _ (bM rfl (aC (fun K17 hK17=>(aB (aE aA 1 rfl (aD (hK17 _ (aI ?_))))))))))
    refine⟨_,rfl,?_⟩
    refine aP ?_
    rw[fA h2 (by omega) (aMr (by first | exact .inl (by omega) | exact .inr (.inl (by assumption)) | exact .inr (.inr (.inl (by assumption))) | exact .inr (.inr (.inr (by assumption))) | (simp_all; done)))]
  ·
   simp only[bs] at hc1
   refine bB (hK2 _ (aC (fun K18 hK18=>(aB (aE aA 1 rfl (aD (hK18 _ (aI ?_))))))))
   refine⟨_,rfl,?_⟩
   refine aP ?_
   rw[pP h2 (by omega)]
theorem aTg (a b:List En) (ha:a.length≤9223372036854775807) (hb:b.length≤9223372036854775807) :Den Tryz.prog 88 [.sl 4 (a.map enC),.sl 4 (b.map enC)]  (·=.s (.bool (decide (a=b)))):=by
 refine aS Tryz.func88 rfl (Nat.le_of_ble_eq_true rfl) (fun w0 A hf=>(aC (fun K1 hK1=>(aB (aE aA 1 rfl (aD (hK1 _ (aC (fun K2 hK2=>(aB (aE aA 2 rfl (aJ hf rfl (aK rfl rfl aPb rfl (aQx a b ha hb)) (aE aA 1 rfl (aD (hK2 _ ?_)))))))))))))))
 refine aI ?_
 refine⟨_,rfl,?_⟩
 rfl
theorem aKa (a b:List En) (ha:a.length≤9223372036854775807) (hb:b.length≤9223372036854775807) :Den Tryz.prog 55 [.sl 4 (a.map enC),.sl 4 (b.map enC)]  (·=.s (.bool (decide (a=b)))):=by
 refine aS Tryz.func55 rfl (Nat.le_of_ble_eq_true rfl) (fun w0 A hf=>(aC (fun K1 hK1=>(aB (aE aA 1 rfl (aD (hK1 _ (aC (fun K2 hK2=>(aC (fun K3 hK3=>(aB (aE aA 5 rfl (aD (hK3 _ (aL rfl (fun hc1=>?_) (fun hc1=>?_)))))))))))))))))
 ·
  simp only[bs] at hc1
  refine aC (fun K4 hK4=>(aB (aE aA 1 rfl (aD (hK4 _ (aI ?_))))))
  refine⟨_,rfl,?_⟩
  refine aP ?_
  rw[nP (by omega)]
 ·
  simp only[bs] at hc1
  refine aM (hK2 _ (aC (fun K5 hK5=>(aC (fun K6 hK6=>(aB (aE aA 1 rfl (aD (hK6 _ (aQ (bR (ι:=Nat) (fun k=>⟨26,[(0,.sl 4 (a.map enC)),(1,.sl 4 (b.map enC)),(5,.s (.int .i64 (k:Nat)))],[]⟩) (fun k=>k≤a.length∧a.take k=b.take k) (fun k=>a.length - k) 0 ?_ ?_ ?_)))))))))))
  · exact⟨Nat.zero_le _,rfl⟩
  · exact cN rfl
  ·
   rintro k hC
   obtain ⟨h1,h2⟩:=hC
   refine aC (fun K7 hK7=>(aC (fun K8 hK8=>(aB (aE aA 4 rfl (aD (hK8 _ (aL rfl (fun hc2=>?_) (fun hc2=>?_)))))))))
   ·
    simp only[bs] at hc2
    refine aM (hK7 _ (aC (fun K9 hK9=>(aQ (aC (fun K10 hK10=>(cM hf bE (by kernel_rfl) rfl (aT aA 2 rfl ?_))))))))
    refine bL [(17,_),(18,_)] rfl rfl ⟨⟨rfl,rfl⟩,⟨rfl,rfl⟩,trivial⟩ rfl (aY rfl rfl fC eG (by first | exact ixm (by omega) | assumption | exact⟨by decide,rfl⟩)) ?_
    refine aT aA 3 rfl ?_
    refine bL [(21,_),(22,_)] rfl rfl ⟨⟨rfl,rfl⟩,⟨rfl,rfl⟩,trivial⟩ rfl (aY rfl rfl fC eG (by first | exact ixm (by omega) | assumption | exact⟨by decide,rfl⟩)) ?_
    refine aT aA 1 rfl (bL [(20,_),(24,_)] rfl rfl ⟨⟨rfl,rfl⟩,⟨rfl,rfl⟩,trivial⟩ rfl (sK rfl rfl aWm rfl) ?_)
    rw[enC_eqF]
    refine cP [0,1,5,25] rfl rfl rfl (hK10 _ (aL rfl (fun hc3=>?_) (fun hc3=>?_)))
    ·
     simp only[bs] at hc3
     refine aC (fun K11 hK11=>(aB (aE aA 1 rfl (aD (hK11 _ (aI ?_))))))
     refine⟨_,rfl,?_⟩
     refine aP ?_
     rw[lM (by omega) (by omega) (by assumption)]
    ·
     simp only[bs] at hc3
     refine aM (hK9 _ (aB (aE aA 1 rfl ?_)))
     refine aG rfl (bN rfl rfl (by omega) (by omega)) ?_
     refine aE aA 1 rfl (aD ?_)
     exact⟨k+1,⟨by omega,jI (by omega) (by omega) h2 (by assumption)⟩,by omega,cN rfl⟩
   ·
    simp only[bs] at hc2
    refine bB (hK5 _ (aC (fun K12 hK12=>(aB (aE aA 1 rfl (aD (hK12 _ (aI ?_))))))))
    refine⟨_,rfl,?_⟩
    refine aP ?_
    rw[kV (by omega) (by omega) h2]
theorem nO (l:List En) (hl:l.length*48+48≤140737488355328) :Den Tryz.prog 41 [.sl 4 (l.map enC)]  (·=.sl 4 (l.map enC)):=by
 refine aS Tryz.func41 rfl (Nat.le_of_ble_eq_true rfl) (fun w0 A hf=>(aC (fun K1 hK1=>(aB (aG rfl (bQ) (aD (hK1 _ (aC (fun K2 hK2=>(aB (lD hf 4 rfl rfl rfl (aD (hK2 _ (aC (fun K3 hK3=>(aC (fun K4 hK4=>?_)))))))))))))))))
 refine aB (aE aA 3 rfl (aD (hK4 _ (aQ (bR (ι:=Nat) (fun k=>⟨26,[(3,.own 3 4 0 (l.take k).length),(6,.sl 4 (l.map enC)),(7,.s (.int .i64 ((l.map enC).length:Nat))),(8,.s (.int .i64 (k:Nat)))],[(3,.buf 4 ((l.take k).map enC))]⟩) (fun k=>k≤l.length) (fun k=>l.length - k) 0 ?_ ?_ ?_)))))
 · exact Nat.zero_le _
 · exact cN rfl
 ·
  rintro k hC
  refine aC (fun K5 hK5=>(aB (aE aA 1 rfl (aD (hK5 _ (aC (fun K6 hK6=>(aL rfl (fun hc1=>?_) (fun hc1=>?_)))))))))
  ·
   simp only[bs] at hc1
   refine aM (hK6 _ (aC (fun K7 hK7=>(aQ (aC (fun K8 hK8=>(aB ?_)))))))
   refine aG rfl (aY rfl rfl fC eG (by first | exact ixm (by omega) | assumption | exact⟨by decide,rfl⟩)) ?_
   refine aE aA 1 rfl (bV hf rfl rY rfl eG rfl rfl rfl rfl (lf rfl) (aD (hK8 _ (aB ?_))))
   have htl:(l.take k).length=k:=by rw[List.length_take]; omega
   refine aE aA 9 rfl (aJ hf rfl (aK rfl rfl aPr rfl (one_den _ _ _ _)) (aJ hf rfl (bD kW rfl rfl rfl rfl (l2 rfl)) (cA hf rfl kW rfl rfl rfl (.inl rfl) (by rw[List.length_map]) rfl (by first | rfl | simp [eV,bU]) (by first | (simp only[maxLen,List.length_map,List.length_append,List.length_cons,List.length_nil]; omega) | (simp [maxLen] <;> omega)) (by first | (simp only[List.length_map,List.length_append,List.length_cons,List.length_nil]; omega) | (simp <;> omega)) ?_)))
   refine bO (eR [6,7,8,23] rfl) (aE aA 1 rfl ?_)
   refine bK ?_
   refine hK7 _ (aB ?_)
   refine aG rfl (bN rfl rfl (by omega) (by omega)) ?_
   refine aE aA 1 rfl (aD ?_)
   exact⟨k+1,by omega,by omega,cJ ⟨(by rw[jO l k (by omega)]; rfl),rfl,rfl,rfl,trivial⟩ (by rw[kN l enC k (by omega)]; rfl)⟩
  ·
   simp only[bs] at hc1
   refine bB (hK3 _ (aC (fun K9 hK9=>(aB (aE aA 2 rfl (aD (hK9 _ (aI ?_))))))))
   refine⟨_,rfl,?_⟩
   refine(bX (g:=3) rfl (by rw[List.length_map])).trans ?_
   rw[List.take_of_length_le (by omega)]
theorem nN (l:List En) (hl:l.length*48+48≤140737488355328) :Den Tryz.prog 57 [.sl 4 (l.map enC)]  (·=.sl 4 (l.map enC)):=by
 refine aS Tryz.func57 rfl (Nat.le_of_ble_eq_true rfl) (fun w0 A hf=>(aC (fun K1 hK1=>(aB (aG rfl (bQ) (aD (hK1 _ (aC (fun K2 hK2=>(aB (lD hf 4 rfl rfl rfl (aD (hK2 _ (aC (fun K3 hK3=>(aC (fun K4 hK4=>?_)))))))))))))))))
 refine aB (aE aA 3 rfl (aD (hK4 _ (aQ (bR (ι:=Nat) (fun k=>⟨30,[(3,.own 3 4 0 (l.take k).length),(6,.sl 4 (l.map enC)),(7,.s (.int .i64 ((l.map enC).length:Nat))),(8,.s (.int .i64 (k:Nat)))],[(3,.buf 4 ((l.take k).map enC))]⟩) (fun k=>k≤l.length) (fun k=>l.length - k) 0 ?_ ?_ ?_)))))
 · exact Nat.zero_le _
 · exact cN rfl
 ·
  rintro k hC
  refine aC (fun K5 hK5=>(aB (aE aA 1 rfl (aD (hK5 _ (aC (fun K6 hK6=>(aL rfl (fun hc1=>?_) (fun hc1=>?_)))))))))
  ·
   simp only[bs] at hc1
   refine aM (hK6 _ (aC (fun K7 hK7=>(aQ (aC (fun K8 hK8=>(aB ?_)))))))
   refine aG rfl (aY rfl rfl eY dL (by first | exact ixm (by omega) | assumption | exact⟨by decide,rfl⟩)) ?_
   refine aE aA 1 rfl (bV hf rfl mG rfl dL rfl rfl rfl rfl (lf rfl) (aD (hK8 _ (aB ?_))))
   have htl:(l.take k).length=k:=by rw[List.length_take]; omega
   refine aE aA 13 rfl (aG rfl (cB rfl rY aJj (l3 rfl) rfl) (aJ hf rfl (bD eA rfl rfl rfl rfl (l2 rfl)) (cA hf rfl eA rfl rfl rfl (.inl rfl) (by rw[List.length_map]) rfl (by first | rfl | simp [eV,bU]) (by first | (simp only[maxLen,List.length_map,List.length_append,List.length_cons,List.length_nil]; omega) | (simp [maxLen] <;> omega)) (by first | (simp only[List.length_map,List.length_append,List.length_cons,List.length_nil]; omega) | (simp <;> omega)) ?_)))
   refine bO (eR [6,7,8,27] rfl) (aE aA 1 rfl ?_)
   refine bK ?_
   refine hK7 _ (aB ?_)
   refine aG rfl (bN rfl rfl (by omega) (by omega)) ?_
   refine aE aA 1 rfl (aD ?_)
   exact⟨k+1,by omega,by omega,cJ ⟨(by rw[jO l k (by omega)]; rfl),rfl,rfl,rfl,trivial⟩ (by rw[kN l enC k (by omega)]; rfl)⟩
  ·
   simp only[bs] at hc1
   refine bB (hK3 _ (aC (fun K9 hK9=>(aB (aE aA 2 rfl (aD (hK9 _ (aI ?_))))))))
   refine⟨_,rfl,?_⟩
   refine(bX (g:=3) rfl (by rw[List.length_map])).trans ?_
   rw[List.take_of_length_le (by omega)]
end Go.Proofs.YtckjaledibkghaaGreat
set_option linter.unusedVariables false
set_option linter.unusedSimpArgs false
namespace Go.Abs
open Go
section
variable {α:Type} {key:α→ByteArray}
def kB (key:α→ByteArray) (u:ByteArray) (y:α):Bool→List α→List α
  | d,[]=>if d=true then [] else [y]
  | d,x::l=>if d=false∧dN u (key x)≤0 then y::(if key x=u then kB key u y true l else x::kB key u y true l) else (if key x=u then kB key u y d l else x::kB key u y d l)
theorem tT (u:ByteArray) (y:α):∀ (l:List α),kB key u y true l=l.filter fun x=>!isK key u x
  | []=>by simp [kB]
  | x::l=>by
    rw[kB,if_neg (by simp),tT u y l,List.filter_cons]
    by_cases h:key x=u
    · simp [isK,h]
    · simp [isK,h]
theorem aGc (u:ByteArray) (y:α) (hy:key y=u):∀ (l:List α) (z:α),z∈kB key u y false l↔(z∈l∧key z≠u)∨z=y
  | [],z=>by simp [kB]
  | x::l,z=>by
    have ht:z∈kB key u y true l↔z∈l∧key z≠u:=by rw[tT,List.mem_filter]; simp [isK]
    have ih:=aGc u y hy l z
    rw[kB]
    split
    · split
      · rename_i h
        rw[List.mem_cons,ht,List.mem_cons]
        constructor
        · rintro (e | ⟨a,b⟩)
          · exact .inr e
          · exact .inl ⟨.inr a,b⟩
        · rintro (⟨a | a,b⟩ | e)
          · subst a; exact absurd h b
          · exact .inr ⟨a,b⟩
          · exact .inl e
      · rename_i h
        rw[List.mem_cons,List.mem_cons,ht,List.mem_cons]
        constructor
        · rintro (e | e | ⟨a,b⟩)
          · exact .inr e
          · subst e; exact .inl ⟨.inl rfl,h⟩
          · exact .inl ⟨.inr a,b⟩
        · rintro (⟨a | a,b⟩ | e)
          · exact .inr (.inl a)
          · exact .inr (.inr ⟨a,b⟩)
          · exact .inl e
    · split
      · rename_i h
        rw[ih,List.mem_cons]
        constructor
        · rintro (⟨a,b⟩ | e)
          · exact .inl ⟨.inr a,b⟩
          · exact .inr e
        · rintro (⟨a | a,b⟩ | e)
          · subst a; exact absurd h b
          · exact .inl ⟨a,b⟩
          · exact .inr e
      · rename_i h
        rw[List.mem_cons,ih,List.mem_cons]
        constructor
        · rintro (e | ⟨a,b⟩ | e)
          · subst e; exact .inl ⟨.inl rfl,h⟩
          · exact .inl ⟨.inr a,b⟩
          · exact .inr e
        · rintro (⟨a | a,b⟩ | e)
          · exact .inl a
          · exact .inr (.inl ⟨a,b⟩)
          · exact .inr (.inr e)
theorem aM3 (u:ByteArray) (y:α) (hy:key y=u):∀ (l:List α),cQ key l→cQ key (kB key u y false l)
  | [],_=>by simp [kB,cQ]
  | x::l,h=>by
    obtain ⟨h1,h2⟩:=List.pairwise_cons.1 h
    have ih:=aM3 u y hy l h2
    have hf:cQ key (kB key u y true l):=by rw[tT]; exact mZ h2 _
    have hm:∀ z∈kB key u y true l,z∈l:=fun z hz=>by rw[tT] at hz; exact(List.mem_filter.1 hz).1
    rw[kB]
    split
    · rename_i hc
      split
      · rename_i he
        exact List.pairwise_cons.2 ⟨fun z hz=>by rw[hy,← he]; exact h1 z (hm z hz),hf⟩
      · rename_i hne
        have hlt:dN u (key x)<0:=by
          have:dN u (key x)≠0:=fun e=>hne ((mD _ _).1 e).symm
          omega
        refine List.pairwise_cons.2 ⟨fun z hz=>?_,List.pairwise_cons.2 ⟨fun z hz=>h1 z (hm z hz),hf⟩⟩
        rw[hy]
        rcases List.mem_cons.1 hz with rfl | hz
        · exact hlt
        · exact gT hlt (h1 z (hm z hz))
    · rename_i hc
      split
      · exact ih
      · rename_i hne
        refine List.pairwise_cons.2 ⟨fun z hz=>?_,ih⟩
        rcases (aGc u y hy l z).1 hz with ⟨a,_⟩ | rfl
        · exact h1 z a
        · rw[hy]
          have:=pC u (key x)
          have:dN u (key x)≠0:=fun e=>hne ((mD _ _).1 e).symm
          simp only[true_and] at hc
          omega
theorem aM2 {u:ByteArray} {y:α} (hy:key y=u) {l:List α} (h:cQ key l):kB key u y false l=aAh key l u [y] :=
  rB (key:=key) (aM3 u y hy l h) (xL h (by simpa using hy) (by simp)) fun z=>by
    rw[aGc u y hy,lB,List.mem_singleton]
theorem aT0 {u:ByteArray} {y:α} {l:List α} (h:cQ key l):kB key u y true l=aAh key l u []:=by
  rw[tT,aE8 h]
variable {u:ByteArray} {y:α} {l:List α} {k:Nat}
theorem aVw {out:List α} {X:List α} (e:X=out++kB key u y false (l.drop k)) (hk:k<l.length) (h:dN u (key l[k])<0):X=(out++[y]++[l[k]])++kB key u y true (l.drop (k+1)):=by
  rw[e,List.drop_eq_getElem_cons hk,kB,if_pos ⟨rfl,by omega⟩,if_neg (fun e=>by rw[e,oO] at h; omega)]
  simp
theorem aQo {out:List α} {X:List α} (e:X=out++kB key u y false (l.drop k)) (hk:k<l.length) (h:key l[k]=u):X=(out++[y])++kB key u y true (l.drop (k+1)):=by
  rw[e,List.drop_eq_getElem_cons hk,kB,if_pos ⟨rfl,by rw[h,oO]; omega⟩,if_pos h]
  simp
theorem aM0 {out:List α} {X:List α} (e:X=out++kB key u y true (l.drop k)) (hk:k<l.length) (h:key l[k]=u):X=out++kB key u y true (l.drop (k+1)):=by
  rw[e,List.drop_eq_getElem_cons hk,kB,if_neg (by simp),if_pos h]
theorem aAy {out:List α} {X:List α} {d:Bool} (e:X=out++kB key u y d (l.drop k)) (hk:k<l.length) (h:key l[k]≠u) (h2:d=false→¬ dN u (key l[k])<0):X=(out++[l[k]])++kB key u y d (l.drop (k+1)):=by
  rw[e,List.drop_eq_getElem_cons hk,kB,if_neg (fun⟨a,b⟩=>by
    have:=h2 a
    have:dN u (key l[k])≠0:=fun e=>h ((mD _ _).1 e).symm
    omega),if_neg h]
  simp
theorem aEk {out:List α} {X:List α} {d:Bool} (e:X=out++kB key u y d (l.drop k)) (hk:l.length≤k):X=out++(if d=true then [] else [y]):=by
  rw[e,List.drop_eq_nil_of_le hk]; simp [kB]
end
theorem put_set {l:List Us} {u:ByteArray} {ys:List bS} (h:cQ cK l):kB cK u (u,ys) (decide (ys=[])) l=oF l u ys:=by
  unfold oF lY
  by_cases e:ys=[]
  · rw[if_pos e,decide_eq_true e,aT0 h]
  · rw[if_neg e,decide_eq_false e,aM2 (u:=u) (y:=(u,ys)) rfl h]
theorem aS7 {l:List Tm} {u:ByteArray} {t:Int} (h:cQ cW l):kB cW u (u,t) false l=nH l u t:=aM2 (u:=u) (y:=(u,t)) rfl h
theorem aTw {l:List Us} {u:ByteArray} {k:Nat} (hk:k<l.length) (h:∀ (j:Nat) (hj:j<l.length),j<k→isK cK u l[j]=false) (he:l[k].1=u):ofU l u=l[k].2:=by
  rw[ofU,List.find?_eq_some_iff_getElem.2 ⟨by simp [isK,he],k,hk,rfl,fun j hj=>by have:=h j (by omega) hj; simpa using this⟩]; rfl
theorem ofU_no {l:List Us} {u:ByteArray} (h:∀ (j:Nat) (hj:j<l.length),isK cK u l[j]=false):ofU l u=[]:=by
  rw[ofU,List.find?_eq_none.2 fun x hx=>by obtain ⟨j,hj,rfl⟩:=List.getElem_of_mem hx; have:=h j hj; simpa using this]; rfl
theorem len_nil {ys:List bS}:((((ys.map stC).length:Nat):Int) == 0)=decide (ys=[]):=by
  cases ys <;> simp <;> omega
structure TsS (s:Sta):Prop where
  o:∀ e∈s.opn,TS e.1.2
  u:∀ x∈s.usr,TS x.1
  b:∀ e∈s.sub,TS e.1.1∧TS e.1.2
  t:∀ x∈s.tmb,TS x.1
theorem aFg {s:Sta} (h:RightP s):TsS s:=⟨fun e he=>lF (aIq h he).1,fun x hx=>lF (h.unm x hx),fun e he=>by
  have:=((rD _).1 h.sub).1 e he
  simp only[okE,Bool.and_eq_true,decide_eq_true_eq] at this
  exact⟨lF this.2.1,lF this.2.2⟩,fun x hx=>lF (h.tnm x hx)⟩
theorem fX {s:Sta} (h:RightP s→False):false=gC s:=by
  cases e:gC s with
  | false=>rfl
  | true=>exact(h (gZ.1 e)).elim
theorem aTk {s:Sta} (h:RightP s):true=gC s:=(gZ.2 h).symm
theorem aSl {α:Type} {key:α→ByteArray} {l:List α} (h:cQ key l) {k:Nat} (h0:0<k) (hk:k<l.length):dN (key (l[k - 1]'(by omega))) (key l[k])<0 :=
  List.pairwise_iff_getElem.1 h (k - 1) k (by omega) hk (by omega)
theorem aSk {α:Type} {key:α→ByteArray}:∀ {l:List α},(∀ (k:Nat) (h0:0<k) (hk:k<l.length),dN (key (l[k - 1]'(by omega))) (key l[k])<0)→cQ key l
  | [],_=>List.Pairwise.nil
  | [x],_=>List.pairwise_singleton _ _
  | x::y::l,h=>by
    have ih:cQ key (y::l):=aSk fun k h0 hk=>by
      have:=h (k+1) (by omega) (by simp only[List.length_cons] at hk ⊢; omega)
      obtain ⟨j,rfl⟩:∃ j,k=j+1:=⟨k - 1,by omega⟩
      simpa using this
    have h1:dN (key x) (key y)<0:=by have:=h 1 (by omega) (by simp); simpa using this
    refine List.pairwise_cons.2 ⟨fun z hz=>?_,ih⟩
    rcases List.mem_cons.1 hz with rfl | hz
    · exact h1
    · exact gT h1 ((List.pairwise_cons.1 ih).1 z hz)
theorem aNy {α:Type} {p:α→Prop} {l:List α} {k:Nat} (hk:l.length≤k) (h:∀ (j:Nat) (hj:j<l.length),j<k→p l[j]):∀ x∈l,p x:=fun x hx=>by
  obtain ⟨j,hj,rfl⟩:=List.getElem_of_mem hx
  exact h j hj (by omega)
theorem kT {n:Nat} {p:(j:Nat)→j<n→Prop} {k:Nat} (h:∀ (j:Nat) (hj:j<n),j<k→p j hj) (hk:k<n) (hp:p k hk):∀ (j:Nat) (hj:j<n),j<k+1→p j hj:=fun j hj hjk=>by
  by_cases e:j=k
  · subst e; exact hp
  · exact h j hj (by omega)
end Go.Abs
set_option linter.unusedVariables false
set_option linter.unusedSimpArgs false
namespace Go.Abs
open Go
theorem aP9 {s:Sta} {e:Se} {l:List Se} (h:s.opn=e::l):dI s=dI ⟨s.now,s.hor,l,kR s.usr e.1.2 (dK e s.now),s.sub,s.tmb⟩:=by
  unfold dI oX; rw[h]; rfl
theorem aIr {s:Sta} (h:s.opn=[]):dI s=s:=by
  cases s; simp only at h; subst h; rfl
theorem aMa {s:Sta} (h:RightP s):RightP (dI s):=by
  suffices H:∀ (n:Nat) (s:Sta),s.opn.length=n→RightP s→RightP (dI s) from H _ s rfl h
  intro n
  induction n with
  | zero=>intro s hn h; rw[aIr (List.eq_nil_of_length_eq_zero hn)]; exact h
  | succ n ih =>
    intro s hn h
    match e:s.opn,hn with
    | x::l,hn =>
      rw[aP9 e]
      have hr:=h.opn; rw[e] at hr
      obtain ⟨q1,q2⟩:=aK0 (pre:=[]) hr
      exact ih _ (by simpa using hn) (yT h (Int.le_refl _) h.n1 (by rw[e]; simp) q1 (fun y hy=>h.late y (by rw[e]; exact(q2 y hy).1)) (fun y hy=>.inl ⟨by rw[e]; exact(q2 y hy).1,(q2 y hy).2⟩))
theorem vV (s:Sta):dI (dI s)=dI s:=aIr rfl
theorem nK {h:Int} {l:List Us} {x:Us}:x∈eH h l↔∃ y∈l,fS h y.2≠[]∧x=(y.1,fS h y.2):=by
  unfold eH
  rw[List.mem_flatMap]
  constructor
  · rintro ⟨y,hy,hx⟩
    unfold lY at hx
    split at hx
    · cases hx
    · rename_i hne; exact⟨y,hy,hne,List.mem_singleton.1 hx⟩
  · rintro ⟨y,hy,hne,rfl⟩
    exact⟨y,hy,by rw[lY,if_neg hne]; simp⟩
theorem xP {h:Int}:∀ {l:List Us},cQ cK l→cQ cK (eH h l)
  | [],_=>List.Pairwise.nil
  | x::l,hr=>by
    obtain ⟨h1,h2⟩:=List.pairwise_cons.1 hr
    have ih:cQ cK (eH h l):=xP h2
    show cQ cK (lY x.1 (fS h x.2)++eH h l)
    unfold lY
    split
    · exact ih
    · refine List.pairwise_cons.2 ⟨fun y hy=>?_,ih⟩
      obtain ⟨z,hz,_,rfl⟩:=nK.1 hy
      exact h1 z hz
theorem aI2 {l:List Us} {u:ByteArray} (h:∀ x∈l,x.1≠u):ofU l u=[]:=pS (by rw[hP,List.any_eq_false]; intro x hx; simpa [isK] using h x hx)
theorem aQi {l:List Us} (h:cQ cK l) (u:ByteArray):(u,ofU l u)∈l∨(ofU l u=[]∧∀ x∈l,x.1≠u):=by
  by_cases hh:hP cK l u=true
  · obtain ⟨hk,e⟩:=aBx h hh
    exact .inl (e ▸ List.getElem_mem hk)
  · have hf:=Bool.eq_false_iff.2 hh
    refine .inr ⟨pS hf,fun x hx=>?_⟩
    rw[hP,List.any_eq_false] at hf
    simpa [isK] using hf x hx
theorem aQ4 (h:Int):fS h []=[]:=rfl
theorem lH {h:Int} {l:List Us} (hr:cQ cK l) (u:ByteArray):ofU (eH h l) u=fS h (ofU l u):=by
  rcases aQi hr u with h1 | ⟨h1,h2⟩
  · by_cases hne:fS h (ofU l u)=[]
    · rw[hne]
      refine aI2 fun x hx e=>?_
      obtain ⟨y,hy,hy2,rfl⟩:=nK.1 hx
      have e:y.1=u:=e
      have:=xR hr hy
      rw[e] at this
      rw[this] at hne
      exact hy2 hne
    · have:(u,fS h (ofU l u))∈eH h l:=nK.2 ⟨_,h1,hne,rfl⟩
      exact xR (xP hr) this
  · rw[h1,aQ4]
    refine aI2 fun x hx=>?_
    obtain ⟨y,hy,_,rfl⟩:=nK.1 hx
    exact h2 y hy
def NeU (l:List Us):Prop:=∀ x∈l,x.2≠[]
theorem aJx {a b:List Us} (ha:cQ cK a) (hb:cQ cK b) (na:NeU a) (nb:NeU b) (h:∀ u,ofU a u=ofU b u):a=b:=by
  refine rB ha hb fun x=>⟨fun hx=>?_,fun hx=>?_⟩
  · have e:=xR ha hx
    rcases aQi hb x.1 with h1 | ⟨h1,_⟩
    · rw[← h,e] at h1; exact h1
    · rw[← h,e] at h1; exact absurd h1 (na x hx)
  · have e:=xR hb hx
    rcases aQi ha x.1 with h1 | ⟨h1,_⟩
    · rw[h,e] at h1; exact h1
    · rw[h,e] at h1; exact absurd h1 (nb x hx)
theorem rJ {h:Int} {l:List Us}:NeU (eH h l):=fun x hx=>by
  obtain ⟨y,_,h2,rfl⟩:=nK.1 hx
  exact h2
theorem aVa {l:List Us} {u:ByteArray} {ys:List bS} (h:NeU l):NeU (oF l u ys):=fun x hx=>by
  rcases lB.1 hx with hx | hx
  · exact h x hx.1
  · unfold lY at hx
    split at hx
    · cases hx
    · rename_i hne; rw[List.mem_singleton.1 hx]; exact hne
theorem add_ne {l:List Us} {u:ByteArray} {x:bS} (h:NeU l):NeU (kR l u x):=by
  unfold kR; split
  · exact h
  · exact aVa h
theorem aEo {l:List Us} (h:cQ cK l) {u v:ByteArray} {x:bS}:ofU (kR l u x) v=if v=u then fZ (ofU l u) x else ofU l v:=by
  unfold kR fZ
  split
  · split
    · rename_i hv; rw[hv]
    · rfl
  · rw[aAg h]
theorem tY {h k:Int} (hk:h≤k) (l:List bS):fS k (fS h l)=fS k l:=by
  unfold fS
  rw[List.filter_filter]
  refine List.filter_congr fun x _=>?_
  rw[Bool.eq_iff_iff]
  simp only[Bool.and_eq_true,Bool.not_eq_true',decide_eq_false_iff_not]
  omega
theorem uG {q:bS→Bool} {l:List bS} (h:Srt iI l):Srt iI (l.filter q):=List.Pairwise.filter q h
theorem aWg {l:List bS} {x:bS} (h:Srt iI l):Srt iI (fZ l x):=by
  unfold fZ; split
  · exact h
  · exact mQ h
theorem aUs {h:Int} {l:List bS} {x:bS} (hs:Srt iI l):fS h (fZ (fS h l) x)=fS h (fZ l x):=by
  by_cases hx:x.1.2≤x.1.1
  · rw[fZ,fZ,if_pos hx,if_pos hx,tY (Int.le_refl _)]
  · rw[fZ,fZ,if_neg hx,if_neg hx]
    refine uF cmpS_tri (fun x y=>aEm.1) (uG (mQ (uG hs))) (uG (mQ hs)) ?_
    refine((gN x _).filter _).trans (List.Perm.trans ?_ ((gN x l).filter _).symm)
    rw[List.filter_cons,List.filter_cons]
    have e:List.filter (fun x:bS=>!decide (x.1.2≤h)) (fS h l)=List.filter (fun x=>!decide (x.1.2≤h)) l:=tY (Int.le_refl h) l
    rw[e]
structure GoU (l:List Us):Prop where
  r:cQ cK l
  s:∀ u,Srt iI (ofU l u)
  n:NeU l
theorem GoU.add {l:List Us} {u:ByteArray} {x:bS} (h:GoU l):GoU (kR l u x):=⟨aN0 h.r,fun v=>by
  rw[aEo h.r]; split
  · exact aWg (h.s u)
  · exact h.s v,add_ne h.n⟩
theorem GoU.prune {l:List Us} {k:Int} (h:GoU l):GoU (eH k l):=⟨xP h.r,fun v=>by rw[lH h.r]; exact uG (h.s v),rJ⟩
theorem GoU.set0 {l:List Us} {u:ByteArray} (h:GoU l):GoU (oF l u []):=⟨tF h.r,fun v=>by
  rw[aAg h.r]; split
  · exact List.Pairwise.nil
  · exact h.s v,aVa h.n⟩
theorem aBq {s:Sta} (h:RightP s):GoU s.usr:=⟨h.usr,fun u=>aBn ((rC _).1 (aI1 h u).1).2,fun x hx=>(mP.1 (h.uok x hx)).1⟩
theorem qR {h k:Int} (hk:h≤k) {l:List Us} (hg:GoU l):eH k (eH h l)=eH k l :=
  aJx hg.prune.prune.r hg.prune.r rJ rJ fun u=>by rw[lH hg.prune.r,lH hg.r,lH hg.r,tY hk]
theorem aBu {h:Int} {l:List Us} {u:ByteArray} {x:bS} (hg:GoU l):eH h (kR (eH h l) u x)=eH h (kR l u x) :=
  aJx hg.prune.add.prune.r hg.add.prune.r rJ rJ fun v=>by
    rw[lH hg.prune.add.r,lH hg.add.r,aEo hg.prune.r,aEo hg.r]
    split
    · rw[lH hg.r,aUs (hg.s u)]
    · rw[lH hg.r,tY (Int.le_refl _)]
theorem aQd {h:Int} {l:List Us} {u:ByteArray} (hg:GoU l):eH h (oF (eH h l) u [])=eH h (oF l u []) :=
  aJx hg.prune.set0.prune.r hg.set0.prune.r rJ rJ fun v=>by
    rw[lH hg.prune.set0.r,lH hg.set0.r,aAg hg.prune.r,aAg hg.r]
    split
    · rfl
    · rw[lH hg.r,tY (Int.le_refl _)]
theorem wC {h:Int} (s:Sta):∀ (o:List Se) {l:List Us},GoU l→eH h (oX s o (eH h l))=eH h (oX s o l)
  | [],l,hg=>qR (Int.le_refl h) hg
  | e::o,l,hg=>by
    show eH h (oX s o (kR (eH h l) e.1.2 (dK e s.now)))=eH h (oX s o (kR l e.1.2 (dK e s.now)))
    rw[← wC s o hg.prune.add,aBu hg,wC s o hg.add]
def rP (h:Int) (e:En):Bool:=!decide (e.2.2≤h)
theorem kU (s:Sta):cF s=⟨s.now,s.hor,s.opn,eH s.hor s.usr,s.sub.filter (rP s.hor),s.tmb⟩:=rfl
theorem oJ {h k:Int} (hk:h≤k) (l:List En):(l.filter (rP h)).filter (rP k)=l.filter (rP k):=by
  rw[List.filter_filter]
  refine List.filter_congr fun x _=>?_
  rw[Bool.eq_iff_iff]
  simp only[rP,Bool.and_eq_true,Bool.not_eq_true',decide_eq_false_iff_not]
  omega
theorem aMk {s:Sta} (h:RightP s):cF (cF s)=cF s:=by
  simp only[kU,qR (Int.le_refl s.hor) (aBq h),oJ (Int.le_refl s.hor)]
theorem aGv {h:Int} {l:List bS} {x:bS}:x∈fS h l↔x∈l∧¬ x.1.2≤h:=by simp [fS]
theorem aCm {s:Sta} (h:RightP s):RightP (cF s):=by
  refine⟨h.n0,h.n1,h.h0,h.h1,h.opn,h.late,fun x hx=>?_,xP h.usr,fun x hx=>?_,aCg _ h.sub,fun e he=>h.sok e (List.mem_filter.1 he).1,h.tnm,h.tmb,h.tok⟩
  · obtain ⟨y,hy,_,rfl⟩:=nK.1 hx
    exact h.unm y hy
  · obtain ⟨y,hy,hne,rfl⟩:=nK.1 hx
    obtain ⟨a1,a2,a3⟩:=mP.1 (h.uok y hy)
    refine mP.2 ⟨hne,?_,fun z hz=>a3 z (aGv.1 hz).1⟩
    obtain ⟨r1,r2⟩:=(rC _).1 a2
    exact(rC _).2 ⟨fun z hz=>r1 z (aGv.1 hz).1,r2.filter _⟩
theorem aBt {s:Sta} (h:RightP s):cF (dI (cF s))=cF (dI s):=by
  have e:dI (cF s)=⟨s.now,s.hor,[],oX s s.opn (eH s.hor s.usr),s.sub.filter (rP s.hor),s.tmb⟩:=rfl
  have e2:dI s=⟨s.now,s.hor,[],oX s s.opn s.usr,s.sub,s.tmb⟩:=rfl
  rw[e,e2]
  simp only[kU,wC s s.opn (aBq h),oJ (Int.le_refl s.hor)]
theorem aNv {s:Sta} {e:Ev} (h0:(aR s e).2=0):bT e=true∧s.now≤e.at'∧(bP s e).2=0∧(aR s e).1={ (bP s e).1 with now:=e.at' }:=by
  unfold aR at h0 ⊢
  split at h0
  · rename_i he
    split at h0
    · simp at h0
    · rename_i ht
      split at h0
      · rename_i h2
        rw[if_pos he,if_neg ht,if_pos h2]
        exact⟨he,Int.not_lt.1 ht,h2,rfl⟩
      · rename_i h2; exact absurd h0 h2
  · simp at h0
theorem aAr {pre post:List Se} {e:Se} {v:ByteArray} {t:Int} (h:e.1.2≠v):gA (pre++e::post) v t=gA (pre++post) v t:=by
  simp only[gA,List.flatMap_append,List.flatMap_cons]
  rw[if_neg (by rintro ⟨h1,_⟩; simp [jK] at h1; exact h h1)]
  rfl
theorem aGe {α:Type} (q:α→Bool) (e:α):∀ l:List α,∃ pre post,l=pre++post∧aB1 q e l=pre++e::post
  | []=>⟨[],[],rfl,rfl⟩
  | x::l=>by
    rw[aB1]; split
    · exact⟨[],x::l,rfl,rfl⟩
    · obtain ⟨pre,post,e1,e2⟩:=aGe q e l
      exact⟨x::pre,post,by rw[e1]; rfl,by rw[e2]; rfl⟩
theorem aTa {l:List Se} {e:Se} {v:ByteArray} {t:Int} (h:e.1.2≠v) (h0:pR l e=0):dM (mM l e) v t=dM l v t:=by
  rw[mM,if_pos h0]
  obtain ⟨pre,post,e1,e2⟩:=aGe (jV e.1.1) e l
  rw[dM,aD9,e2,aAr h,← e1,dM]
theorem aTc {l:List Se} {n st t':Int} {u v:ByteArray} {t:Int} (h:u≠v) (h0:fR l n u=0):dM (mT l n u st t') v t=dM l v t:=by
  obtain ⟨pre,x,post,e1,e2,e3,e4,e5⟩:=uT h0
  rw[mT,if_pos h0,e4,dM,dM,aAr (by rw[e2]; exact h),e1,aAr (by rw[e2]; exact h)]
theorem aTb {l:List Se} {n:Int} {u v:ByteArray} {t:Int} (h:u≠v) (h0:fR l n u=0):dM (mE l n u) v t=dM l v t:=by
  obtain ⟨pre,x,post,e1,e2,e3,e4,e5⟩:=uT h0
  rw[mE,if_pos h0,e5,dM,dM,e1,aAr (by rw[e2]; exact h)]
theorem aN1 {l:List Us} (h:cQ cK l) {u v:ByteArray} {x:bS} (hne:u≠v):ofU (kR l u x) v=ofU l v:=by
  rw[aEo h,if_neg (fun e=>hne e.symm)]
theorem aMo {s:Sta} {e:Ev} {v:ByteArray} {t:Int} (h:RightP s) (hk:e.kind≤3) (hv:e.user≠v) (h0:(aR s e).2=0) :
    fN (aR s e).1 v t=fN s v t∧(aR s e).1.tmb.length=s.tmb.length∧(aR s e).1.sub.length=s.sub.length:=by
  obtain ⟨he,_,h2,e1⟩:=aNv h0
  rw[e1]
  rcases tU he with ⟨hk',_⟩ | ⟨hk',_⟩ | ⟨hk',_⟩ | ⟨hk',_⟩ | ⟨hk',_⟩ | ⟨hk',_⟩ | ⟨hk',_⟩
  · rw[bP,if_pos hk'] at h2 ⊢
    refine⟨?_,rfl,rfl⟩
    simp only[fN]
    rw[aTa hv h2]
  · rw[bP,if_neg (by omega),if_pos hk'] at h2 ⊢
    refine⟨?_,rfl,rfl⟩
    simp only[fN]
    rw[aTc hv h2,aN1 h.usr hv]
  · rw[bP,if_neg (by omega),if_neg (by omega),if_pos hk'] at h2 ⊢
    refine⟨?_,rfl,rfl⟩
    simp only[fN]
    rw[aTb hv h2,aN1 h.usr hv]
  all_goals exact absurd hk (by omega)
theorem aFu {u v:ByteArray} {t:Int}:∀ l:List Se,gA (l.filter fun e=>!jK u e) v t=if v=u then [] else gA l v t
  | []=>by split <;> rfl
  | e::l=>by
    have ih:=aFu (u:=u) (v:=v) (t:=t) l
    by_cases he:jK u e=true
    · rw[List.filter_cons_of_neg (by simp [he]),ih]
      split
      · rfl
      · rename_i hv
        have:e.1.2≠v:=fun e'=>hv (by simp [jK] at he; rw[← e',he])
        exact(aAr (pre:=[]) this).symm
    · rw[List.filter_cons_of_pos (by simp [he])]
      show (if jK v e=true∧¬ t≤e.2.2 then [dK e t] else [])++gA _ v t=_
      rw[ih]
      by_cases hv:v=u
      · subst hv; rw[if_pos rfl,if_pos rfl,if_neg (fun h=>he h.1)]; rfl
      · rw[if_neg hv,if_neg hv]; rfl
theorem aNg {s:Sta} {e:Ev} (hk:e.kind=7) (h0:(aR s e).2=0):(aR s e).1={ fQ s e.user e.at' with now:=e.at' }:=by
  obtain ⟨he,_,h2,e1⟩:=aNv h0
  rw[e1,bP,if_neg (by omega),if_neg (by omega),if_neg (by omega),if_neg (by omega),if_neg (by omega),if_neg (by omega)]
theorem aCt {s:Sta} (h:cQ cK s.usr) {u v:ByteArray} {t t':Int}:fN { fQ s u t with now:=t' } v t=if v=u then [] else fN s v t:=by
  simp only[fN,fQ]
  rw[aAg h,dM,aFu]
  split
  · rfl
  · rfl
theorem aQv {l:List Tm} {u:ByteArray} {t:Int} (h:cQ cW l):((nH l u t).filter fun x=>isK cW u x)=[(u,t)]:=by
  have hm:(u,t)∈nH l u t:=lB.2 (.inr (by simp))
  have hh:hP cW (nH l u t) u=true:=List.any_eq_true.2 ⟨_,hm,by simp [isK]⟩
  obtain ⟨hk,e1,e2⟩:=aKr (aLp h) hh
  have hm2:(u,t)∈(nH l u t).filter (isK cW u):=List.mem_filter.2 ⟨hm,by simp [isK]⟩
  rw[e2] at hm2
  rw[e2,← List.mem_singleton.1 hm2]
theorem aT7 {s:Sta} {u:ByteArray} {t t':Int} (h:cQ cK s.usr):mO { fQ s u t with now:=t',tmb:=[] } u=false:=by
  simp only[mO,fQ,oF]
  rw[aKq aAi,if_pos rfl]
  simp [hP,lY]
theorem aQw {s:Sta} {u:ByteArray} {t t':Int}:mO { fQ s u t with now:=t' } u=true:=by
  simp only[mO,fQ,nH]
  rw[aKq (by simp),if_pos rfl]
  rfl
theorem aIz {l:List En} {p:Pr} {h:Int} (hh:h<1099511627776):onB (l.filter (rP h)) p=onB l p:=by
  rw[Bool.eq_iff_iff,aKj,aKj]
  constructor
  · rintro ⟨e,he,h1⟩; exact⟨e,(List.mem_filter.1 he).1,h1⟩
  · rintro ⟨e,he,h1,h2⟩; exact⟨e,List.mem_filter.2 ⟨he,by simp [rP]; omega⟩,h1,h2⟩
theorem aFl {p:Pr} {t h:Int} (hh:h<1099511627776):∀ l:List En,(kA (l.filter (rP h)) p t).filter (rP h)=(kA l p t).filter (rP h)
  | []=>rfl
  | x::l=>by
    have ih:=aFl (p:=p) (t:=t) hh l
    by_cases hx:rP h x=true
    · rw[List.filter_cons_of_pos hx,kA,kA]
      split
      · rw[List.filter_append,List.filter_append,oJ (Int.le_refl h)]
      · rw[List.filter_cons_of_pos hx,List.filter_cons_of_pos hx,ih]
    · rw[List.filter_cons_of_neg hx,ih,kA,if_neg,List.filter_cons_of_neg hx]
      intro hf
      obtain ⟨_,h2⟩:=aJc.1 hf
      exact hx (by simp [rP]; omega)
theorem aQp {e:En}:∀ {l:List En},(∀ y∈l,0<mL y e)→tB l e=e::l
  | [],_=>rfl
  | x::l,h=>by rw[tB,if_pos (h x (by simp))]
theorem aGa {e:En} {h:Int} (he:rP h e=true):∀ {l:List En},l.Pairwise RisR→(tB (l.filter (rP h)) e).filter (rP h)=(tB l e).filter (rP h)
  | [],_=>rfl
  | x::l,hp=>by
    obtain ⟨h1,h2⟩:=List.pairwise_cons.1 hp
    have ih:=aGa he h2
    by_cases hx:rP h x=true
    · rw[List.filter_cons_of_pos hx,tB,tB]
      split
      · rw[List.filter_cons_of_pos he,List.filter_cons_of_pos he,List.filter_cons_of_pos hx,List.filter_cons_of_pos hx,oJ (Int.le_refl h)]
      · rw[List.filter_cons_of_pos hx,List.filter_cons_of_pos hx,ih]
    · rw[List.filter_cons_of_neg hx]
      by_cases ho:0<mL x e
      · rw[aQp (l:=l.filter (rP h)) (fun y hy=>?_),tB,if_pos ho,List.filter_cons_of_pos he,List.filter_cons_of_pos he,List.filter_cons_of_neg hx,oJ (Int.le_refl h)]
        have a:=(h1 y (List.mem_filter.1 hy).1).1
        have b:=ordE_tri.swap x e
        have c:=ordE_tri.lt_tr (show mL e x<0 by omega) a
        have d:=ordE_tri.swap y e
        omega
      · rw[ih,tB,if_neg ho,List.filter_cons_of_neg hx]
theorem aQe {s:Sta} {e:Ev} (h:RightP s) (he:bT e=true):(bP (cF s) e).2=(bP s e).2∧((bP s e).2=0→cF { (bP (cF s) e).1 with now:=e.at' }=cF { (bP s e).1 with now:=e.at' }):=by
  have hg:=aBq h
  have hs:=((rD _).1 h.sub).2
  have r:=Int.le_refl s.hor
  rcases tU he with ⟨hk,_⟩ | ⟨hk,_⟩ | ⟨hk,_⟩ | ⟨hk,_⟩ | ⟨hk,_⟩ | ⟨hk,_⟩ | ⟨hk,_⟩
  · rw[bP,if_pos hk,bP,if_pos hk]
    refine⟨rfl,fun _=>?_⟩
    simp only[kU,qR r hg,oJ r]
  · rw[bP,if_neg (show ¬ e.kind=1 by omega),if_pos hk,bP,if_neg (show ¬ e.kind=1 by omega),if_pos hk]
    refine⟨rfl,fun _=>?_⟩
    simp only[kU,aBu hg,oJ r]
  · rw[bP,if_neg (show ¬ e.kind=1 by omega),if_neg (show ¬ e.kind=2 by omega),if_pos hk,bP,if_neg (show ¬ e.kind=1 by omega),if_neg (show ¬ e.kind=2 by omega),if_pos hk]
    refine⟨rfl,fun _=>?_⟩
    simp only[kU,aBu hg,oJ r]
  · rw[bP,if_neg (show ¬ e.kind=1 by omega),if_neg (show ¬ e.kind=2 by omega),if_neg (show ¬ e.kind=3 by omega),if_pos hk,bP,if_neg (show ¬ e.kind=1 by omega),if_neg (show ¬ e.kind=2 by omega),if_neg (show ¬ e.kind=3 by omega),if_pos hk]
    simp only[kU,aIz h.h1]
    refine⟨trivial,fun h0=>?_⟩
    have hon:¬ onB s.sub (e.user,e.other)=true:=fun hh=>by rw[if_pos hh] at h0; omega
    simp only[if_neg hon,qR r hg,iC]
    rw[aGa (by have:=h.h1; simp [rP]; omega) hs]
  · rw[bP,if_neg (show ¬ e.kind=1 by omega),if_neg (show ¬ e.kind=2 by omega),if_neg (show ¬ e.kind=3 by omega),if_neg (show ¬ e.kind=4 by omega),if_pos hk,bP,if_neg (show ¬ e.kind=1 by omega),if_neg (show ¬ e.kind=2 by omega),if_neg (show ¬ e.kind=3 by omega),if_neg (show ¬ e.kind=4 by omega),if_pos hk]
    simp only[kU,aIz h.h1]
    refine⟨trivial,fun h0=>?_⟩
    have hon:onB s.sub (e.user,e.other)=true:=by
      by_cases hh:onB s.sub (e.user,e.other)=true
      · exact hh
      · rw[if_neg hh] at h0; omega
    simp only[if_pos hon,qR r hg,aFl h.h1]
  · rw[bP,if_neg (show ¬ e.kind=1 by omega),if_neg (show ¬ e.kind=2 by omega),if_neg (show ¬ e.kind=3 by omega),if_neg (show ¬ e.kind=4 by omega),if_neg (show ¬ e.kind=5 by omega),if_pos hk,bP,if_neg (show ¬ e.kind=1 by omega),if_neg (show ¬ e.kind=2 by omega),if_neg (show ¬ e.kind=3 by omega),if_neg (show ¬ e.kind=4 by omega),if_neg (show ¬ e.kind=5 by omega),if_pos hk]
    refine⟨rfl,fun _=>?_⟩
    have r2:s.hor≤max s.hor e.n:=by omega
    simp only[kU,qR r2 hg,oJ r2]
  · rw[bP,if_neg (show ¬ e.kind=1 by omega),if_neg (show ¬ e.kind=2 by omega),if_neg (show ¬ e.kind=3 by omega),if_neg (show ¬ e.kind=4 by omega),if_neg (show ¬ e.kind=5 by omega),if_neg (show ¬ e.kind=6 by omega),bP,if_neg (show ¬ e.kind=1 by omega),if_neg (show ¬ e.kind=2 by omega),if_neg (show ¬ e.kind=3 by omega),if_neg (show ¬ e.kind=4 by omega),if_neg (show ¬ e.kind=5 by omega),if_neg (show ¬ e.kind=6 by omega)]
    refine⟨rfl,fun _=>?_⟩
    simp only[kU,fQ,aQd hg]
    congr 1
    rw[List.filter_filter,List.filter_filter,List.filter_filter]
    refine List.filter_congr fun x _=>?_
    cases lC e.user x <;> cases rP s.hor x <;> rfl
theorem aMj {s:Sta} {e:Ev} (h:RightP s):(aR (cF s) e).2=(aR s e).2∧cF (aR (cF s) e).1=cF (aR s e).1:=by
  unfold aR
  by_cases he:bT e=true
  · rw[if_pos he,if_pos he]
    obtain ⟨h1,h2⟩:=aQe (e:=e) h he
    show (if e.at'<s.now then (mY,111) else _:Sta×Int).2=_∧cF (if e.at'<s.now then (mY,111) else _:Sta×Int).1=_
    by_cases ht:e.at'<s.now
    · rw[if_pos ht,if_pos ht]; exact⟨rfl,rfl⟩
    · rw[if_neg ht,if_neg ht,h1]
      by_cases h0:(bP s e).2=0
      · rw[if_pos h0,if_pos h0]; exact⟨rfl,h2 h0⟩
      · rw[if_neg h0,if_neg h0]; exact⟨rfl,rfl⟩
  · rw[if_neg he,if_neg he]; exact⟨rfl,rfl⟩
end Go.Abs
set_option linter.unusedVariables false
set_option linter.unusedSimpArgs false
namespace Go.Abs
open Go
theorem addU_ts {l:List Us} {u:ByteArray} {x:bS} (h:∀ y∈l,TS y.1) (hu:TS u):∀ y∈kR l u x,TS y.1:=fun y hy=>by
  unfold kR at hy; split at hy
  · exact h y hy
  · rcases lB.1 hy with ⟨hy,_⟩ | hy
    · exact h y hy
    · unfold lY at hy; split at hy
      · cases hy
      · rw[List.mem_singleton.1 hy]; exact hu
theorem aSm {s:Sta} (h:TsS s):∀ (k:Nat),k≤s.opn.length→∀ y∈(lZ s k).usr,TS y.1
  | 0,_=>h.u
  | k+1,hk=>by rw[tJ (by omega)]; exact addU_ts (aSm h k (by omega)) (h.o _ (List.getElem_mem _))
theorem aM8 {α:Type} {key:α→ByteArray} {l:List α} {u:ByteArray} {k:Nat} (hk:k<l.length) (h:key l[k]=u):hP key l u=true:=List.any_eq_true.2 ⟨_,List.getElem_mem hk,by simp [isK,h]⟩
theorem aSv {α:Type} {key:α→ByteArray} {l:List α} {u:ByteArray} {k:Nat} (hk:l.length≤k) (h:∀ (j:Nat) (hj:j<l.length),j<k→isK key u l[j]=false):hP key l u=false:=by
  rw[hP,List.any_eq_false]
  intro x hx
  obtain ⟨j,hj,rfl⟩:=List.getElem_of_mem hx
  simp [h j hj (by omega)]
theorem aVp {s:Sta} {x:bS} {k:Nat} (hk:k<s.opn.length) (h1:s.opn[k].1.1=x.2.1) (h2:s.opn[k].2.2<x.1.2):eK s x=false :=
  Bool.eq_false_iff.2 fun h=>by have:=(oI.1 h).1 _ (List.getElem_mem hk) h1; omega
theorem tP {s:Sta} {x:bS} (h:¬ (0≤x.1.1∧x.1.2≤s.now∧1≤x.2.1∧x.2.1≤999∧1≤x.2.2∧x.2.2≤4)):eK s x=false :=
  Bool.eq_false_iff.2 fun h'=>h (oI.1 h').2
theorem aTv {s:Sta} {x:bS} {i:Nat} (hi:s.opn.length≤i) (h:∀ (j:Nat) (hj:j<s.opn.length),j<i→¬ (s.opn[j].1.1=x.2.1∧s.opn[j].2.2<x.1.2)) (h2:0≤x.1.1∧x.1.2≤s.now∧1≤x.2.1∧x.2.1≤999∧1≤x.2.2∧x.2.2≤4):eK s x=true :=
  oI.2 ⟨fun e he hn=>by
    obtain ⟨j,hj,rfl⟩:=List.getElem_of_mem he
    have:=h j hj (by omega)
    exact Int.not_lt.1 fun hl=>this ⟨hn,hl⟩,h2⟩
theorem rN {s:Sta} {x:Us} {k:Nat} (hk:k<x.2.length) (h:eK s x.2[k]=false):false=mN s x:=by
  cases e:mN s x with
  | false=>rfl
  | true=>have:=(mP.1 e).2.2 _ (List.getElem_mem hk); rw[h] at this; cases this
theorem aMq {s:Sta} {x:Us} {k:Nat} {b:Bool} (hk:x.2.length≤k) (h:∀ (j:Nat) (hj:j<x.2.length),j<k→eK s x.2[j]=true) (hb:b=(decide (0<x.2.length)&&vH x.2)):b=mN s x:=by
  have ha:x.2.all (eK s)=true:=List.all_eq_true.2 fun y hy=>by
    obtain ⟨j,hj,rfl⟩:=List.getElem_of_mem hy
    exact h j hj (by omega)
  rw[hb,mN,ha,Bool.and_true]
  congr 1
  cases x.2 <;> simp
def RisUp {α:Type} (key:α→ByteArray) (q:α→Prop) (l:List α) (k:Nat):Prop:=∀ (j:Nat) (hj:j<l.length),j<k→(cT (key l[j])=true∧q l[j]∧∀ h0:0<j,dN (key (l[j - 1]'(by omega))) (key l[j])<0)
theorem RisUp.zero {α:Type} {key:α→ByteArray} {q:α→Prop} {l:List α}:RisUp key q l 0:=fun j hj h=>absurd h (Nat.not_lt_zero _)
theorem RisUp.next {α:Type} {key:α→ByteArray} {q:α→Prop} {l:List α} {k:Nat} (h:RisUp key q l k) (hk:k<l.length) (h1:cT (key l[k])=true) (h2:q l[k]) (h3:∀ h0:0<k,dN (key (l[k - 1]'(by omega))) (key l[k])<0):RisUp key q l (k+1):=kT h hk ⟨h1,h2,h3⟩
theorem RisUp.r {α:Type} {key:α→ByteArray} {q:α→Prop} {l:List α} {k:Nat} (h:RisUp key q l k) (hk:l.length≤k):cQ key l:=aSk fun j h0 hj=>(h j hj (by omega)).2.2 h0
theorem RisUp.n {α:Type} {key:α→ByteArray} {q:α→Prop} {l:List α} {k:Nat} (h:RisUp key q l k) (hk:l.length≤k):∀ x∈l,cT (key x)=true:=fun x hx=>by
  obtain ⟨j,hj,rfl⟩:=List.getElem_of_mem hx
  exact(h j hj (by omega)).1
theorem RisUp.q {α:Type} {key:α→ByteArray} {q:α→Prop} {l:List α} {k:Nat} (h:RisUp key q l k) (hk:l.length≤k):∀ x∈l,q x:=fun x hx=>by
  obtain ⟨j,hj,rfl⟩:=List.getElem_of_mem hx
  exact(h j hj (by omega)).2.1
end Go.Abs
set_option linter.unusedVariables false
namespace Go.Abs
open Go
theorem ty_ent {cs:List AV} (h:Ty (.agg [.str,.str,.int .i64,.int .i64]) cs):∃ e:En,cs=enC e∧(TS e.1.1∧TS e.1.2):=by
  simp only[Ty,TyL] at h
  obtain ⟨a,b,rfl,⟨w,rfl,hw⟩,a',b',rfl,⟨u,rfl,hu⟩,a2,b2,rfl,⟨n,rfl,_⟩,a3,b3,rfl,⟨m,rfl,_⟩,rfl⟩:=h
  exact⟨((w,u),(n,m)),rfl,Nat.le_trans hw (by decide),Nat.le_trans hu (by decide)⟩
theorem ty_ents {c:AV} (h:Ty (.sl 48 (.agg [.str,.str,.int .i64,.int .i64])) [c]):∃ l:List En,c=.sl 4 (l.map enC)∧l.length*48≤140737488351232∧∀ e∈l,TS e.1.1∧TS e.1.2:=by
  simp only[Ty] at h
  obtain ⟨xs,hx,_,hl,hxs⟩:=h
  obtain ⟨l,rfl,hr⟩:=uA enC (fun e=>TS e.1.1∧TS e.1.2) (d:=.agg [.str,.str,.int .i64,.int .i64]) (fun cs h=>ty_ent h) (xs:=xs) (fun x hx=>by simp only[Ty]; exact hxs x hx)
  simp only[List.cons.injEq,and_true] at hx
  exact⟨l,hx,by simpa using hl,hr⟩
end Go.Abs
set_option linter.unusedVariables false
set_option linter.unusedSimpArgs false
namespace Go.Abs
open Go
theorem aJ1 (n:Nat):SzS n mY:=⟨by simp [mY],by simp [mY],by simp [mY],by simp [mY],by simp [mY]⟩
theorem nowSz {n:Nat} {s:Sta} {t:Int} (h:SzS n s):SzS n { s with now:=t }:=⟨h.o,h.u,h.b,h.t,h.y⟩
theorem doesSz {n m:Nat} {s:Sta} {e:Ev} (hz:SzS n s) (hr:cQ cK s.usr) (he:bT e=true) (hm:n+48≤m):SzS m (bP s e).1:=by
  have z1:=hz.o
  have z2:=hz.u
  have z3:=hz.b
  have z4:=hz.t
  rcases tU he with ⟨hk,_⟩ | ⟨hk,_⟩ | ⟨hk,_⟩ | ⟨hk,_⟩ | ⟨hk,_⟩ | ⟨hk,_⟩ | ⟨hk,_⟩
  · rw[bP,if_pos hk]
    have:=aF6 s.opn ((e.n,e.user),(e.st,e.at'))
    exact⟨by show (mM s.opn ((e.n,e.user),(e.st,e.at'))).length*40≤m; omega,Nat.le_trans z2 (by omega),Nat.le_trans z3 (by omega),Nat.le_trans z4 (by omega),fun x hx=>Nat.le_trans (hz.y x hx) (by omega)⟩
  · rw[bP,if_neg (by omega),if_pos hk]
    have:=aGn s.opn e.n e.user e.st e.at'
    exact aWf (n:=n) (s:={ s with opn:=mT s.opn e.n e.user e.st e.at' }) (u:=e.user) (x:=stR s.opn e.n e.user e.at') ⟨by show (mT s.opn e.n e.user e.st e.at').length*40≤n; omega,z2,z3,z4,hz.y⟩ hr (by omega)
  · rw[bP,if_neg (by omega),if_neg (by omega),if_pos hk]
    have:=aGm s.opn e.n e.user
    exact aWf (n:=n) (s:={ s with opn:=mE s.opn e.n e.user }) (u:=e.user) (x:=stR s.opn e.n e.user e.at') ⟨by show (mE s.opn e.n e.user).length*40≤n; omega,z2,z3,z4,hz.y⟩ hr (by omega)
  · rw[bP,if_neg (by omega),if_neg (by omega),if_neg (by omega),if_pos hk]
    have:=aMx s.sub (e.user,e.other) e.at'
    exact⟨Nat.le_trans z1 (by omega),Nat.le_trans z2 (by omega),by show (if onB s.sub (e.user,e.other)=true then [] else iC s.sub (e.user,e.other) e.at').length*48≤m; omega,Nat.le_trans z4 (by omega),fun x hx=>Nat.le_trans (hz.y x hx) (by omega)⟩
  · rw[bP,if_neg (by omega),if_neg (by omega),if_neg (by omega),if_neg (by omega),if_pos hk]
    have:=aMw s.sub (e.user,e.other) e.at'
    exact⟨Nat.le_trans z1 (by omega),Nat.le_trans z2 (by omega),by show (if onB s.sub (e.user,e.other)=true then kA s.sub (e.user,e.other) e.at' else []).length*48≤m; omega,Nat.le_trans z4 (by omega),fun x hx=>Nat.le_trans (hz.y x hx) (by omega)⟩
  · rw[bP,if_neg (by omega),if_neg (by omega),if_neg (by omega),if_neg (by omega),if_neg (by omega),if_pos hk]
    exact⟨Nat.le_trans z1 (by omega),Nat.le_trans z2 (by omega),Nat.le_trans z3 (by omega),Nat.le_trans z4 (by omega),fun x hx=>Nat.le_trans (hz.y x hx) (by omega)⟩
  · rw[bP,if_neg (by omega),if_neg (by omega),if_neg (by omega),if_neg (by omega),if_neg (by omega),if_neg (by omega)]
    exact erSz hz hr (by omega)
theorem xU {n m:Nat} {s:Sta} {e:Ev} (hz:SzS n s) (hr:cQ cK s.usr) (hm:n+48≤m):SzS m (aR s e).1:=by
  unfold aR
  split
  · rename_i he
    split
    · exact aJ1 m
    · split
      · exact nowSz (doesSz hz hr he hm)
      · exact aJ1 m
  · exact aJ1 m
theorem aJ7 {n m:Nat} {s:Sta} (hz:SzS n s) (hr:cQ cK s.usr) (hm:n+40*s.opn.length≤m):SzS m (dI s):=by
  have h:=(aEi hz hr s.opn.length (Nat.le_refl _)).mono hm
  have e:lZ s s.opn.length={ s with usr:=oX s s.opn s.usr }:=by unfold lZ; rw[List.take_length]
  rw[e] at h
  exact⟨by simp [dI],h.u,h.b,h.t,h.y⟩
theorem uN {n:Nat} {s:Sta} (hz:SzS n s):SzS n (cF s):=by
  have z2:=hz.u
  have z3:=hz.b
  have h1:=uM s.hor s.usr
  have h2:=List.length_filter_le (rP s.hor) s.sub
  rw[kU]
  refine⟨hz.o,by show (eH s.hor s.usr).length*40≤n; omega,by show (s.sub.filter (rP s.hor)).length*48≤n; omega,hz.t,fun x hx=>?_⟩
  obtain ⟨y,hy,_,rfl⟩:=nK.1 hx
  have:=hz.y y hy
  have h3:=List.length_filter_le (fun x:bS=>!decide (x.1.2≤s.hor)) y.2
  show (fS s.hor y.2).length*32≤n
  unfold fS
  omega
theorem oP {s:Sta} (h:RightP s) (e:Ev):RightP (aR s e).1:=by
  by_cases h0:(aR s e).2=0
  · exact aNu h h0
  · have:(aR s e).1=mY:=by
      unfold aR at h0 ⊢
      split
      · rename_i he
        rw[if_pos he] at h0
        split
        · rfl
        · rename_i ht
          rw[if_neg ht] at h0
          split
          · rename_i h2; rw[if_pos h2] at h0; exact absurd rfl h0
          · rfl
      · rfl
    rw[this]; exact uE
theorem qL {s:Sta} (h:RightP s):s.opn.length≤16:=((kO _).1 h.opn).2
theorem ty_us {cs:List AV} (h:Ty (.agg [.str,.sl 32 (.agg [.int .i64,.int .i64,.int .i64,.int .i64])]) cs):∃ x:Us,cs=usC x∧TS x.1∧x.2.length*32≤140737488351232:=by
  simp only[Ty] at h
  rw[TyL] at h
  obtain ⟨x,y,rfl,h1,h2⟩:=h
  rw[TyL] at h2
  obtain ⟨z,w,rfl,h3,h4⟩:=h2
  have e1:=aJy h1
  have e2:=aJy h3
  simp only[TyL] at h4
  subst h4
  match x,e1,z,e2 with
  | [c],_,[d],_ =>
    obtain ⟨a,rfl,ha⟩:=aPx h1
    obtain ⟨l,rfl,hl⟩:=ty_sts h3
    exact⟨(a,l),rfl,Nat.le_trans ha (by omega),hl⟩
theorem ty_tm {cs:List AV} (h:Ty (.agg [.str,.int .i64]) cs):∃ x:Tm,cs=tmC x∧TS x.1:=by
  simp only[Ty,TyL] at h
  obtain ⟨a,b,rfl,⟨n,rfl,hn⟩,a',b',rfl,⟨m,rfl,_⟩,rfl⟩:=h
  exact⟨(n,m),rfl,Nat.le_trans hn (by omega)⟩
theorem ty_uss {c:AV} (h:Ty (.sl 40 (.agg [.str,.sl 32 (.agg [.int .i64,.int .i64,.int .i64,.int .i64])])) [c]):∃ l:List Us,c=.sl 2 (l.map usC)∧l.length*40≤140737488351232∧∀ x∈l,TS x.1∧x.2.length*32≤140737488351232:=by
  rw[Ty] at h
  obtain ⟨xs,hx,_,hl,hxs⟩:=h
  obtain ⟨l,rfl,hr⟩:=uA usC (fun x=>TS x.1∧x.2.length*32≤140737488351232) (d:=.agg [.str,.sl 32 (.agg [.int .i64,.int .i64,.int .i64,.int .i64])]) (fun cs h=>ty_us h) (xs:=xs) (fun x hx=>hxs x hx)
  simp only[List.cons.injEq,and_true] at hx
  exact⟨l,hx,by simpa using hl,hr⟩
theorem ty_tms {c:AV} (h:Ty (.sl 24 (.agg [.str,.int .i64])) [c]):∃ l:List Tm,c=.sl 2 (l.map tmC)∧l.length*24≤140737488351232∧∀ x∈l,TS x.1:=by
  rw[Ty] at h
  obtain ⟨xs,hx,_,hl,hxs⟩:=h
  obtain ⟨l,rfl,hr⟩:=uA tmC (fun x=>TS x.1) (d:=.agg [.str,.int .i64]) (fun cs h=>ty_tm h) (xs:=xs) (fun x hx=>hxs x hx)
  simp only[List.cons.injEq,and_true] at hx
  exact⟨l,hx,by simpa using hl,hr⟩
theorem xI {d:TD} {r:List TD} {cs:List AV} (hd:d.n=1) (h:TyL (d::r) cs):∃ c b,cs=c::b∧Ty d [c]∧TyL r b:=by
  rw[TyL] at h
  obtain ⟨a,b,rfl,h1,h2⟩:=h
  have e:=aJy h1
  rw[hd] at e
  match a,e with
  | [c],_=>exact⟨c,b,rfl,h1,h2⟩
theorem vL {cs:List AV} (h:Ty (.agg [.int .i64,.int .i64,.sl 40 (.agg [.int .i64,.str,.int .i64,.int .i64]),.sl 40 (.agg [.str,.sl 32 (.agg [.int .i64,.int .i64,.int .i64,.int .i64])]),.sl 48 (.agg [.str,.str,.int .i64,.int .i64]),.sl 24 (.agg [.str,.int .i64])]) cs):∃ s:Sta,cs=aO s∧SzS 140737488351232 s∧TsS s:=by
  rw[Ty] at h
  obtain ⟨c1,b1,rfl,h1,r1⟩:=xI rfl h
  obtain ⟨c2,b2,rfl,h2,r2⟩:=xI rfl r1
  obtain ⟨c3,b3,rfl,h3,r3⟩:=xI rfl r2
  obtain ⟨c4,b4,rfl,h4,r4⟩:=xI rfl r3
  obtain ⟨c5,b5,rfl,h5,r5⟩:=xI rfl r4
  obtain ⟨c6,b6,rfl,h6,r6⟩:=xI rfl r5
  rw[TyL] at r6
  subst r6
  obtain ⟨n,rfl,_⟩:=aJz h1
  obtain ⟨m,rfl,_⟩:=aJz h2
  obtain ⟨o,rfl,o1,o2⟩:=ty_ses h3
  obtain ⟨u,rfl,u1,u2⟩:=ty_uss h4
  obtain ⟨b,rfl,b1,b2⟩:=ty_ents h5
  obtain ⟨t,rfl,t1,t2⟩:=ty_tms h6
  exact⟨⟨n,m,o,u,b,t⟩,rfl,⟨o1,u1,b1,t1,fun x hx=>(u2 x hx).2⟩,⟨o2,fun x hx=>(u2 x hx).1,b2,t2⟩⟩
theorem aSg {cs:List AV} (h:Ty (.agg [.int .i64,.int .i64,.str,.str,.int .i64,.int .i64]) cs):∃ e:Ev,cs=evC e∧TS e.user∧TS e.other:=by
  simp only[Ty,TyL] at h
  obtain ⟨_,_,rfl,⟨k,rfl,_⟩,_,_,rfl,⟨t,rfl,_⟩,_,_,rfl,⟨u,rfl,hu⟩,_,_,rfl,⟨o,rfl,ho⟩,_,_,rfl,⟨n,rfl,_⟩,_,_,rfl,⟨x,rfl,_⟩,rfl⟩:=h
  exact⟨⟨k,t,u,o,n,x⟩,rfl,Nat.le_trans hu (by omega),Nat.le_trans ho (by omega)⟩
theorem ty_evs {c:AV} (h:Ty (.sl 64 (.agg [.int .i64,.int .i64,.str,.str,.int .i64,.int .i64])) [c]):∃ l:List Ev,c=.sl 6 (l.map evC)∧l.length*64≤140737488351232∧∀ e∈l,TS e.user∧TS e.other:=by
  rw[Ty] at h
  obtain ⟨xs,hx,_,hl,hxs⟩:=h
  obtain ⟨l,rfl,hr⟩:=uA evC (fun e=>TS e.user∧TS e.other) (d:=.agg [.int .i64,.int .i64,.str,.str,.int .i64,.int .i64]) (fun cs h=>aSg h) (xs:=xs) (fun x hx=>hxs x hx)
  simp only[List.cons.injEq,and_true] at hx
  exact⟨l,hx,by simpa using hl,hr⟩
def manyI (s:Sta):Int:=IntKind.i64.wrap (IntKind.i64.wrap ((tW s:Nat):Int)+(s.usr.length:Nat))
end Go.Abs
set_option linter.unusedVariables false
set_option linter.unusedSimpArgs false
namespace Go.Proofs.YtckjaledibkghaaGreat
open Go Go.Abs
theorem aTy (l:List Ev) (hl:l.length*64+64≤140737488355328) :Den Tryz.prog 21 [.sl 6 (l.map evC)]  (·=.sl 6 (l.map evC)):=by
 refine aS Tryz.func21 rfl (Nat.le_of_ble_eq_true rfl) (fun w0 A hf=>(aC (fun K1 hK1=>(aB (aG rfl (bQ) (aD (hK1 _ (aC (fun K2 hK2=>(aB (lD hf 6 rfl rfl rfl (aD (hK2 _ (aC (fun K3 hK3=>(aC (fun K4 hK4=>?_)))))))))))))))))
 refine aB (aE aA 3 rfl (aD (hK4 _ (aQ (bR (ι:=Nat) (fun k=>⟨18,[(3,.own 3 6 0 (l.take k).length),(6,.sl 6 (l.map evC)),(7,.s (.int .i64 ((l.map evC).length:Nat))),(8,.s (.int .i64 (k:Nat)))],[(3,.buf 6 ((l.take k).map evC))]⟩) (fun k=>k≤l.length) (fun k=>l.length - k) 0 ?_ ?_ ?_)))))
 · exact Nat.zero_le _
 · exact cN rfl
 ·
  rintro k hC
  refine aC (fun K5 hK5=>(aB (aE aA 1 rfl (aD (hK5 _ (aC (fun K6 hK6=>(aL rfl (fun hc1=>?_) (fun hc1=>?_)))))))))
  ·
   simp only[bs] at hc1
   refine aM (hK6 _ (aC (fun K7 hK7=>(aQ (aC (fun K8 hK8=>(aB ?_)))))))
   refine aG rfl (aY rfl rfl aPt aHd (by first | exact ixm (by omega) | assumption | exact⟨by decide,rfl⟩)) ?_
   refine aE aA 1 rfl (bV hf rfl aWj rfl aHd rfl rfl rfl rfl (lf rfl) (aD (hK8 _ (aB ?_))))
   have htl:(l.take k).length=k:=by rw[List.length_take]; omega
   refine aE aA 2 rfl (aJ hf rfl (bD aJq rfl rfl rfl rfl (l2 rfl)) (cA hf rfl aJq rfl rfl rfl (.inl rfl) (by rw[List.length_map]) rfl (by first | rfl | simp [eV,bU]) (by first | (simp only[maxLen,List.length_map,List.length_append,List.length_cons,List.length_nil]; omega) | (simp [maxLen] <;> omega)) (by first | (simp only[List.length_map,List.length_append,List.length_cons,List.length_nil]; omega) | (simp <;> omega)) ?_))
   refine bO (eR [6,7,8,15] rfl) (aE aA 1 rfl ?_)
   refine bK ?_
   refine hK7 _ (aB ?_)
   refine aG rfl (bN rfl rfl (by omega) (by omega)) ?_
   refine aE aA 1 rfl (aD ?_)
   exact⟨k+1,by omega,by omega,cJ ⟨(by rw[jO l k (by omega)]; rfl),rfl,rfl,rfl,trivial⟩ (by rw[kN l evC k (by omega)]; rfl)⟩
  ·
   simp only[bs] at hc1
   refine bB (hK3 _ (aC (fun K9 hK9=>(aB (aE aA 2 rfl (aD (hK9 _ (aI ?_))))))))
   refine⟨_,rfl,?_⟩
   refine(bX (g:=3) rfl (by rw[List.length_map])).trans ?_
   rw[List.take_of_length_le (by omega)]
theorem aTz (s:Sta) (hz:SzS 140737488353000 s) :Den Tryz.prog 15 [.agg (aO s)]  (·=.agg (aO s)):=by
 have z1:=hz.o
 have z2:=hz.u
 have z3:=hz.b
 have z4:=hz.t
 have hlm:(s.usr.map usC).length=s.usr.length:=List.length_map _
 have hlt:(s.tmb.map tmC).length=s.tmb.length:=List.length_map _
 refine aS Tryz.func15 rfl (Nat.le_of_ble_eq_true rfl) (fun w0 A hf=>(aC (fun K1 hK1=>(aB (aJ hf rfl (cI rfl rfl (lf rfl)) (aX hf rfl rfl rfl bA (aD (hK1 _ (aC (fun K2 hK2=>(dY bE ?_)))))))))))
 refine cE (listed':=#[true,false,false,false,false,false,false,false,false,false,false,false,false]) 0 rfl (by kernel_rfl) (by kernel_rfl) (by kernel_rfl) rfl (fun _ _ h=>h) (iQ rfl aDb bZ rfl) ?_
 refine cE (listed':=#[true,false,true,false,false,false,false,false,false,false,false,false,false]) 2 rfl (by kernel_rfl) (by kernel_rfl) (by kernel_rfl) rfl (fun _ _ h=>h) (iQ rfl sV bZ rfl) ?_
 refine cE (listed':=#[true,false,true,false,true,false,false,false,false,false,false,false,false]) 4 rfl (by kernel_rfl) (by kernel_rfl) (by kernel_rfl) rfl (fun _ _ h=>h) (iQ rfl aDa sF rfl) ?_
 refine cE (listed':=#[true,false,true,false,true,false,false,true,false,false,false,false,false]) 7 rfl (by kernel_rfl) (by kernel_rfl) (by kernel_rfl) rfl (fun _ _ h=>h) (iQ rfl wU sE rfl) ?_
 refine aN 0 #[true,true,true,true,true,true,true,true,true,true,true,true,true] ⟨53,[(1,.adr (aO s)),(2,.ref 2 0 0 0),(3,.ref 3 0 0 0)],[(3,.box [.s (.int .i64 s.now),.s (.int .i64 s.hor),.sl 4 (s.opn.map seC),.s (.slice none 0 0),.sl 4 (s.sub.map enC),.s (.slice none 0 0)]),(2,.box [.s (.int .i64 0),.s (.int .i64 0),.s (.slice none 0 0),.s (.slice none 0 0),.s (.slice none 0 0),.s (.slice none 0 0)])]⟩ ?_ (fun hD0=>?_)
 ·
  refine dF (by kernel_rfl) ?_
  refine hK2 _ (aC (fun K3 hK3=>(aC (fun K4 hK4=>(aB (sQ hf 3 223 2 5 rfl rfl rfl rfl ?_))))))
  refine sQ hf 3 222 2 3 rfl rfl rfl rfl ?_
  refine aE aA 4 rfl (aD (hK4 _ (aQ (bR (ι:=Nat) (fun k=>⟨53,[(1,.adr (aO s)),(2,.ref 2 0 0 0),(3,.ref 3 0 0 0),(20,.sl 2 (s.usr.map usC)),(21,.s (.int .i64 ((s.usr.map usC).length:Nat))),(22,.s (.int .i64 (k:Nat)))],[(222,.buf 2 ((s.usr.take k).map usC)),(223,.buf 2 []),(3,.box [.s (.int .i64 s.now),.s (.int .i64 s.hor),.sl 4 (s.opn.map seC),.own 222 2 0 (s.usr.take k).length,.sl 4 (s.sub.map enC),.own 223 2 0 0]),(2,.box [.s (.int .i64 0),.s (.int .i64 0),.s (.slice none 0 0),.s (.slice none 0 0),.s (.slice none 0 0),.s (.slice none 0 0)])]⟩) (fun k=>k≤s.usr.length) (fun k=>s.usr.length - k) 0 ?_ ?_ ?_))))
  · exact Nat.zero_le _
  · exact cJ ⟨rfl,rfl,rfl,rfl,rfl,rfl,trivial⟩ rfl
  ·
   rintro k hC
   refine aC (fun K5 hK5=>(aB (aE aA 1 rfl (aD (hK5 _ (aC (fun K6 hK6=>(aL rfl (fun hc1=>?_) (fun hc1=>?_)))))))))
   ·
    simp only[bs] at hc1
    refine aM (hK6 _ (aC (fun K7 hK7=>(aQ (aC (fun K8 hK8=>(aB ?_)))))))
    have hk:k<s.usr.length:=by omega
    have htl:(s.usr.take k).length=k:=by rw[List.length_take]; omega
    refine aG rfl (aY rfl rfl dW dO (by first | exact ixm (by omega) | assumption | exact⟨by decide,rfl⟩)) ?_
    refine aE aA 1 rfl (bV hf rfl pY rfl dO rfl rfl rfl rfl (lf rfl) (aD (hK8 _ (iE hf (L:=#[true,true,true,true,true,true,true,true,true,false,false,false]) 9 3 bE (by kernel_rfl) rfl (by kernel_rfl) rfl ?_))))
    refine aT aA 6 rfl (aZ [(31,_)] rfl rfl ⟨⟨rfl,rfl⟩,trivial⟩ rfl (aK rfl rfl aR5 rfl (aTx s.usr[k].2 (by have:=hz.y _ (List.getElem_mem hk); omega))) ?_)
    refine bL [(29,_),(32,_)] rfl rfl ⟨⟨rfl,rfl⟩,⟨rfl,rfl⟩,trivial⟩ rfl (cB rfl lO aB9 (l3 rfl) rfl) (aZ [(33,_)] rfl rfl ⟨⟨rfl,rfl⟩,trivial⟩ rfl (bD kX rfl rfl rfl rfl (l2 rfl)) (uP [1,2,3,20,21,22,27,34] rfl rfl rfl ?_))
    refine aH 9 [] (by kernel_rfl) ⟨?_,trivial⟩
    ·
     refine⟨_,rfl,rfl,(ao rfl (cA hf rfl kX rfl rfl rfl (.inl rfl) (by rw[List.length_map]) rfl (by first | rfl | simp [eV,bU]) (by first | (simp only[maxLen,List.length_map,List.length_append,List.length_cons,List.length_nil]; omega) | (simp [maxLen] <;> omega)) (by first | (simp only[List.length_map,List.length_append,List.length_cons,List.length_nil]; omega) | (simp <;> omega)) ?_))⟩
     refine bO (eR [1,2,3,20,21,22,35] rfl) (aF (aH 10 [] (by kernel_rfl) ⟨?_,trivial⟩))
     ·
      refine⟨_,rfl,rfl,(ao rfl (aE aA 1 rfl (aF (aH 11 [] (by kernel_rfl) ⟨?_,trivial⟩))))⟩
      ·
       refine⟨_,rfl,rfl,(ao rfl (aU hf rfl rfl oT rfl rfl (l1 rfl) (l4 rfl) rfl (aF (dF (by kernel_rfl) ?_))))⟩
       refine hK7 _ (aB ?_)
       refine aG rfl (bN rfl rfl (by omega) (by omega)) ?_
       refine aE aA 1 rfl (aD ?_)
       exact⟨k+1,by omega,by omega,cJ ⟨rfl,rfl,rfl,rfl,rfl,rfl,trivial⟩ (by rw[kN s.usr usC k hk,jO s.usr k hk]; rfl)⟩
   ·
    simp only[bs] at hc1
    refine bB (hK3 _ (aC (fun K9 hK9=>(aC (fun K10 hK10=>(aB (aE aA 4 rfl (aD (hK10 _ (aQ (bR (ι:=Nat) (fun q=>⟨53,[(2,.ref 2 0 0 0),(3,.ref 3 0 0 0),(39,.sl 2 (s.tmb.map tmC)),(40,.s (.int .i64 ((s.tmb.map tmC).length:Nat))),(41,.s (.int .i64 (q:Nat)))],[(223,.buf 2 ((s.tmb.take q).map tmC)),(222,.buf 2 (s.usr.map usC)),(3,.box [.s (.int .i64 s.now),.s (.int .i64 s.hor),.sl 4 (s.opn.map seC),.own 222 2 0 s.usr.length,.sl 4 (s.sub.map enC),.own 223 2 0 (s.tmb.take q).length]),(2,.box [.s (.int .i64 0),.s (.int .i64 0),.s (.slice none 0 0),.s (.slice none 0 0),.s (.slice none 0 0),.s (.slice none 0 0)])]⟩) (fun q=>q≤s.tmb.length) (fun q=>s.tmb.length - q) 0 ?_ ?_ ?_)))))))))))
    · exact Nat.zero_le _
    · exact aQl ⟨rfl,rfl,rfl,rfl,rfl,trivial⟩ (fun g=>by rw[List.take_of_length_le (show s.usr.length≤k by omega)]; exact aI4 (by decide))
    ·
     rintro q hC
     refine aC (fun K11 hK11=>(aB (aE aA 1 rfl (aD (hK11 _ (aC (fun K12 hK12=>(aL rfl (fun hc2=>?_) (fun hc2=>?_)))))))))
     ·
      simp only[bs] at hc2
      refine aM (hK12 _ (aC (fun K13 hK13=>(aQ (aC (fun K14 hK14=>(aB ?_)))))))
      have hq:q<s.tmb.length:=by omega
      have htl:(s.tmb.take q).length=q:=by rw[List.length_take]; omega
      refine aG rfl (aY rfl rfl jF gX (by first | exact ixm (by omega) | assumption | exact⟨by decide,rfl⟩)) ?_
      refine aE aA 1 rfl (bV hf rfl wR rfl gX rfl rfl rfl rfl (lf rfl) (aD (hK14 _ (aB (aE aA 3 rfl (aJ hf rfl (bD mI rfl rfl rfl rfl (l2 rfl)) (cA hf rfl mI rfl rfl rfl (.inl rfl) (by rw[List.length_map]) rfl (by first | rfl | simp [eV,bU]) (by first | (simp only[maxLen,List.length_map,List.length_append,List.length_cons,List.length_nil]; omega) | (simp [maxLen] <;> omega)) (by first | (simp only[List.length_map,List.length_append,List.length_cons,List.length_nil]; omega) | (simp <;> omega)) ?_)))))))
      refine bO (eR [2,3,39,40,41,49] rfl) (aE aA 1 rfl (aU hf rfl rfl sD rfl rfl (l1 rfl) (l4 rfl) rfl ?_))
      refine bK ?_
      refine hK13 _ (aB ?_)
      refine aG rfl (bN rfl rfl (by omega) (by omega)) ?_
      refine aE aA 1 rfl (aD ?_)
      exact⟨q+1,by omega,by omega,cJ ⟨rfl,rfl,rfl,rfl,rfl,trivial⟩ (by rw[kN s.tmb tmC q hq,jO s.tmb q hq]; rfl)⟩
     ·
      simp only[bs] at hc2
      refine bB (hK9 _ (aC (fun K15 hK15=>(aB (aG rfl (bW (cs':=[.s (.int .i64 s.now),.s (.int .i64 s.hor),.sl 4 (s.opn.map seC),.own 222 2 0 s.usr.length,.sl 4 (s.sub.map enC),.own 223 2 0 (s.tmb.take q).length]) rfl lQ cC rfl rfl rfl) (aU hf rfl rfl cC rfl rfl (l1 rfl) (l4 rfl) rfl (aD (hK15 _ (aI ?_)))))))))
      refine⟨_,rfl,?_⟩
      show AV.agg [_,_,_,AV.conv _ (.own 222 2 0 s.usr.length),_,AV.conv _ (.own 223 2 0 (s.tmb.take q).length)]=_
      rw[bX (g:=222) rfl (by rw[List.length_map]),bX (g:=223) rfl (by rw[List.length_map]),List.take_of_length_le (by omega)]; rfl
 refine aN 1 #[true,true,true,true,true,true,true,true,true,true,true,true,false] ⟨53,[(1,.adr (aO s)),(2,.ref 2 0 0 0),(3,.ref 3 0 0 0),(18,.agg [.s (.int .i64 s.now),.s (.int .i64 s.hor),.sl 4 (s.opn.map seC),.s (.slice none 0 0),.sl 4 (s.sub.map enC),.s (.slice none 0 0)])],[(3,.box [.s (.int .i64 0),.s (.int .i64 0),.s (.slice none 0 0),.s (.slice none 0 0),.s (.slice none 0 0),.s (.slice none 0 0)]),(2,.box [.s (.int .i64 0),.s (.int .i64 0),.s (.slice none 0 0),.s (.slice none 0 0),.s (.slice none 0 0),.s (.slice none 0 0)])]⟩ ?_ (fun hD1=>?_)
 ·
  refine aH 12 [] (by kernel_rfl) ⟨?_,trivial⟩
  ·
   refine⟨_,rfl,rfl,(ao rfl (aU hf rfl rfl cC rfl rfl (l1 rfl) (l4 rfl) rfl (aF (ag hD0 rfl rfl rfl))))⟩
 refine aN 2 #[true,true,true,true,true,true,true,true,true,true,true,false,false] ⟨53,[(1,.adr (aO s)),(2,.ref 2 0 0 0),(18,.agg [.s (.int .i64 s.now),.s (.int .i64 s.hor),.sl 4 (s.opn.map seC),.s (.slice none 0 0),.sl 4 (s.sub.map enC),.s (.slice none 0 0)])],[(2,.box [.s (.int .i64 0),.s (.int .i64 0),.s (.slice none 0 0),.s (.slice none 0 0),.s (.slice none 0 0),.s (.slice none 0 0)])]⟩ ?_ (fun hD2=>?_)
 ·
  refine aH 11 [] (by kernel_rfl) ⟨?_,trivial⟩
  ·
   refine⟨_,rfl,rfl,(ao rfl (aX hf rfl rfl rfl bA (aF (ag hD1 rfl rfl rfl))))⟩
 refine aN 2 #[true,true,true,true,true,true,true,true,true,true,false,true,false] ⟨53,[(1,.adr (aO s)),(2,.ref 2 0 0 0),(3,.ref 3 0 0 0),(9,.s (.int .i64 s.now)),(11,.s (.int .i64 s.hor)),(14,.sl 4 (s.opn.map seC)),(17,.sl 4 (s.sub.map enC))],[(3,.box [.s (.int .i64 0),.s (.int .i64 0),.s (.slice none 0 0),.s (.slice none 0 0),.s (.slice none 0 0),.s (.slice none 0 0)]),(2,.box [.s (.int .i64 0),.s (.int .i64 0),.s (.slice none 0 0),.s (.slice none 0 0),.s (.slice none 0 0),.s (.slice none 0 0)])]⟩ ?_ (fun hD3=>?_)
 ·
  refine aH 10 [] (by kernel_rfl) ⟨?_,trivial⟩
  ·
   refine⟨_,rfl,rfl,(ao rfl (aG rfl (cB rfl bA pF (l3 rfl) rfl) (aF (ag hD1 rfl rfl rfl))))⟩
 refine aN 3 #[true,true,true,true,true,true,true,true,true,true,false,false,false] ⟨53,[(1,.adr (aO s)),(2,.ref 2 0 0 0),(9,.s (.int .i64 s.now)),(11,.s (.int .i64 s.hor)),(14,.sl 4 (s.opn.map seC)),(17,.sl 4 (s.sub.map enC))],[(2,.box [.s (.int .i64 0),.s (.int .i64 0),.s (.slice none 0 0),.s (.slice none 0 0),.s (.slice none 0 0),.s (.slice none 0 0)])]⟩ ?_ (fun hD4=>?_)
 ·
  refine aH 10 [11] (by kernel_rfl) ⟨?_,?_,trivial⟩
  ·
   refine⟨_,rfl,rfl,(ao rfl (aG rfl (cB rfl bA pF (l3 rfl) rfl) (aF (ag hD2 rfl rfl rfl))))⟩
  ·
   refine⟨_,rfl,rfl,(ao rfl (aX hf rfl rfl rfl bA (aF (ag hD3 rfl rfl rfl))))⟩
 refine aN 3 #[true,true,true,true,true,true,true,true,true,false,false,true,false] ⟨53,[(1,.adr (aO s)),(2,.ref 2 0 0 0),(3,.ref 3 0 0 0),(9,.s (.int .i64 s.now)),(11,.s (.int .i64 s.hor)),(14,.sl 4 (s.opn.map seC)),(16,.sl 4 (s.sub.map enC))],[(3,.box [.s (.int .i64 0),.s (.int .i64 0),.s (.slice none 0 0),.s (.slice none 0 0),.s (.slice none 0 0),.s (.slice none 0 0)]),(2,.box [.s (.int .i64 0),.s (.int .i64 0),.s (.slice none 0 0),.s (.slice none 0 0),.s (.slice none 0 0),.s (.slice none 0 0)])]⟩ ?_ (fun hD5=>?_)
 ·
  refine aH 9 [] (by kernel_rfl) ⟨?_,trivial⟩
  ·
   refine⟨_,rfl,rfl,(ao rfl (aJ hf rfl (aK rfl rfl lT rfl (nO s.sub (by omega))) (aF (ag hD3 rfl rfl rfl))))⟩
 refine aN 3 #[true,true,true,false,true,true,true,true,true,true,false,true,false] ⟨53,[(1,.adr (aO s)),(2,.ref 2 0 0 0),(3,.ref 3 0 0 0),(9,.s (.int .i64 s.now)),(10,.adr ((aO s).drop 1)),(14,.sl 4 (s.opn.map seC)),(17,.sl 4 (s.sub.map enC))],[(3,.box [.s (.int .i64 0),.s (.int .i64 0),.s (.slice none 0 0),.s (.slice none 0 0),.s (.slice none 0 0),.s (.slice none 0 0)]),(2,.box [.s (.int .i64 0),.s (.int .i64 0),.s (.slice none 0 0),.s (.slice none 0 0),.s (.slice none 0 0),.s (.slice none 0 0)])]⟩ ?_ (fun hD6=>?_)
 ·
  refine aH 3 [] (by kernel_rfl) ⟨?_,trivial⟩
  ·
   refine⟨_,rfl,rfl,(ao rfl (aE aA 1 rfl (aF (ag hD3 rfl rfl rfl))))⟩
 refine aN 3 #[true,false,true,true,true,true,true,true,true,true,false,true,false] ⟨53,[(1,.adr (aO s)),(2,.ref 2 0 0 0),(3,.ref 3 0 0 0),(8,.adr ((aO s).drop 0)),(11,.s (.int .i64 s.hor)),(14,.sl 4 (s.opn.map seC)),(17,.sl 4 (s.sub.map enC))],[(3,.box [.s (.int .i64 0),.s (.int .i64 0),.s (.slice none 0 0),.s (.slice none 0 0),.s (.slice none 0 0),.s (.slice none 0 0)]),(2,.box [.s (.int .i64 0),.s (.int .i64 0),.s (.slice none 0 0),.s (.slice none 0 0),.s (.slice none 0 0),.s (.slice none 0 0)])]⟩ ?_ (fun hD7=>?_)
 ·
  refine aH 1 [] (by kernel_rfl) ⟨?_,trivial⟩
  ·
   refine⟨_,rfl,rfl,(ao rfl (aE aA 1 rfl (aF (ag hD3 rfl rfl rfl))))⟩
 refine aN 4 #[true,true,true,true,true,true,true,true,true,false,false,false,false] ⟨53,[(1,.adr (aO s)),(2,.ref 2 0 0 0),(9,.s (.int .i64 s.now)),(11,.s (.int .i64 s.hor)),(14,.sl 4 (s.opn.map seC)),(16,.sl 4 (s.sub.map enC))],[(2,.box [.s (.int .i64 0),.s (.int .i64 0),.s (.slice none 0 0),.s (.slice none 0 0),.s (.slice none 0 0),.s (.slice none 0 0)])]⟩ ?_ (fun hD8=>?_)
 ·
  refine aH 9 [11] (by kernel_rfl) ⟨?_,?_,trivial⟩
  ·
   refine⟨_,rfl,rfl,(ao rfl (aJ hf rfl (aK rfl rfl lT rfl (nO s.sub (by omega))) (aF (ag hD4 rfl rfl rfl))))⟩
  ·
   refine⟨_,rfl,rfl,(ao rfl (aX hf rfl rfl rfl bA (aF (ag hD5 rfl rfl rfl))))⟩
 refine aN 4 #[true,true,true,true,true,true,true,true,false,false,false,true,false] ⟨53,[(1,.adr (aO s)),(2,.ref 2 0 0 0),(3,.ref 3 0 0 0),(9,.s (.int .i64 s.now)),(11,.s (.int .i64 s.hor)),(14,.sl 4 (s.opn.map seC)),(15,.adr ((aO s).drop 4))],[(3,.box [.s (.int .i64 0),.s (.int .i64 0),.s (.slice none 0 0),.s (.slice none 0 0),.s (.slice none 0 0),.s (.slice none 0 0)]),(2,.box [.s (.int .i64 0),.s (.int .i64 0),.s (.slice none 0 0),.s (.slice none 0 0),.s (.slice none 0 0),.s (.slice none 0 0)])]⟩ ?_ (fun hD9=>?_)
 ·
  refine aH 8 [] (by kernel_rfl) ⟨?_,trivial⟩
  ·
   refine⟨_,rfl,rfl,(ao rfl (aE aA 1 rfl (aF (ag hD5 rfl rfl rfl))))⟩
 refine aN 4 #[true,true,true,true,true,true,false,true,true,false,false,true,false] ⟨53,[(1,.adr (aO s)),(2,.ref 2 0 0 0),(3,.ref 3 0 0 0),(9,.s (.int .i64 s.now)),(11,.s (.int .i64 s.hor)),(13,.sl 4 (s.opn.map seC)),(16,.sl 4 (s.sub.map enC))],[(3,.box [.s (.int .i64 0),.s (.int .i64 0),.s (.slice none 0 0),.s (.slice none 0 0),.s (.slice none 0 0),.s (.slice none 0 0)]),(2,.box [.s (.int .i64 0),.s (.int .i64 0),.s (.slice none 0 0),.s (.slice none 0 0),.s (.slice none 0 0),.s (.slice none 0 0)])]⟩ ?_ (fun hD10=>?_)
 ·
  refine aH 6 [] (by kernel_rfl) ⟨?_,trivial⟩
  ·
   refine⟨_,rfl,rfl,(ao rfl (aJ hf rfl (aK rfl rfl fI rfl (fF s.opn (by omega))) (aF (ag hD5 rfl rfl rfl))))⟩
 refine aN 4 #[true,true,true,false,true,true,true,true,true,true,false,false,false] ⟨53,[(1,.adr (aO s)),(2,.ref 2 0 0 0),(9,.s (.int .i64 s.now)),(10,.adr ((aO s).drop 1)),(14,.sl 4 (s.opn.map seC)),(17,.sl 4 (s.sub.map enC))],[(2,.box [.s (.int .i64 0),.s (.int .i64 0),.s (.slice none 0 0),.s (.slice none 0 0),.s (.slice none 0 0),.s (.slice none 0 0)])]⟩ ?_ (fun hD11=>?_)
 ·
  refine aH 3 [11] (by kernel_rfl) ⟨?_,?_,trivial⟩
  ·
   refine⟨_,rfl,rfl,(ao rfl (aE aA 1 rfl (aF (ag hD4 rfl rfl rfl))))⟩
  ·
   refine⟨_,rfl,rfl,(ao rfl (aX hf rfl rfl rfl bA (aF (ag hD6 rfl rfl rfl))))⟩
 refine aN 4 #[true,true,true,false,true,true,true,true,true,false,false,true,false] ⟨53,[(1,.adr (aO s)),(2,.ref 2 0 0 0),(3,.ref 3 0 0 0),(9,.s (.int .i64 s.now)),(10,.adr ((aO s).drop 1)),(14,.sl 4 (s.opn.map seC)),(16,.sl 4 (s.sub.map enC))],[(3,.box [.s (.int .i64 0),.s (.int .i64 0),.s (.slice none 0 0),.s (.slice none 0 0),.s (.slice none 0 0),.s (.slice none 0 0)]),(2,.box [.s (.int .i64 0),.s (.int .i64 0),.s (.slice none 0 0),.s (.slice none 0 0),.s (.slice none 0 0),.s (.slice none 0 0)])]⟩ ?_ (fun hD12=>?_)
 ·
  refine aH 3 [9] (by kernel_rfl) ⟨?_,?_,trivial⟩
  ·
   refine⟨_,rfl,rfl,(ao rfl (aE aA 1 rfl (aF (ag hD5 rfl rfl rfl))))⟩
  ·
   refine⟨_,rfl,rfl,(ao rfl (aJ hf rfl (aK rfl rfl lT rfl (nO s.sub (by omega))) (aF (ag hD6 rfl rfl rfl))))⟩
 refine aN 4 #[true,false,true,true,true,true,true,true,true,true,false,false,false] ⟨53,[(1,.adr (aO s)),(2,.ref 2 0 0 0),(8,.adr ((aO s).drop 0)),(11,.s (.int .i64 s.hor)),(14,.sl 4 (s.opn.map seC)),(17,.sl 4 (s.sub.map enC))],[(2,.box [.s (.int .i64 0),.s (.int .i64 0),.s (.slice none 0 0),.s (.slice none 0 0),.s (.slice none 0 0),.s (.slice none 0 0)])]⟩ ?_ (fun hD13=>?_)
 ·
  refine aH 1 [11] (by kernel_rfl) ⟨?_,?_,trivial⟩
  ·
   refine⟨_,rfl,rfl,(ao rfl (aE aA 1 rfl (aF (ag hD4 rfl rfl rfl))))⟩
  ·
   refine⟨_,rfl,rfl,(ao rfl (aX hf rfl rfl rfl bA (aF (ag hD7 rfl rfl rfl))))⟩
 refine aN 4 #[true,false,true,true,true,true,true,true,true,false,false,true,false] ⟨53,[(1,.adr (aO s)),(2,.ref 2 0 0 0),(3,.ref 3 0 0 0),(8,.adr ((aO s).drop 0)),(11,.s (.int .i64 s.hor)),(14,.sl 4 (s.opn.map seC)),(16,.sl 4 (s.sub.map enC))],[(3,.box [.s (.int .i64 0),.s (.int .i64 0),.s (.slice none 0 0),.s (.slice none 0 0),.s (.slice none 0 0),.s (.slice none 0 0)]),(2,.box [.s (.int .i64 0),.s (.int .i64 0),.s (.slice none 0 0),.s (.slice none 0 0),.s (.slice none 0 0),.s (.slice none 0 0)])]⟩ ?_ (fun hD14=>?_)
 ·
  refine aH 1 [9] (by kernel_rfl) ⟨?_,?_,trivial⟩
  ·
   refine⟨_,rfl,rfl,(ao rfl (aE aA 1 rfl (aF (ag hD5 rfl rfl rfl))))⟩
  ·
   refine⟨_,rfl,rfl,(ao rfl (aJ hf rfl (aK rfl rfl lT rfl (nO s.sub (by omega))) (aF (ag hD7 rfl rfl rfl))))⟩
 refine aN 4 #[true,false,true,false,true,true,true,true,true,true,false,true,false] ⟨53,[(1,.adr (aO s)),(2,.ref 2 0 0 0),(3,.ref 3 0 0 0),(8,.adr ((aO s).drop 0)),(10,.adr ((aO s).drop 1)),(14,.sl 4 (s.opn.map seC)),(17,.sl 4 (s.sub.map enC))],[(3,.box [.s (.int .i64 0),.s (.int .i64 0),.s (.slice none 0 0),.s (.slice none 0 0),.s (.slice none 0 0),.s (.slice none 0 0)]),(2,.box [.s (.int .i64 0),.s (.int .i64 0),.s (.slice none 0 0),.s (.slice none 0 0),.s (.slice none 0 0),.s (.slice none 0 0)])]⟩ ?_ (fun hD15=>?_)
 ·
  refine aH 1 [3] (by kernel_rfl) ⟨?_,?_,trivial⟩
  ·
   refine⟨_,rfl,rfl,(ao rfl (aE aA 1 rfl (aF (ag hD6 rfl rfl rfl))))⟩
  ·
   refine⟨_,rfl,rfl,(ao rfl (aE aA 1 rfl (aF (ag hD7 rfl rfl rfl))))⟩
 refine aN 5 #[true,true,true,true,true,true,true,true,false,false,false,false,false] ⟨53,[(1,.adr (aO s)),(2,.ref 2 0 0 0),(9,.s (.int .i64 s.now)),(11,.s (.int .i64 s.hor)),(14,.sl 4 (s.opn.map seC)),(15,.adr ((aO s).drop 4))],[(2,.box [.s (.int .i64 0),.s (.int .i64 0),.s (.slice none 0 0),.s (.slice none 0 0),.s (.slice none 0 0),.s (.slice none 0 0)])]⟩ ?_ (fun hD16=>?_)
 ·
  refine aH 8 [11] (by kernel_rfl) ⟨?_,?_,trivial⟩
  ·
   refine⟨_,rfl,rfl,(ao rfl (aE aA 1 rfl (aF (ag hD8 rfl rfl rfl))))⟩
  ·
   refine⟨_,rfl,rfl,(ao rfl (aX hf rfl rfl rfl bA (aF (ag hD9 rfl rfl rfl))))⟩
 refine aN 5 #[true,true,true,true,true,true,false,true,true,false,false,false,false] ⟨53,[(1,.adr (aO s)),(2,.ref 2 0 0 0),(9,.s (.int .i64 s.now)),(11,.s (.int .i64 s.hor)),(13,.sl 4 (s.opn.map seC)),(16,.sl 4 (s.sub.map enC))],[(2,.box [.s (.int .i64 0),.s (.int .i64 0),.s (.slice none 0 0),.s (.slice none 0 0),.s (.slice none 0 0),.s (.slice none 0 0)])]⟩ ?_ (fun hD17=>?_)
 ·
  refine aH 6 [11] (by kernel_rfl) ⟨?_,?_,trivial⟩
  ·
   refine⟨_,rfl,rfl,(ao rfl (aJ hf rfl (aK rfl rfl fI rfl (fF s.opn (by omega))) (aF (ag hD8 rfl rfl rfl))))⟩
  ·
   refine⟨_,rfl,rfl,(ao rfl (aX hf rfl rfl rfl bA (aF (ag hD10 rfl rfl rfl))))⟩
 refine aN 5 #[true,true,true,true,true,true,false,true,false,false,false,true,false] ⟨53,[(1,.adr (aO s)),(2,.ref 2 0 0 0),(3,.ref 3 0 0 0),(9,.s (.int .i64 s.now)),(11,.s (.int .i64 s.hor)),(13,.sl 4 (s.opn.map seC)),(15,.adr ((aO s).drop 4))],[(3,.box [.s (.int .i64 0),.s (.int .i64 0),.s (.slice none 0 0),.s (.slice none 0 0),.s (.slice none 0 0),.s (.slice none 0 0)]),(2,.box [.s (.int .i64 0),.s (.int .i64 0),.s (.slice none 0 0),.s (.slice none 0 0),.s (.slice none 0 0),.s (.slice none 0 0)])]⟩ ?_ (fun hD18=>?_)
 ·
  refine aH 6 [8] (by kernel_rfl) ⟨?_,?_,trivial⟩
  ·
   refine⟨_,rfl,rfl,(ao rfl (aJ hf rfl (aK rfl rfl fI rfl (fF s.opn (by omega))) (aF (ag hD9 rfl rfl rfl))))⟩
  ·
   refine⟨_,rfl,rfl,(ao rfl (aE aA 1 rfl (aF (ag hD10 rfl rfl rfl))))⟩
 refine aN 5 #[true,true,true,true,true,false,false,true,true,false,false,true,false] ⟨53,[(1,.adr (aO s)),(2,.ref 2 0 0 0),(3,.ref 3 0 0 0),(9,.s (.int .i64 s.now)),(11,.s (.int .i64 s.hor)),(12,.adr ((aO s).drop 2)),(16,.sl 4 (s.sub.map enC))],[(3,.box [.s (.int .i64 0),.s (.int .i64 0),.s (.slice none 0 0),.s (.slice none 0 0),.s (.slice none 0 0),.s (.slice none 0 0)]),(2,.box [.s (.int .i64 0),.s (.int .i64 0),.s (.slice none 0 0),.s (.slice none 0 0),.s (.slice none 0 0),.s (.slice none 0 0)])]⟩ ?_ (fun hD19=>?_)
 ·
  refine aH 5 [] (by kernel_rfl) ⟨?_,trivial⟩
  ·
   refine⟨_,rfl,rfl,(ao rfl (aE aA 1 rfl (aF (ag hD10 rfl rfl rfl))))⟩
 refine aN 5 #[true,true,true,false,true,true,true,true,true,false,false,false,false] ⟨53,[(1,.adr (aO s)),(2,.ref 2 0 0 0),(9,.s (.int .i64 s.now)),(10,.adr ((aO s).drop 1)),(14,.sl 4 (s.opn.map seC)),(16,.sl 4 (s.sub.map enC))],[(2,.box [.s (.int .i64 0),.s (.int .i64 0),.s (.slice none 0 0),.s (.slice none 0 0),.s (.slice none 0 0),.s (.slice none 0 0)])]⟩ ?_ (fun hD20=>?_)
 ·
  refine aH 3 [9,11] (by kernel_rfl) ⟨?_,?_,?_,trivial⟩
  ·
   refine⟨_,rfl,rfl,(ao rfl (aE aA 1 rfl (aF (ag hD8 rfl rfl rfl))))⟩
  ·
   refine⟨_,rfl,rfl,(ao rfl (aJ hf rfl (aK rfl rfl lT rfl (nO s.sub (by omega))) (aF (ag hD11 rfl rfl rfl))))⟩
  ·
   refine⟨_,rfl,rfl,(ao rfl (aX hf rfl rfl rfl bA (aF (ag hD12 rfl rfl rfl))))⟩
 refine aN 5 #[true,true,true,false,true,true,true,true,false,false,false,true,false] ⟨53,[(1,.adr (aO s)),(2,.ref 2 0 0 0),(3,.ref 3 0 0 0),(9,.s (.int .i64 s.now)),(10,.adr ((aO s).drop 1)),(14,.sl 4 (s.opn.map seC)),(15,.adr ((aO s).drop 4))],[(3,.box [.s (.int .i64 0),.s (.int .i64 0),.s (.slice none 0 0),.s (.slice none 0 0),.s (.slice none 0 0),.s (.slice none 0 0)]),(2,.box [.s (.int .i64 0),.s (.int .i64 0),.s (.slice none 0 0),.s (.slice none 0 0),.s (.slice none 0 0),.s (.slice none 0 0)])]⟩ ?_ (fun hD21=>?_)
 ·
  refine aH 3 [8] (by kernel_rfl) ⟨?_,?_,trivial⟩
  ·
   refine⟨_,rfl,rfl,(ao rfl (aE aA 1 rfl (aF (ag hD9 rfl rfl rfl))))⟩
  ·
   refine⟨_,rfl,rfl,(ao rfl (aE aA 1 rfl (aF (ag hD12 rfl rfl rfl))))⟩
 refine aN 5 #[true,true,true,false,true,true,false,true,true,false,false,true,false] ⟨53,[(1,.adr (aO s)),(2,.ref 2 0 0 0),(3,.ref 3 0 0 0),(9,.s (.int .i64 s.now)),(10,.adr ((aO s).drop 1)),(13,.sl 4 (s.opn.map seC)),(16,.sl 4 (s.sub.map enC))],[(3,.box [.s (.int .i64 0),.s (.int .i64 0),.s (.slice none 0 0),.s (.slice none 0 0),.s (.slice none 0 0),.s (.slice none 0 0)]),(2,.box [.s (.int .i64 0),.s (.int .i64 0),.s (.slice none 0 0),.s (.slice none 0 0),.s (.slice none 0 0),.s (.slice none 0 0)])]⟩ ?_ (fun hD22=>?_)
 ·
  refine aH 3 [6] (by kernel_rfl) ⟨?_,?_,trivial⟩
  ·
   refine⟨_,rfl,rfl,(ao rfl (aE aA 1 rfl (aF (ag hD10 rfl rfl rfl))))⟩
  ·
   refine⟨_,rfl,rfl,(ao rfl (aJ hf rfl (aK rfl rfl fI rfl (fF s.opn (by omega))) (aF (ag hD12 rfl rfl rfl))))⟩
 refine aN 5 #[true,false,true,true,true,true,true,true,true,false,false,false,false] ⟨53,[(1,.adr (aO s)),(2,.ref 2 0 0 0),(8,.adr ((aO s).drop 0)),(11,.s (.int .i64 s.hor)),(14,.sl 4 (s.opn.map seC)),(16,.sl 4 (s.sub.map enC))],[(2,.box [.s (.int .i64 0),.s (.int .i64 0),.s (.slice none 0 0),.s (.slice none 0 0),.s (.slice none 0 0),.s (.slice none 0 0)])]⟩ ?_ (fun hD23=>?_)
 ·
  refine aH 1 [9,11] (by kernel_rfl) ⟨?_,?_,?_,trivial⟩
  ·
   refine⟨_,rfl,rfl,(ao rfl (aE aA 1 rfl (aF (ag hD8 rfl rfl rfl))))⟩
  ·
   refine⟨_,rfl,rfl,(ao rfl (aJ hf rfl (aK rfl rfl lT rfl (nO s.sub (by omega))) (aF (ag hD13 rfl rfl rfl))))⟩
  ·
   refine⟨_,rfl,rfl,(ao rfl (aX hf rfl rfl rfl bA (aF (ag hD14 rfl rfl rfl))))⟩
 refine aN 5 #[true,false,true,true,true,true,true,true,false,false,false,true,false] ⟨53,[(1,.adr (aO s)),(2,.ref 2 0 0 0),(3,.ref 3 0 0 0),(8,.adr ((aO s).drop 0)),(11,.s (.int .i64 s.hor)),(14,.sl 4 (s.opn.map seC)),(15,.adr ((aO s).drop 4))],[(3,.box [.s (.int .i64 0),.s (.int .i64 0),.s (.slice none 0 0),.s (.slice none 0 0),.s (.slice none 0 0),.s (.slice none 0 0)]),(2,.box [.s (.int .i64 0),.s (.int .i64 0),.s (.slice none 0 0),.s (.slice none 0 0),.s (.slice none 0 0),.s (.slice none 0 0)])]⟩ ?_ (fun hD24=>?_)
 ·
  refine aH 1 [8] (by kernel_rfl) ⟨?_,?_,trivial⟩
  ·
   refine⟨_,rfl,rfl,(ao rfl (aE aA 1 rfl (aF (ag hD9 rfl rfl rfl))))⟩
  ·
   refine⟨_,rfl,rfl,(ao rfl (aE aA 1 rfl (aF (ag hD14 rfl rfl rfl))))⟩
 refine aN 5 #[true,false,true,true,true,true,false,true,true,false,false,true,false] ⟨53,[(1,.adr (aO s)),(2,.ref 2 0 0 0),(3,.ref 3 0 0 0),(8,.adr ((aO s).drop 0)),(11,.s (.int .i64 s.hor)),(13,.sl 4 (s.opn.map seC)),(16,.sl 4 (s.sub.map enC))],[(3,.box [.s (.int .i64 0),.s (.int .i64 0),.s (.slice none 0 0),.s (.slice none 0 0),.s (.slice none 0 0),.s (.slice none 0 0)]),(2,.box [.s (.int .i64 0),.s (.int .i64 0),.s (.slice none 0 0),.s (.slice none 0 0),.s (.slice none 0 0),.s (.slice none 0 0)])]⟩ ?_ (fun hD25=>?_)
 ·
  refine aH 1 [6] (by kernel_rfl) ⟨?_,?_,trivial⟩
  ·
   refine⟨_,rfl,rfl,(ao rfl (aE aA 1 rfl (aF (ag hD10 rfl rfl rfl))))⟩
  ·
   refine⟨_,rfl,rfl,(ao rfl (aJ hf rfl (aK rfl rfl fI rfl (fF s.opn (by omega))) (aF (ag hD14 rfl rfl rfl))))⟩
 refine aN 5 #[true,false,true,false,true,true,true,true,true,true,false,false,false] ⟨53,[(1,.adr (aO s)),(2,.ref 2 0 0 0),(8,.adr ((aO s).drop 0)),(10,.adr ((aO s).drop 1)),(14,.sl 4 (s.opn.map seC)),(17,.sl 4 (s.sub.map enC))],[(2,.box [.s (.int .i64 0),.s (.int .i64 0),.s (.slice none 0 0),.s (.slice none 0 0),.s (.slice none 0 0),.s (.slice none 0 0)])]⟩ ?_ (fun hD26=>?_)
 ·
  refine aH 1 [3,11] (by kernel_rfl) ⟨?_,?_,?_,trivial⟩
  ·
   refine⟨_,rfl,rfl,(ao rfl (aE aA 1 rfl (aF (ag hD11 rfl rfl rfl))))⟩
  ·
   refine⟨_,rfl,rfl,(ao rfl (aE aA 1 rfl (aF (ag hD13 rfl rfl rfl))))⟩
  ·
   refine⟨_,rfl,rfl,(ao rfl (aX hf rfl rfl rfl bA (aF (ag hD15 rfl rfl rfl))))⟩
 refine aN 5 #[true,false,true,false,true,true,true,true,true,false,false,true,false] ⟨53,[(1,.adr (aO s)),(2,.ref 2 0 0 0),(3,.ref 3 0 0 0),(8,.adr ((aO s).drop 0)),(10,.adr ((aO s).drop 1)),(14,.sl 4 (s.opn.map seC)),(16,.sl 4 (s.sub.map enC))],[(3,.box [.s (.int .i64 0),.s (.int .i64 0),.s (.slice none 0 0),.s (.slice none 0 0),.s (.slice none 0 0),.s (.slice none 0 0)]),(2,.box [.s (.int .i64 0),.s (.int .i64 0),.s (.slice none 0 0),.s (.slice none 0 0),.s (.slice none 0 0),.s (.slice none 0 0)])]⟩ ?_ (fun hD27=>?_)
 ·
  refine aH 1 [3,9] (by kernel_rfl) ⟨?_,?_,?_,trivial⟩
  ·
   refine⟨_,rfl,rfl,(ao rfl (aE aA 1 rfl (aF (ag hD12 rfl rfl rfl))))⟩
  ·
   refine⟨_,rfl,rfl,(ao rfl (aE aA 1 rfl (aF (ag hD14 rfl rfl rfl))))⟩
  ·
   refine⟨_,rfl,rfl,(ao rfl (aJ hf rfl (aK rfl rfl lT rfl (nO s.sub (by omega))) (aF (ag hD15 rfl rfl rfl))))⟩
 refine aN 6 #[true,true,true,true,true,true,false,true,false,false,false,false,false] ⟨53,[(1,.adr (aO s)),(2,.ref 2 0 0 0),(9,.s (.int .i64 s.now)),(11,.s (.int .i64 s.hor)),(13,.sl 4 (s.opn.map seC)),(15,.adr ((aO s).drop 4))],[(2,.box [.s (.int .i64 0),.s (.int .i64 0),.s (.slice none 0 0),.s (.slice none 0 0),.s (.slice none 0 0),.s (.slice none 0 0)])]⟩ ?_ (fun hD28=>?_)
 ·
  refine aH 6 [8,11] (by kernel_rfl) ⟨?_,?_,?_,trivial⟩
  ·
   refine⟨_,rfl,rfl,(ao rfl (aJ hf rfl (aK rfl rfl fI rfl (fF s.opn (by omega))) (aF (ag hD16 rfl rfl rfl))))⟩
  ·
   refine⟨_,rfl,rfl,(ao rfl (aE aA 1 rfl (aF (ag hD17 rfl rfl rfl))))⟩
  ·
   refine⟨_,rfl,rfl,(ao rfl (aX hf rfl rfl rfl bA (aF (ag hD18 rfl rfl rfl))))⟩
 refine aN 6 #[true,true,true,true,true,false,false,true,true,false,false,false,false] ⟨53,[(1,.adr (aO s)),(2,.ref 2 0 0 0),(9,.s (.int .i64 s.now)),(11,.s (.int .i64 s.hor)),(12,.adr ((aO s).drop 2)),(16,.sl 4 (s.sub.map enC))],[(2,.box [.s (.int .i64 0),.s (.int .i64 0),.s (.slice none 0 0),.s (.slice none 0 0),.s (.slice none 0 0),.s (.slice none 0 0)])]⟩ ?_ (fun hD29=>?_)
 ·
  refine aH 5 [11] (by kernel_rfl) ⟨?_,?_,trivial⟩
  ·
   refine⟨_,rfl,rfl,(ao rfl (aE aA 1 rfl (aF (ag hD17 rfl rfl rfl))))⟩
  ·
   refine⟨_,rfl,rfl,(ao rfl (aX hf rfl rfl rfl bA (aF (ag hD19 rfl rfl rfl))))⟩
 refine aN 6 #[true,true,true,true,true,false,false,true,false,false,false,true,false] ⟨53,[(1,.adr (aO s)),(2,.ref 2 0 0 0),(3,.ref 3 0 0 0),(9,.s (.int .i64 s.now)),(11,.s (.int .i64 s.hor)),(12,.adr ((aO s).drop 2)),(15,.adr ((aO s).drop 4))],[(3,.box [.s (.int .i64 0),.s (.int .i64 0),.s (.slice none 0 0),.s (.slice none 0 0),.s (.slice none 0 0),.s (.slice none 0 0)]),(2,.box [.s (.int .i64 0),.s (.int .i64 0),.s (.slice none 0 0),.s (.slice none 0 0),.s (.slice none 0 0),.s (.slice none 0 0)])]⟩ ?_ (fun hD30=>?_)
 ·
  refine aH 5 [8] (by kernel_rfl) ⟨?_,?_,trivial⟩
  ·
   refine⟨_,rfl,rfl,(ao rfl (aE aA 1 rfl (aF (ag hD18 rfl rfl rfl))))⟩
  ·
   refine⟨_,rfl,rfl,(ao rfl (aE aA 1 rfl (aF (ag hD19 rfl rfl rfl))))⟩
 refine aN 6 #[true,true,true,false,true,true,true,true,false,false,false,false,false] ⟨53,[(1,.adr (aO s)),(2,.ref 2 0 0 0),(9,.s (.int .i64 s.now)),(10,.adr ((aO s).drop 1)),(14,.sl 4 (s.opn.map seC)),(15,.adr ((aO s).drop 4))],[(2,.box [.s (.int .i64 0),.s (.int .i64 0),.s (.slice none 0 0),.s (.slice none 0 0),.s (.slice none 0 0),.s (.slice none 0 0)])]⟩ ?_ (fun hD31=>?_)
 ·
  refine aH 3 [8,11] (by kernel_rfl) ⟨?_,?_,?_,trivial⟩
  ·
   refine⟨_,rfl,rfl,(ao rfl (aE aA 1 rfl (aF (ag hD16 rfl rfl rfl))))⟩
  ·
   refine⟨_,rfl,rfl,(ao rfl (aE aA 1 rfl (aF (ag hD20 rfl rfl rfl))))⟩
  ·
   refine⟨_,rfl,rfl,(ao rfl (aX hf rfl rfl rfl bA (aF (ag hD21 rfl rfl rfl))))⟩
 refine aN 6 #[true,true,true,false,true,true,false,true,true,false,false,false,false] ⟨53,[(1,.adr (aO s)),(2,.ref 2 0 0 0),(9,.s (.int .i64 s.now)),(10,.adr ((aO s).drop 1)),(13,.sl 4 (s.opn.map seC)),(16,.sl 4 (s.sub.map enC))],[(2,.box [.s (.int .i64 0),.s (.int .i64 0),.s (.slice none 0 0),.s (.slice none 0 0),.s (.slice none 0 0),.s (.slice none 0 0)])]⟩ ?_ (fun hD32=>?_)
 ·
  refine aH 3 [6,11] (by kernel_rfl) ⟨?_,?_,?_,trivial⟩
  ·
   refine⟨_,rfl,rfl,(ao rfl (aE aA 1 rfl (aF (ag hD17 rfl rfl rfl))))⟩
  ·
   refine⟨_,rfl,rfl,(ao rfl (aJ hf rfl (aK rfl rfl fI rfl (fF s.opn (by omega))) (aF (ag hD20 rfl rfl rfl))))⟩
  ·
   refine⟨_,rfl,rfl,(ao rfl (aX hf rfl rfl rfl bA (aF (ag hD22 rfl rfl rfl))))⟩
 refine aN 6 #[true,true,true,false,true,true,false,true,false,false,false,true,false] ⟨53,[(1,.adr (aO s)),(2,.ref 2 0 0 0),(3,.ref 3 0 0 0),(9,.s (.int .i64 s.now)),(10,.adr ((aO s).drop 1)),(13,.sl 4 (s.opn.map seC)),(15,.adr ((aO s).drop 4))],[(3,.box [.s (.int .i64 0),.s (.int .i64 0),.s (.slice none 0 0),.s (.slice none 0 0),.s (.slice none 0 0),.s (.slice none 0 0)]),(2,.box [.s (.int .i64 0),.s (.int .i64 0),.s (.slice none 0 0),.s (.slice none 0 0),.s (.slice none 0 0),.s (.slice none 0 0)])]⟩ ?_ (fun hD33=>?_)
 ·
  refine aH 3 [6,8] (by kernel_rfl) ⟨?_,?_,?_,trivial⟩
  ·
   refine⟨_,rfl,rfl,(ao rfl (aE aA 1 rfl (aF (ag hD18 rfl rfl rfl))))⟩
  ·
   refine⟨_,rfl,rfl,(ao rfl (aJ hf rfl (aK rfl rfl fI rfl (fF s.opn (by omega))) (aF (ag hD21 rfl rfl rfl))))⟩
  ·
   refine⟨_,rfl,rfl,(ao rfl (aE aA 1 rfl (aF (ag hD22 rfl rfl rfl))))⟩
 refine aN 6 #[true,true,true,false,true,false,false,true,true,false,false,true,false] ⟨53,[(1,.adr (aO s)),(2,.ref 2 0 0 0),(3,.ref 3 0 0 0),(9,.s (.int .i64 s.now)),(10,.adr ((aO s).drop 1)),(12,.adr ((aO s).drop 2)),(16,.sl 4 (s.sub.map enC))],[(3,.box [.s (.int .i64 0),.s (.int .i64 0),.s (.slice none 0 0),.s (.slice none 0 0),.s (.slice none 0 0),.s (.slice none 0 0)]),(2,.box [.s (.int .i64 0),.s (.int .i64 0),.s (.slice none 0 0),.s (.slice none 0 0),.s (.slice none 0 0),.s (.slice none 0 0)])]⟩ ?_ (fun hD34=>?_)
 ·
  refine aH 3 [5] (by kernel_rfl) ⟨?_,?_,trivial⟩
  ·
   refine⟨_,rfl,rfl,(ao rfl (aE aA 1 rfl (aF (ag hD19 rfl rfl rfl))))⟩
  ·
   refine⟨_,rfl,rfl,(ao rfl (aE aA 1 rfl (aF (ag hD22 rfl rfl rfl))))⟩
 refine aN 6 #[true,false,true,true,true,true,true,true,false,false,false,false,false] ⟨53,[(1,.adr (aO s)),(2,.ref 2 0 0 0),(8,.adr ((aO s).drop 0)),(11,.s (.int .i64 s.hor)),(14,.sl 4 (s.opn.map seC)),(15,.adr ((aO s).drop 4))],[(2,.box [.s (.int .i64 0),.s (.int .i64 0),.s (.slice none 0 0),.s (.slice none 0 0),.s (.slice none 0 0),.s (.slice none 0 0)])]⟩ ?_ (fun hD35=>?_)
 ·
  refine aH 1 [8,11] (by kernel_rfl) ⟨?_,?_,?_,trivial⟩
  ·
   refine⟨_,rfl,rfl,(ao rfl (aE aA 1 rfl (aF (ag hD16 rfl rfl rfl))))⟩
  ·
   refine⟨_,rfl,rfl,(ao rfl (aE aA 1 rfl (aF (ag hD23 rfl rfl rfl))))⟩
  ·
   refine⟨_,rfl,rfl,(ao rfl (aX hf rfl rfl rfl bA (aF (ag hD24 rfl rfl rfl))))⟩
 refine aN 6 #[true,false,true,true,true,true,false,true,true,false,false,false,false] ⟨53,[(1,.adr (aO s)),(2,.ref 2 0 0 0),(8,.adr ((aO s).drop 0)),(11,.s (.int .i64 s.hor)),(13,.sl 4 (s.opn.map seC)),(16,.sl 4 (s.sub.map enC))],[(2,.box [.s (.int .i64 0),.s (.int .i64 0),.s (.slice none 0 0),.s (.slice none 0 0),.s (.slice none 0 0),.s (.slice none 0 0)])]⟩ ?_ (fun hD36=>?_)
 ·
  refine aH 1 [6,11] (by kernel_rfl) ⟨?_,?_,?_,trivial⟩
  ·
   refine⟨_,rfl,rfl,(ao rfl (aE aA 1 rfl (aF (ag hD17 rfl rfl rfl))))⟩
  ·
   refine⟨_,rfl,rfl,(ao rfl (aJ hf rfl (aK rfl rfl fI rfl (fF s.opn (by omega))) (aF (ag hD23 rfl rfl rfl))))⟩
  ·
   refine⟨_,rfl,rfl,(ao rfl (aX hf rfl rfl rfl bA (aF (ag hD25 rfl rfl rfl))))⟩
 refine aN 6 #[true,false,true,true,true,true,false,true,false,false,false,true,false] ⟨53,[(1,.adr (aO s)),(2,.ref 2 0 0 0),(3,.ref 3 0 0 0),(8,.adr ((aO s).drop 0)),(11,.s (.int .i64 s.hor)),(13,.sl 4 (s.opn.map seC)),(15,.adr ((aO s).drop 4))],[(3,.box [.s (.int .i64 0),.s (.int .i64 0),.s (.slice none 0 0),.s (.slice none 0 0),.s (.slice none 0 0),.s (.slice none 0 0)]),(2,.box [.s (.int .i64 0),.s (.int .i64 0),.s (.slice none 0 0),.s (.slice none 0 0),.s (.slice none 0 0),.s (.slice none 0 0)])]⟩ ?_ (fun hD37=>?_)
 ·
  refine aH 1 [6,8] (by kernel_rfl) ⟨?_,?_,?_,trivial⟩
  ·
   refine⟨_,rfl,rfl,(ao rfl (aE aA 1 rfl (aF (ag hD18 rfl rfl rfl))))⟩
  ·
   refine⟨_,rfl,rfl,(ao rfl (aJ hf rfl (aK rfl rfl fI rfl (fF s.opn (by omega))) (aF (ag hD24 rfl rfl rfl))))⟩
  ·
   refine⟨_,rfl,rfl,(ao rfl (aE aA 1 rfl (aF (ag hD25 rfl rfl rfl))))⟩
 refine aN 6 #[true,false,true,true,true,false,false,true,true,false,false,true,false] ⟨53,[(1,.adr (aO s)),(2,.ref 2 0 0 0),(3,.ref 3 0 0 0),(8,.adr ((aO s).drop 0)),(11,.s (.int .i64 s.hor)),(12,.adr ((aO s).drop 2)),(16,.sl 4 (s.sub.map enC))],[(3,.box [.s (.int .i64 0),.s (.int .i64 0),.s (.slice none 0 0),.s (.slice none 0 0),.s (.slice none 0 0),.s (.slice none 0 0)]),(2,.box [.s (.int .i64 0),.s (.int .i64 0),.s (.slice none 0 0),.s (.slice none 0 0),.s (.slice none 0 0),.s (.slice none 0 0)])]⟩ ?_ (fun hD38=>?_)
 ·
  refine aH 1 [5] (by kernel_rfl) ⟨?_,?_,trivial⟩
  ·
   refine⟨_,rfl,rfl,(ao rfl (aE aA 1 rfl (aF (ag hD19 rfl rfl rfl))))⟩
  ·
   refine⟨_,rfl,rfl,(ao rfl (aE aA 1 rfl (aF (ag hD25 rfl rfl rfl))))⟩
 refine aN 6 #[true,false,true,false,true,true,true,true,true,false,false,false,false] ⟨53,[(1,.adr (aO s)),(2,.ref 2 0 0 0),(8,.adr ((aO s).drop 0)),(10,.adr ((aO s).drop 1)),(14,.sl 4 (s.opn.map seC)),(16,.sl 4 (s.sub.map enC))],[(2,.box [.s (.int .i64 0),.s (.int .i64 0),.s (.slice none 0 0),.s (.slice none 0 0),.s (.slice none 0 0),.s (.slice none 0 0)])]⟩ ?_ (fun hD39=>?_)
 ·
  refine aH 1 [3,9,11] (by kernel_rfl) ⟨?_,?_,?_,?_,trivial⟩
  ·
   refine⟨_,rfl,rfl,(ao rfl (aE aA 1 rfl (aF (ag hD20 rfl rfl rfl))))⟩
  ·
   refine⟨_,rfl,rfl,(ao rfl (aE aA 1 rfl (aF (ag hD23 rfl rfl rfl))))⟩
  ·
   refine⟨_,rfl,rfl,(ao rfl (aJ hf rfl (aK rfl rfl lT rfl (nO s.sub (by omega))) (aF (ag hD26 rfl rfl rfl))))⟩
  ·
   refine⟨_,rfl,rfl,(ao rfl (aX hf rfl rfl rfl bA (aF (ag hD27 rfl rfl rfl))))⟩
 refine aN 6 #[true,false,true,false,true,true,true,true,false,false,false,true,false] ⟨53,[(1,.adr (aO s)),(2,.ref 2 0 0 0),(3,.ref 3 0 0 0),(8,.adr ((aO s).drop 0)),(10,.adr ((aO s).drop 1)),(14,.sl 4 (s.opn.map seC)),(15,.adr ((aO s).drop 4))],[(3,.box [.s (.int .i64 0),.s (.int .i64 0),.s (.slice none 0 0),.s (.slice none 0 0),.s (.slice none 0 0),.s (.slice none 0 0)]),(2,.box [.s (.int .i64 0),.s (.int .i64 0),.s (.slice none 0 0),.s (.slice none 0 0),.s (.slice none 0 0),.s (.slice none 0 0)])]⟩ ?_ (fun hD40=>?_)
 ·
  refine aH 1 [3,8] (by kernel_rfl) ⟨?_,?_,?_,trivial⟩
  ·
   refine⟨_,rfl,rfl,(ao rfl (aE aA 1 rfl (aF (ag hD21 rfl rfl rfl))))⟩
  ·
   refine⟨_,rfl,rfl,(ao rfl (aE aA 1 rfl (aF (ag hD24 rfl rfl rfl))))⟩
  ·
   refine⟨_,rfl,rfl,(ao rfl (aE aA 1 rfl (aF (ag hD27 rfl rfl rfl))))⟩
 refine aN 6 #[true,false,true,false,true,true,false,true,true,false,false,true,false] ⟨53,[(1,.adr (aO s)),(2,.ref 2 0 0 0),(3,.ref 3 0 0 0),(8,.adr ((aO s).drop 0)),(10,.adr ((aO s).drop 1)),(13,.sl 4 (s.opn.map seC)),(16,.sl 4 (s.sub.map enC))],[(3,.box [.s (.int .i64 0),.s (.int .i64 0),.s (.slice none 0 0),.s (.slice none 0 0),.s (.slice none 0 0),.s (.slice none 0 0)]),(2,.box [.s (.int .i64 0),.s (.int .i64 0),.s (.slice none 0 0),.s (.slice none 0 0),.s (.slice none 0 0),.s (.slice none 0 0)])]⟩ ?_ (fun hD41=>?_)
 ·
  refine aH 1 [3,6] (by kernel_rfl) ⟨?_,?_,?_,trivial⟩
  ·
   refine⟨_,rfl,rfl,(ao rfl (aE aA 1 rfl (aF (ag hD22 rfl rfl rfl))))⟩
  ·
   refine⟨_,rfl,rfl,(ao rfl (aE aA 1 rfl (aF (ag hD25 rfl rfl rfl))))⟩
  ·
   refine⟨_,rfl,rfl,(ao rfl (aJ hf rfl (aK rfl rfl fI rfl (fF s.opn (by omega))) (aF (ag hD27 rfl rfl rfl))))⟩
 refine aN 7 #[true,true,true,true,true,false,false,true,false,false,false,false,false] ⟨53,[(1,.adr (aO s)),(2,.ref 2 0 0 0),(9,.s (.int .i64 s.now)),(11,.s (.int .i64 s.hor)),(12,.adr ((aO s).drop 2)),(15,.adr ((aO s).drop 4))],[(2,.box [.s (.int .i64 0),.s (.int .i64 0),.s (.slice none 0 0),.s (.slice none 0 0),.s (.slice none 0 0),.s (.slice none 0 0)])]⟩ ?_ (fun hD42=>?_)
 ·
  refine aH 5 [8,11] (by kernel_rfl) ⟨?_,?_,?_,trivial⟩
  ·
   refine⟨_,rfl,rfl,(ao rfl (aE aA 1 rfl (aF (ag hD28 rfl rfl rfl))))⟩
  ·
   refine⟨_,rfl,rfl,(ao rfl (aE aA 1 rfl (aF (ag hD29 rfl rfl rfl))))⟩
  ·
   refine⟨_,rfl,rfl,(ao rfl (aX hf rfl rfl rfl bA (aF (ag hD30 rfl rfl rfl))))⟩
 refine aN 7 #[true,true,true,false,true,true,false,true,false,false,false,false,false] ⟨53,[(1,.adr (aO s)),(2,.ref 2 0 0 0),(9,.s (.int .i64 s.now)),(10,.adr ((aO s).drop 1)),(13,.sl 4 (s.opn.map seC)),(15,.adr ((aO s).drop 4))],[(2,.box [.s (.int .i64 0),.s (.int .i64 0),.s (.slice none 0 0),.s (.slice none 0 0),.s (.slice none 0 0),.s (.slice none 0 0)])]⟩ ?_ (fun hD43=>?_)
 ·
  refine aH 3 [6,8,11] (by kernel_rfl) ⟨?_,?_,?_,?_,trivial⟩
  ·
   refine⟨_,rfl,rfl,(ao rfl (aE aA 1 rfl (aF (ag hD28 rfl rfl rfl))))⟩
  ·
   refine⟨_,rfl,rfl,(ao rfl (aJ hf rfl (aK rfl rfl fI rfl (fF s.opn (by omega))) (aF (ag hD31 rfl rfl rfl))))⟩
  ·
   refine⟨_,rfl,rfl,(ao rfl (aE aA 1 rfl (aF (ag hD32 rfl rfl rfl))))⟩
  ·
   refine⟨_,rfl,rfl,(ao rfl (aX hf rfl rfl rfl bA (aF (ag hD33 rfl rfl rfl))))⟩
 refine aN 7 #[true,true,true,false,true,false,false,true,true,false,false,false,false] ⟨53,[(1,.adr (aO s)),(2,.ref 2 0 0 0),(9,.s (.int .i64 s.now)),(10,.adr ((aO s).drop 1)),(12,.adr ((aO s).drop 2)),(16,.sl 4 (s.sub.map enC))],[(2,.box [.s (.int .i64 0),.s (.int .i64 0),.s (.slice none 0 0),.s (.slice none 0 0),.s (.slice none 0 0),.s (.slice none 0 0)])]⟩ ?_ (fun hD44=>?_)
 ·
  refine aH 3 [5,11] (by kernel_rfl) ⟨?_,?_,?_,trivial⟩
  ·
   refine⟨_,rfl,rfl,(ao rfl (aE aA 1 rfl (aF (ag hD29 rfl rfl rfl))))⟩
  ·
   refine⟨_,rfl,rfl,(ao rfl (aE aA 1 rfl (aF (ag hD32 rfl rfl rfl))))⟩
  ·
   refine⟨_,rfl,rfl,(ao rfl (aX hf rfl rfl rfl bA (aF (ag hD34 rfl rfl rfl))))⟩
 refine aN 7 #[true,true,true,false,true,false,false,true,false,false,false,true,false] ⟨53,[(1,.adr (aO s)),(2,.ref 2 0 0 0),(3,.ref 3 0 0 0),(9,.s (.int .i64 s.now)),(10,.adr ((aO s).drop 1)),(12,.adr ((aO s).drop 2)),(15,.adr ((aO s).drop 4))],[(3,.box [.s (.int .i64 0),.s (.int .i64 0),.s (.slice none 0 0),.s (.slice none 0 0),.s (.slice none 0 0),.s (.slice none 0 0)]),(2,.box [.s (.int .i64 0),.s (.int .i64 0),.s (.slice none 0 0),.s (.slice none 0 0),.s (.slice none 0 0),.s (.slice none 0 0)])]⟩ ?_ (fun hD45=>?_)
 ·
  refine aH 3 [5,8] (by kernel_rfl) ⟨?_,?_,?_,trivial⟩
  ·
   refine⟨_,rfl,rfl,(ao rfl (aE aA 1 rfl (aF (ag hD30 rfl rfl rfl))))⟩
  ·
   refine⟨_,rfl,rfl,(ao rfl (aE aA 1 rfl (aF (ag hD33 rfl rfl rfl))))⟩
  ·
   refine⟨_,rfl,rfl,(ao rfl (aE aA 1 rfl (aF (ag hD34 rfl rfl rfl))))⟩
 refine aN 7 #[true,false,true,true,true,true,false,true,false,false,false,false,false] ⟨53,[(1,.adr (aO s)),(2,.ref 2 0 0 0),(8,.adr ((aO s).drop 0)),(11,.s (.int .i64 s.hor)),(13,.sl 4 (s.opn.map seC)),(15,.adr ((aO s).drop 4))],[(2,.box [.s (.int .i64 0),.s (.int .i64 0),.s (.slice none 0 0),.s (.slice none 0 0),.s (.slice none 0 0),.s (.slice none 0 0)])]⟩ ?_ (fun hD46=>?_)
 ·
  refine aH 1 [6,8,11] (by kernel_rfl) ⟨?_,?_,?_,?_,trivial⟩
  ·
   refine⟨_,rfl,rfl,(ao rfl (aE aA 1 rfl (aF (ag hD28 rfl rfl rfl))))⟩
  ·
   refine⟨_,rfl,rfl,(ao rfl (aJ hf rfl (aK rfl rfl fI rfl (fF s.opn (by omega))) (aF (ag hD35 rfl rfl rfl))))⟩
  ·
   refine⟨_,rfl,rfl,(ao rfl (aE aA 1 rfl (aF (ag hD36 rfl rfl rfl))))⟩
  ·
   refine⟨_,rfl,rfl,(ao rfl (aX hf rfl rfl rfl bA (aF (ag hD37 rfl rfl rfl))))⟩
 refine aN 7 #[true,false,true,true,true,false,false,true,true,false,false,false,false] ⟨53,[(1,.adr (aO s)),(2,.ref 2 0 0 0),(8,.adr ((aO s).drop 0)),(11,.s (.int .i64 s.hor)),(12,.adr ((aO s).drop 2)),(16,.sl 4 (s.sub.map enC))],[(2,.box [.s (.int .i64 0),.s (.int .i64 0),.s (.slice none 0 0),.s (.slice none 0 0),.s (.slice none 0 0),.s (.slice none 0 0)])]⟩ ?_ (fun hD47=>?_)
 ·
  refine aH 1 [5,11] (by kernel_rfl) ⟨?_,?_,?_,trivial⟩
  ·
   refine⟨_,rfl,rfl,(ao rfl (aE aA 1 rfl (aF (ag hD29 rfl rfl rfl))))⟩
  ·
   refine⟨_,rfl,rfl,(ao rfl (aE aA 1 rfl (aF (ag hD36 rfl rfl rfl))))⟩
  ·
   refine⟨_,rfl,rfl,(ao rfl (aX hf rfl rfl rfl bA (aF (ag hD38 rfl rfl rfl))))⟩
 refine aN 7 #[true,false,true,true,true,false,false,true,false,false,false,true,false] ⟨53,[(1,.adr (aO s)),(2,.ref 2 0 0 0),(3,.ref 3 0 0 0),(8,.adr ((aO s).drop 0)),(11,.s (.int .i64 s.hor)),(12,.adr ((aO s).drop 2)),(15,.adr ((aO s).drop 4))],[(3,.box [.s (.int .i64 0),.s (.int .i64 0),.s (.slice none 0 0),.s (.slice none 0 0),.s (.slice none 0 0),.s (.slice none 0 0)]),(2,.box [.s (.int .i64 0),.s (.int .i64 0),.s (.slice none 0 0),.s (.slice none 0 0),.s (.slice none 0 0),.s (.slice none 0 0)])]⟩ ?_ (fun hD48=>?_)
 ·
  refine aH 1 [5,8] (by kernel_rfl) ⟨?_,?_,?_,trivial⟩
  ·
   refine⟨_,rfl,rfl,(ao rfl (aE aA 1 rfl (aF (ag hD30 rfl rfl rfl))))⟩
  ·
   refine⟨_,rfl,rfl,(ao rfl (aE aA 1 rfl (aF (ag hD37 rfl rfl rfl))))⟩
  ·
   refine⟨_,rfl,rfl,(ao rfl (aE aA 1 rfl (aF (ag hD38 rfl rfl rfl))))⟩
 refine aN 7 #[true,false,true,false,true,true,true,true,false,false,false,false,false] ⟨53,[(1,.adr (aO s)),(2,.ref 2 0 0 0),(8,.adr ((aO s).drop 0)),(10,.adr ((aO s).drop 1)),(14,.sl 4 (s.opn.map seC)),(15,.adr ((aO s).drop 4))],[(2,.box [.s (.int .i64 0),.s (.int .i64 0),.s (.slice none 0 0),.s (.slice none 0 0),.s (.slice none 0 0),.s (.slice none 0 0)])]⟩ ?_ (fun hD49=>?_)
 ·
  refine aH 1 [3,8,11] (by kernel_rfl) ⟨?_,?_,?_,?_,trivial⟩
  ·
   refine⟨_,rfl,rfl,(ao rfl (aE aA 1 rfl (aF (ag hD31 rfl rfl rfl))))⟩
  ·
   refine⟨_,rfl,rfl,(ao rfl (aE aA 1 rfl (aF (ag hD35 rfl rfl rfl))))⟩
  ·
   refine⟨_,rfl,rfl,(ao rfl (aE aA 1 rfl (aF (ag hD39 rfl rfl rfl))))⟩
  ·
   refine⟨_,rfl,rfl,(ao rfl (aX hf rfl rfl rfl bA (aF (ag hD40 rfl rfl rfl))))⟩
 refine aN 7 #[true,false,true,false,true,true,false,true,true,false,false,false,false] ⟨53,[(1,.adr (aO s)),(2,.ref 2 0 0 0),(8,.adr ((aO s).drop 0)),(10,.adr ((aO s).drop 1)),(13,.sl 4 (s.opn.map seC)),(16,.sl 4 (s.sub.map enC))],[(2,.box [.s (.int .i64 0),.s (.int .i64 0),.s (.slice none 0 0),.s (.slice none 0 0),.s (.slice none 0 0),.s (.slice none 0 0)])]⟩ ?_ (fun hD50=>?_)
 ·
  refine aH 1 [3,6,11] (by kernel_rfl) ⟨?_,?_,?_,?_,trivial⟩
  ·
   refine⟨_,rfl,rfl,(ao rfl (aE aA 1 rfl (aF (ag hD32 rfl rfl rfl))))⟩
  ·
   refine⟨_,rfl,rfl,(ao rfl (aE aA 1 rfl (aF (ag hD36 rfl rfl rfl))))⟩
  ·
   refine⟨_,rfl,rfl,(ao rfl (aJ hf rfl (aK rfl rfl fI rfl (fF s.opn (by omega))) (aF (ag hD39 rfl rfl rfl))))⟩
  ·
   refine⟨_,rfl,rfl,(ao rfl (aX hf rfl rfl rfl bA (aF (ag hD41 rfl rfl rfl))))⟩
 refine aN 7 #[true,false,true,false,true,true,false,true,false,false,false,true,false] ⟨53,[(1,.adr (aO s)),(2,.ref 2 0 0 0),(3,.ref 3 0 0 0),(8,.adr ((aO s).drop 0)),(10,.adr ((aO s).drop 1)),(13,.sl 4 (s.opn.map seC)),(15,.adr ((aO s).drop 4))],[(3,.box [.s (.int .i64 0),.s (.int .i64 0),.s (.slice none 0 0),.s (.slice none 0 0),.s (.slice none 0 0),.s (.slice none 0 0)]),(2,.box [.s (.int .i64 0),.s (.int .i64 0),.s (.slice none 0 0),.s (.slice none 0 0),.s (.slice none 0 0),.s (.slice none 0 0)])]⟩ ?_ (fun hD51=>?_)
 ·
  refine aH 1 [3,6,8] (by kernel_rfl) ⟨?_,?_,?_,?_,trivial⟩
  ·
   refine⟨_,rfl,rfl,(ao rfl (aE aA 1 rfl (aF (ag hD33 rfl rfl rfl))))⟩
  ·
   refine⟨_,rfl,rfl,(ao rfl (aE aA 1 rfl (aF (ag hD37 rfl rfl rfl))))⟩
  ·
   refine⟨_,rfl,rfl,(ao rfl (aJ hf rfl (aK rfl rfl fI rfl (fF s.opn (by omega))) (aF (ag hD40 rfl rfl rfl))))⟩
  ·
   refine⟨_,rfl,rfl,(ao rfl (aE aA 1 rfl (aF (ag hD41 rfl rfl rfl))))⟩
 refine aN 7 #[true,false,true,false,true,false,false,true,true,false,false,true,false] ⟨53,[(1,.adr (aO s)),(2,.ref 2 0 0 0),(3,.ref 3 0 0 0),(8,.adr ((aO s).drop 0)),(10,.adr ((aO s).drop 1)),(12,.adr ((aO s).drop 2)),(16,.sl 4 (s.sub.map enC))],[(3,.box [.s (.int .i64 0),.s (.int .i64 0),.s (.slice none 0 0),.s (.slice none 0 0),.s (.slice none 0 0),.s (.slice none 0 0)]),(2,.box [.s (.int .i64 0),.s (.int .i64 0),.s (.slice none 0 0),.s (.slice none 0 0),.s (.slice none 0 0),.s (.slice none 0 0)])]⟩ ?_ (fun hD52=>?_)
 ·
  refine aH 1 [3,5] (by kernel_rfl) ⟨?_,?_,?_,trivial⟩
  ·
   refine⟨_,rfl,rfl,(ao rfl (aE aA 1 rfl (aF (ag hD34 rfl rfl rfl))))⟩
  ·
   refine⟨_,rfl,rfl,(ao rfl (aE aA 1 rfl (aF (ag hD38 rfl rfl rfl))))⟩
  ·
   refine⟨_,rfl,rfl,(ao rfl (aE aA 1 rfl (aF (ag hD41 rfl rfl rfl))))⟩
 refine aN 8 #[true,true,true,false,true,false,false,true,false,false,false,false,false] ⟨53,[(1,.adr (aO s)),(2,.ref 2 0 0 0),(9,.s (.int .i64 s.now)),(10,.adr ((aO s).drop 1)),(12,.adr ((aO s).drop 2)),(15,.adr ((aO s).drop 4))],[(2,.box [.s (.int .i64 0),.s (.int .i64 0),.s (.slice none 0 0),.s (.slice none 0 0),.s (.slice none 0 0),.s (.slice none 0 0)])]⟩ ?_ (fun hD53=>?_)
 ·
  refine aH 3 [5,8,11] (by kernel_rfl) ⟨?_,?_,?_,?_,trivial⟩
  ·
   refine⟨_,rfl,rfl,(ao rfl (aE aA 1 rfl (aF (ag hD42 rfl rfl rfl))))⟩
  ·
   refine⟨_,rfl,rfl,(ao rfl (aE aA 1 rfl (aF (ag hD43 rfl rfl rfl))))⟩
  ·
   refine⟨_,rfl,rfl,(ao rfl (aE aA 1 rfl (aF (ag hD44 rfl rfl rfl))))⟩
  ·
   refine⟨_,rfl,rfl,(ao rfl (aX hf rfl rfl rfl bA (aF (ag hD45 rfl rfl rfl))))⟩
 refine aN 8 #[true,false,true,true,true,false,false,true,false,false,false,false,false] ⟨53,[(1,.adr (aO s)),(2,.ref 2 0 0 0),(8,.adr ((aO s).drop 0)),(11,.s (.int .i64 s.hor)),(12,.adr ((aO s).drop 2)),(15,.adr ((aO s).drop 4))],[(2,.box [.s (.int .i64 0),.s (.int .i64 0),.s (.slice none 0 0),.s (.slice none 0 0),.s (.slice none 0 0),.s (.slice none 0 0)])]⟩ ?_ (fun hD54=>?_)
 ·
  refine aH 1 [5,8,11] (by kernel_rfl) ⟨?_,?_,?_,?_,trivial⟩
  ·
   refine⟨_,rfl,rfl,(ao rfl (aE aA 1 rfl (aF (ag hD42 rfl rfl rfl))))⟩
  ·
   refine⟨_,rfl,rfl,(ao rfl (aE aA 1 rfl (aF (ag hD46 rfl rfl rfl))))⟩
  ·
   refine⟨_,rfl,rfl,(ao rfl (aE aA 1 rfl (aF (ag hD47 rfl rfl rfl))))⟩
  ·
   refine⟨_,rfl,rfl,(ao rfl (aX hf rfl rfl rfl bA (aF (ag hD48 rfl rfl rfl))))⟩
 refine aN 8 #[true,false,true,false,true,true,false,true,false,false,false,false,false] ⟨53,[(1,.adr (aO s)),(2,.ref 2 0 0 0),(8,.adr ((aO s).drop 0)),(10,.adr ((aO s).drop 1)),(13,.sl 4 (s.opn.map seC)),(15,.adr ((aO s).drop 4))],[(2,.box [.s (.int .i64 0),.s (.int .i64 0),.s (.slice none 0 0),.s (.slice none 0 0),.s (.slice none 0 0),.s (.slice none 0 0)])]⟩ ?_ (fun hD55=>?_)
 ·
  refine aH 1 [3,6,8,11] (by kernel_rfl) ⟨?_,?_,?_,?_,?_,trivial⟩
  ·
   refine⟨_,rfl,rfl,(ao rfl (aE aA 1 rfl (aF (ag hD43 rfl rfl rfl))))⟩
  ·
   refine⟨_,rfl,rfl,(ao rfl (aE aA 1 rfl (aF (ag hD46 rfl rfl rfl))))⟩
  ·
   refine⟨_,rfl,rfl,(ao rfl (aJ hf rfl (aK rfl rfl fI rfl (fF s.opn (by omega))) (aF (ag hD49 rfl rfl rfl))))⟩
  ·
   refine⟨_,rfl,rfl,(ao rfl (aE aA 1 rfl (aF (ag hD50 rfl rfl rfl))))⟩
  ·
   refine⟨_,rfl,rfl,(ao rfl (aX hf rfl rfl rfl bA (aF (ag hD51 rfl rfl rfl))))⟩
 refine aN 8 #[true,false,true,false,true,false,false,true,true,false,false,false,false] ⟨53,[(1,.adr (aO s)),(2,.ref 2 0 0 0),(8,.adr ((aO s).drop 0)),(10,.adr ((aO s).drop 1)),(12,.adr ((aO s).drop 2)),(16,.sl 4 (s.sub.map enC))],[(2,.box [.s (.int .i64 0),.s (.int .i64 0),.s (.slice none 0 0),.s (.slice none 0 0),.s (.slice none 0 0),.s (.slice none 0 0)])]⟩ ?_ (fun hD56=>?_)
 ·
  refine aH 1 [3,5,11] (by kernel_rfl) ⟨?_,?_,?_,?_,trivial⟩
  ·
   refine⟨_,rfl,rfl,(ao rfl (aE aA 1 rfl (aF (ag hD44 rfl rfl rfl))))⟩
  ·
   refine⟨_,rfl,rfl,(ao rfl (aE aA 1 rfl (aF (ag hD47 rfl rfl rfl))))⟩
  ·
   refine⟨_,rfl,rfl,(ao rfl (aE aA 1 rfl (aF (ag hD50 rfl rfl rfl))))⟩
  ·
   refine⟨_,rfl,rfl,(ao rfl (aX hf rfl rfl rfl bA (aF (ag hD52 rfl rfl rfl))))⟩
 refine aN 8 #[true,false,true,false,true,false,false,true,false,false,false,true,false] ⟨53,[(1,.adr (aO s)),(2,.ref 2 0 0 0),(3,.ref 3 0 0 0),(8,.adr ((aO s).drop 0)),(10,.adr ((aO s).drop 1)),(12,.adr ((aO s).drop 2)),(15,.adr ((aO s).drop 4))],[(3,.box [.s (.int .i64 0),.s (.int .i64 0),.s (.slice none 0 0),.s (.slice none 0 0),.s (.slice none 0 0),.s (.slice none 0 0)]),(2,.box [.s (.int .i64 0),.s (.int .i64 0),.s (.slice none 0 0),.s (.slice none 0 0),.s (.slice none 0 0),.s (.slice none 0 0)])]⟩ ?_ (fun hD57=>?_)
 ·
  refine aH 1 [3,5,8] (by kernel_rfl) ⟨?_,?_,?_,?_,trivial⟩
  ·
   refine⟨_,rfl,rfl,(ao rfl (aE aA 1 rfl (aF (ag hD45 rfl rfl rfl))))⟩
  ·
   refine⟨_,rfl,rfl,(ao rfl (aE aA 1 rfl (aF (ag hD48 rfl rfl rfl))))⟩
  ·
   refine⟨_,rfl,rfl,(ao rfl (aE aA 1 rfl (aF (ag hD51 rfl rfl rfl))))⟩
  ·
   refine⟨_,rfl,rfl,(ao rfl (aE aA 1 rfl (aF (ag hD52 rfl rfl rfl))))⟩
 refine jM (oY (sl':=[(1,.adr (aO s)),(2,.ref 2 0 0 0),(8,.adr ((aO s).drop 0)),(10,.adr ((aO s).drop 1)),(12,.adr ((aO s).drop 2)),(15,.adr ((aO s).drop 4))]) (m':=[(2,.box [.s (.int .i64 0),.s (.int .i64 0),.s (.slice none 0 0),.s (.slice none 0 0),.s (.slice none 0 0),.s (.slice none 0 0)])]) rfl rfl rfl) (aH 1 [3,5,8,11] (by kernel_rfl) ⟨?_,?_,?_,?_,?_,trivial⟩)
 ·
  refine⟨_,rfl,rfl,(ao rfl (aE aA 1 rfl (aF (ag hD53 rfl rfl rfl))))⟩
 ·
  refine⟨_,rfl,rfl,(ao rfl (aE aA 1 rfl (aF (ag hD54 rfl rfl rfl))))⟩
 ·
  refine⟨_,rfl,rfl,(ao rfl (aE aA 1 rfl (aF (ag hD55 rfl rfl rfl))))⟩
 ·
  refine⟨_,rfl,rfl,(ao rfl (aE aA 1 rfl (aF (ag hD56 rfl rfl rfl))))⟩
 ·
  refine⟨_,rfl,rfl,(ao rfl (aX hf rfl rfl rfl bA (aF (ag hD57 rfl rfl rfl))))⟩
theorem aTu (s:Sta) (hz:SzS 140737488353000 s) :Den Tryz.prog 19 [.agg (aO s)]  (·=.agg (aO s)):=by
 have z1:=hz.o
 have z2:=hz.u
 have z3:=hz.b
 have z4:=hz.t
 have hlm:(s.usr.map usC).length=s.usr.length:=List.length_map _
 have hlt:(s.tmb.map tmC).length=s.tmb.length:=List.length_map _
 refine aS Tryz.func19 rfl (Nat.le_of_ble_eq_true rfl) (fun w0 A hf=>(aC (fun K1 hK1=>(aB (aJ hf rfl (cI rfl rfl (lf rfl)) (aX hf rfl rfl rfl bY (aD (hK1 _ (aC (fun K2 hK2=>(dY bE ?_)))))))))))
 refine cE (listed':=#[true,false,false,false,false,false,false,false,false,false,false,false,false]) 0 rfl (by kernel_rfl) (by kernel_rfl) (by kernel_rfl) rfl (fun _ _ h=>h) (iQ rfl aN9 bZ rfl) ?_
 refine cE (listed':=#[true,false,true,false,false,false,false,false,false,false,false,false,false]) 2 rfl (by kernel_rfl) (by kernel_rfl) (by kernel_rfl) rfl (fun _ _ h=>h) (iQ rfl aC8 bZ rfl) ?_
 refine cE (listed':=#[true,false,true,false,true,false,false,false,false,false,false,false,false]) 4 rfl (by kernel_rfl) (by kernel_rfl) (by kernel_rfl) rfl (fun _ _ h=>h) (iQ rfl qA jZ rfl) ?_
 refine cE (listed':=#[true,false,true,false,true,false,false,true,false,false,false,false,false]) 7 rfl (by kernel_rfl) (by kernel_rfl) (by kernel_rfl) rfl (fun _ _ h=>h) (iQ rfl pZ kS rfl) ?_
 refine aN 0 #[true,true,true,true,true,true,true,true,true,true,true,true,true] ⟨53,[(1,.adr (aO s)),(2,.ref 2 0 0 0),(3,.ref 3 0 0 0)],[(3,.box [.s (.int .i64 s.now),.s (.int .i64 s.hor),.sl 4 (s.opn.map seC),.s (.slice none 0 0),.sl 4 (s.sub.map enC),.s (.slice none 0 0)]),(2,.box [.s (.int .i64 0),.s (.int .i64 0),.s (.slice none 0 0),.s (.slice none 0 0),.s (.slice none 0 0),.s (.slice none 0 0)])]⟩ ?_ (fun hD0=>?_)
 ·
  refine dF (by kernel_rfl) ?_
  refine hK2 _ (aC (fun K3 hK3=>(aC (fun K4 hK4=>(aB (sQ hf 3 223 2 5 rfl rfl rfl rfl ?_))))))
  refine sQ hf 3 222 2 3 rfl rfl rfl rfl ?_
  refine aE aA 4 rfl (aD (hK4 _ (aQ (bR (ι:=Nat) (fun k=>⟨53,[(1,.adr (aO s)),(2,.ref 2 0 0 0),(3,.ref 3 0 0 0),(20,.sl 2 (s.usr.map usC)),(21,.s (.int .i64 ((s.usr.map usC).length:Nat))),(22,.s (.int .i64 (k:Nat)))],[(222,.buf 2 ((s.usr.take k).map usC)),(223,.buf 2 []),(3,.box [.s (.int .i64 s.now),.s (.int .i64 s.hor),.sl 4 (s.opn.map seC),.own 222 2 0 (s.usr.take k).length,.sl 4 (s.sub.map enC),.own 223 2 0 0]),(2,.box [.s (.int .i64 0),.s (.int .i64 0),.s (.slice none 0 0),.s (.slice none 0 0),.s (.slice none 0 0),.s (.slice none 0 0)])]⟩) (fun k=>k≤s.usr.length) (fun k=>s.usr.length - k) 0 ?_ ?_ ?_))))
  · exact Nat.zero_le _
  · exact cJ ⟨rfl,rfl,rfl,rfl,rfl,rfl,trivial⟩ rfl
  ·
   rintro k hC
   refine aC (fun K5 hK5=>(aB (aE aA 1 rfl (aD (hK5 _ (aC (fun K6 hK6=>(aL rfl (fun hc1=>?_) (fun hc1=>?_)))))))))
   ·
    simp only[bs] at hc1
    refine aM (hK6 _ (aC (fun K7 hK7=>(aQ (aC (fun K8 hK8=>(aB ?_)))))))
    have hk:k<s.usr.length:=by omega
    have htl:(s.usr.take k).length=k:=by rw[List.length_take]; omega
    refine aG rfl (aY rfl rfl eF dG (by first | exact ixm (by omega) | assumption | exact⟨by decide,rfl⟩)) ?_
    refine aE aA 1 rfl (bV hf rfl lO rfl dG rfl rfl rfl rfl (lf rfl) (aD (hK8 _ (iE hf (L:=#[true,true,true,true,true,true,true,true,true,false,false,false]) 9 3 bE (by kernel_rfl) rfl (by kernel_rfl) rfl ?_))))
    refine aT aA 6 rfl (aZ [(31,_)] rfl rfl ⟨⟨rfl,rfl⟩,trivial⟩ rfl (aK rfl rfl vA rfl (aI0 s.usr[k].2 (by have:=hz.y _ (List.getElem_mem hk); omega))) ?_)
    refine bL [(29,_),(32,_)] rfl rfl ⟨⟨rfl,rfl⟩,⟨rfl,rfl⟩,trivial⟩ rfl (cB rfl pY qV (l3 rfl) rfl) (aZ [(33,_)] rfl rfl ⟨⟨rfl,rfl⟩,trivial⟩ rfl (bD eB rfl rfl rfl rfl (l2 rfl)) (uP [1,2,3,20,21,22,27,34] rfl rfl rfl ?_))
    refine aH 9 [] (by kernel_rfl) ⟨?_,trivial⟩
    ·
     refine⟨_,rfl,rfl,(ao rfl (cA hf rfl eB rfl rfl rfl (.inl rfl) (by rw[List.length_map]) rfl (by first | rfl | simp [eV,bU]) (by first | (simp only[maxLen,List.length_map,List.length_append,List.length_cons,List.length_nil]; omega) | (simp [maxLen] <;> omega)) (by first | (simp only[List.length_map,List.length_append,List.length_cons,List.length_nil]; omega) | (simp <;> omega)) ?_))⟩
     refine bO (eR [1,2,3,20,21,22,35] rfl) (aF (aH 10 [] (by kernel_rfl) ⟨?_,trivial⟩))
     ·
      refine⟨_,rfl,rfl,(ao rfl (aE aA 1 rfl (aF (aH 11 [] (by kernel_rfl) ⟨?_,trivial⟩))))⟩
      ·
       refine⟨_,rfl,rfl,(ao rfl (aU hf rfl rfl xF rfl rfl (l1 rfl) (l4 rfl) rfl (aF (dF (by kernel_rfl) ?_))))⟩
       refine hK7 _ (aB ?_)
       refine aG rfl (bN rfl rfl (by omega) (by omega)) ?_
       refine aE aA 1 rfl (aD ?_)
       exact⟨k+1,by omega,by omega,cJ ⟨rfl,rfl,rfl,rfl,rfl,rfl,trivial⟩ (by rw[kN s.usr usC k hk,jO s.usr k hk]; rfl)⟩
   ·
    simp only[bs] at hc1
    refine bB (hK3 _ (aC (fun K9 hK9=>(aC (fun K10 hK10=>(aB (aE aA 4 rfl (aD (hK10 _ (aQ (bR (ι:=Nat) (fun q=>⟨53,[(2,.ref 2 0 0 0),(3,.ref 3 0 0 0),(39,.sl 2 (s.tmb.map tmC)),(40,.s (.int .i64 ((s.tmb.map tmC).length:Nat))),(41,.s (.int .i64 (q:Nat)))],[(223,.buf 2 ((s.tmb.take q).map tmC)),(222,.buf 2 (s.usr.map usC)),(3,.box [.s (.int .i64 s.now),.s (.int .i64 s.hor),.sl 4 (s.opn.map seC),.own 222 2 0 s.usr.length,.sl 4 (s.sub.map enC),.own 223 2 0 (s.tmb.take q).length]),(2,.box [.s (.int .i64 0),.s (.int .i64 0),.s (.slice none 0 0),.s (.slice none 0 0),.s (.slice none 0 0),.s (.slice none 0 0)])]⟩) (fun q=>q≤s.tmb.length) (fun q=>s.tmb.length - q) 0 ?_ ?_ ?_)))))))))))
    · exact Nat.zero_le _
    · exact aQl ⟨rfl,rfl,rfl,rfl,rfl,trivial⟩ (fun g=>by rw[List.take_of_length_le (show s.usr.length≤k by omega)]; exact aI4 (by decide))
    ·
     rintro q hC
     refine aC (fun K11 hK11=>(aB (aE aA 1 rfl (aD (hK11 _ (aC (fun K12 hK12=>(aL rfl (fun hc2=>?_) (fun hc2=>?_)))))))))
     ·
      simp only[bs] at hc2
      refine aM (hK12 _ (aC (fun K13 hK13=>(aQ (aC (fun K14 hK14=>(aB ?_)))))))
      have hq:q<s.tmb.length:=by omega
      have htl:(s.tmb.take q).length=q:=by rw[List.length_take]; omega
      refine aG rfl (aY rfl rfl gW fT (by first | exact ixm (by omega) | assumption | exact⟨by decide,rfl⟩)) ?_
      refine aE aA 1 rfl (bV hf rfl wQ rfl fT rfl rfl rfl rfl (lf rfl) (aD (hK14 _ (aB (aE aA 3 rfl (aJ hf rfl (bD iW rfl rfl rfl rfl (l2 rfl)) (cA hf rfl iW rfl rfl rfl (.inl rfl) (by rw[List.length_map]) rfl (by first | rfl | simp [eV,bU]) (by first | (simp only[maxLen,List.length_map,List.length_append,List.length_cons,List.length_nil]; omega) | (simp [maxLen] <;> omega)) (by first | (simp only[List.length_map,List.length_append,List.length_cons,List.length_nil]; omega) | (simp <;> omega)) ?_)))))))
      refine bO (eR [2,3,39,40,41,49] rfl) (aE aA 1 rfl (aU hf rfl rfl aBf rfl rfl (l1 rfl) (l4 rfl) rfl ?_))
      refine bK ?_
      refine hK13 _ (aB ?_)
      refine aG rfl (bN rfl rfl (by omega) (by omega)) ?_
      refine aE aA 1 rfl (aD ?_)
      exact⟨q+1,by omega,by omega,cJ ⟨rfl,rfl,rfl,rfl,rfl,trivial⟩ (by rw[kN s.tmb tmC q hq,jO s.tmb q hq]; rfl)⟩
     ·
      simp only[bs] at hc2
      refine bB (hK9 _ (aC (fun K15 hK15=>(aB (aG rfl (bW (cs':=[.s (.int .i64 s.now),.s (.int .i64 s.hor),.sl 4 (s.opn.map seC),.own 222 2 0 s.usr.length,.sl 4 (s.sub.map enC),.own 223 2 0 (s.tmb.take q).length]) rfl dJ cG rfl rfl rfl) (aU hf rfl rfl cG rfl rfl (l1 rfl) (l4 rfl) rfl (aD (hK15 _ (aI ?_)))))))))
      refine⟨_,rfl,?_⟩
      show AV.agg [_,_,_,AV.conv _ (.own 222 2 0 s.usr.length),_,AV.conv _ (.own 223 2 0 (s.tmb.take q).length)]=_
      rw[bX (g:=222) rfl (by rw[List.length_map]),bX (g:=223) rfl (by rw[List.length_map]),List.take_of_length_le (by omega)]; rfl
 refine aN 1 #[true,true,true,true,true,true,true,true,true,true,true,true,false] ⟨53,[(1,.adr (aO s)),(2,.ref 2 0 0 0),(3,.ref 3 0 0 0),(18,.agg [.s (.int .i64 s.now),.s (.int .i64 s.hor),.sl 4 (s.opn.map seC),.s (.slice none 0 0),.sl 4 (s.sub.map enC),.s (.slice none 0 0)])],[(3,.box [.s (.int .i64 0),.s (.int .i64 0),.s (.slice none 0 0),.s (.slice none 0 0),.s (.slice none 0 0),.s (.slice none 0 0)]),(2,.box [.s (.int .i64 0),.s (.int .i64 0),.s (.slice none 0 0),.s (.slice none 0 0),.s (.slice none 0 0),.s (.slice none 0 0)])]⟩ ?_ (fun hD1=>?_)
 ·
  refine aH 12 [] (by kernel_rfl) ⟨?_,trivial⟩
  ·
   refine⟨_,rfl,rfl,(ao rfl (aU hf rfl rfl cG rfl rfl (l1 rfl) (l4 rfl) rfl (aF (ag hD0 rfl rfl rfl))))⟩
 refine aN 2 #[true,true,true,true,true,true,true,true,true,true,true,false,false] ⟨53,[(1,.adr (aO s)),(2,.ref 2 0 0 0),(18,.agg [.s (.int .i64 s.now),.s (.int .i64 s.hor),.sl 4 (s.opn.map seC),.s (.slice none 0 0),.sl 4 (s.sub.map enC),.s (.slice none 0 0)])],[(2,.box [.s (.int .i64 0),.s (.int .i64 0),.s (.slice none 0 0),.s (.slice none 0 0),.s (.slice none 0 0),.s (.slice none 0 0)])]⟩ ?_ (fun hD2=>?_)
 ·
  refine aH 11 [] (by kernel_rfl) ⟨?_,trivial⟩
  ·
   refine⟨_,rfl,rfl,(ao rfl (aX hf rfl rfl rfl bY (aF (ag hD1 rfl rfl rfl))))⟩
 refine aN 2 #[true,true,true,true,true,true,true,true,true,true,false,true,false] ⟨53,[(1,.adr (aO s)),(2,.ref 2 0 0 0),(3,.ref 3 0 0 0),(9,.s (.int .i64 s.now)),(11,.s (.int .i64 s.hor)),(14,.sl 4 (s.opn.map seC)),(17,.sl 4 (s.sub.map enC))],[(3,.box [.s (.int .i64 0),.s (.int .i64 0),.s (.slice none 0 0),.s (.slice none 0 0),.s (.slice none 0 0),.s (.slice none 0 0)]),(2,.box [.s (.int .i64 0),.s (.int .i64 0),.s (.slice none 0 0),.s (.slice none 0 0),.s (.slice none 0 0),.s (.slice none 0 0)])]⟩ ?_ (fun hD3=>?_)
 ·
  refine aH 10 [] (by kernel_rfl) ⟨?_,trivial⟩
  ·
   refine⟨_,rfl,rfl,(ao rfl (aG rfl (cB rfl bY jX (l3 rfl) rfl) (aF (ag hD1 rfl rfl rfl))))⟩
 refine aN 3 #[true,true,true,true,true,true,true,true,true,true,false,false,false] ⟨53,[(1,.adr (aO s)),(2,.ref 2 0 0 0),(9,.s (.int .i64 s.now)),(11,.s (.int .i64 s.hor)),(14,.sl 4 (s.opn.map seC)),(17,.sl 4 (s.sub.map enC))],[(2,.box [.s (.int .i64 0),.s (.int .i64 0),.s (.slice none 0 0),.s (.slice none 0 0),.s (.slice none 0 0),.s (.slice none 0 0)])]⟩ ?_ (fun hD4=>?_)
 ·
  refine aH 10 [11] (by kernel_rfl) ⟨?_,?_,trivial⟩
  ·
   refine⟨_,rfl,rfl,(ao rfl (aG rfl (cB rfl bY jX (l3 rfl) rfl) (aF (ag hD2 rfl rfl rfl))))⟩
  ·
   refine⟨_,rfl,rfl,(ao rfl (aX hf rfl rfl rfl bY (aF (ag hD3 rfl rfl rfl))))⟩
 refine aN 3 #[true,true,true,true,true,true,true,true,true,false,false,true,false] ⟨53,[(1,.adr (aO s)),(2,.ref 2 0 0 0),(3,.ref 3 0 0 0),(9,.s (.int .i64 s.now)),(11,.s (.int .i64 s.hor)),(14,.sl 4 (s.opn.map seC)),(16,.sl 4 (s.sub.map enC))],[(3,.box [.s (.int .i64 0),.s (.int .i64 0),.s (.slice none 0 0),.s (.slice none 0 0),.s (.slice none 0 0),.s (.slice none 0 0)]),(2,.box [.s (.int .i64 0),.s (.int .i64 0),.s (.slice none 0 0),.s (.slice none 0 0),.s (.slice none 0 0),.s (.slice none 0 0)])]⟩ ?_ (fun hD5=>?_)
 ·
  refine aH 9 [] (by kernel_rfl) ⟨?_,trivial⟩
  ·
   refine⟨_,rfl,rfl,(ao rfl (aJ hf rfl (aK rfl rfl lS rfl (nN s.sub (by omega))) (aF (ag hD3 rfl rfl rfl))))⟩
 refine aN 3 #[true,true,true,false,true,true,true,true,true,true,false,true,false] ⟨53,[(1,.adr (aO s)),(2,.ref 2 0 0 0),(3,.ref 3 0 0 0),(9,.s (.int .i64 s.now)),(10,.adr ((aO s).drop 1)),(14,.sl 4 (s.opn.map seC)),(17,.sl 4 (s.sub.map enC))],[(3,.box [.s (.int .i64 0),.s (.int .i64 0),.s (.slice none 0 0),.s (.slice none 0 0),.s (.slice none 0 0),.s (.slice none 0 0)]),(2,.box [.s (.int .i64 0),.s (.int .i64 0),.s (.slice none 0 0),.s (.slice none 0 0),.s (.slice none 0 0),.s (.slice none 0 0)])]⟩ ?_ (fun hD6=>?_)
 ·
  refine aH 3 [] (by kernel_rfl) ⟨?_,trivial⟩
  ·
   refine⟨_,rfl,rfl,(ao rfl (aE aA 1 rfl (aF (ag hD3 rfl rfl rfl))))⟩
 refine aN 3 #[true,false,true,true,true,true,true,true,true,true,false,true,false] ⟨53,[(1,.adr (aO s)),(2,.ref 2 0 0 0),(3,.ref 3 0 0 0),(8,.adr ((aO s).drop 0)),(11,.s (.int .i64 s.hor)),(14,.sl 4 (s.opn.map seC)),(17,.sl 4 (s.sub.map enC))],[(3,.box [.s (.int .i64 0),.s (.int .i64 0),.s (.slice none 0 0),.s (.slice none 0 0),.s (.slice none 0 0),.s (.slice none 0 0)]),(2,.box [.s (.int .i64 0),.s (.int .i64 0),.s (.slice none 0 0),.s (.slice none 0 0),.s (.slice none 0 0),.s (.slice none 0 0)])]⟩ ?_ (fun hD7=>?_)
 ·
  refine aH 1 [] (by kernel_rfl) ⟨?_,trivial⟩
  ·
   refine⟨_,rfl,rfl,(ao rfl (aE aA 1 rfl (aF (ag hD3 rfl rfl rfl))))⟩
 refine aN 4 #[true,true,true,true,true,true,true,true,true,false,false,false,false] ⟨53,[(1,.adr (aO s)),(2,.ref 2 0 0 0),(9,.s (.int .i64 s.now)),(11,.s (.int .i64 s.hor)),(14,.sl 4 (s.opn.map seC)),(16,.sl 4 (s.sub.map enC))],[(2,.box [.s (.int .i64 0),.s (.int .i64 0),.s (.slice none 0 0),.s (.slice none 0 0),.s (.slice none 0 0),.s (.slice none 0 0)])]⟩ ?_ (fun hD8=>?_)
 ·
  refine aH 9 [11] (by kernel_rfl) ⟨?_,?_,trivial⟩
  ·
   refine⟨_,rfl,rfl,(ao rfl (aJ hf rfl (aK rfl rfl lS rfl (nN s.sub (by omega))) (aF (ag hD4 rfl rfl rfl))))⟩
  ·
   refine⟨_,rfl,rfl,(ao rfl (aX hf rfl rfl rfl bY (aF (ag hD5 rfl rfl rfl))))⟩
 refine aN 4 #[true,true,true,true,true,true,true,true,false,false,false,true,false] ⟨53,[(1,.adr (aO s)),(2,.ref 2 0 0 0),(3,.ref 3 0 0 0),(9,.s (.int .i64 s.now)),(11,.s (.int .i64 s.hor)),(14,.sl 4 (s.opn.map seC)),(15,.adr ((aO s).drop 4))],[(3,.box [.s (.int .i64 0),.s (.int .i64 0),.s (.slice none 0 0),.s (.slice none 0 0),.s (.slice none 0 0),.s (.slice none 0 0)]),(2,.box [.s (.int .i64 0),.s (.int .i64 0),.s (.slice none 0 0),.s (.slice none 0 0),.s (.slice none 0 0),.s (.slice none 0 0)])]⟩ ?_ (fun hD9=>?_)
 ·
  refine aH 8 [] (by kernel_rfl) ⟨?_,trivial⟩
  ·
   refine⟨_,rfl,rfl,(ao rfl (aE aA 1 rfl (aF (ag hD5 rfl rfl rfl))))⟩
 refine aN 4 #[true,true,true,true,true,true,false,true,true,false,false,true,false] ⟨53,[(1,.adr (aO s)),(2,.ref 2 0 0 0),(3,.ref 3 0 0 0),(9,.s (.int .i64 s.now)),(11,.s (.int .i64 s.hor)),(13,.sl 4 (s.opn.map seC)),(16,.sl 4 (s.sub.map enC))],[(3,.box [.s (.int .i64 0),.s (.int .i64 0),.s (.slice none 0 0),.s (.slice none 0 0),.s (.slice none 0 0),.s (.slice none 0 0)]),(2,.box [.s (.int .i64 0),.s (.int .i64 0),.s (.slice none 0 0),.s (.slice none 0 0),.s (.slice none 0 0),.s (.slice none 0 0)])]⟩ ?_ (fun hD10=>?_)
 ·
  refine aH 6 [] (by kernel_rfl) ⟨?_,trivial⟩
  ·
   refine⟨_,rfl,rfl,(ao rfl (aJ hf rfl (aK rfl rfl fH rfl (fE s.opn (by omega))) (aF (ag hD5 rfl rfl rfl))))⟩
 refine aN 4 #[true,true,true,false,true,true,true,true,true,true,false,false,false] ⟨53,[(1,.adr (aO s)),(2,.ref 2 0 0 0),(9,.s (.int .i64 s.now)),(10,.adr ((aO s).drop 1)),(14,.sl 4 (s.opn.map seC)),(17,.sl 4 (s.sub.map enC))],[(2,.box [.s (.int .i64 0),.s (.int .i64 0),.s (.slice none 0 0),.s (.slice none 0 0),.s (.slice none 0 0),.s (.slice none 0 0)])]⟩ ?_ (fun hD11=>?_)
 ·
  refine aH 3 [11] (by kernel_rfl) ⟨?_,?_,trivial⟩
  ·
   refine⟨_,rfl,rfl,(ao rfl (aE aA 1 rfl (aF (ag hD4 rfl rfl rfl))))⟩
  ·
   refine⟨_,rfl,rfl,(ao rfl (aX hf rfl rfl rfl bY (aF (ag hD6 rfl rfl rfl))))⟩
 refine aN 4 #[true,true,true,false,true,true,true,true,true,false,false,true,false] ⟨53,[(1,.adr (aO s)),(2,.ref 2 0 0 0),(3,.ref 3 0 0 0),(9,.s (.int .i64 s.now)),(10,.adr ((aO s).drop 1)),(14,.sl 4 (s.opn.map seC)),(16,.sl 4 (s.sub.map enC))],[(3,.box [.s (.int .i64 0),.s (.int .i64 0),.s (.slice none 0 0),.s (.slice none 0 0),.s (.slice none 0 0),.s (.slice none 0 0)]),(2,.box [.s (.int .i64 0),.s (.int .i64 0),.s (.slice none 0 0),.s (.slice none 0 0),.s (.slice none 0 0),.s (.slice none 0 0)])]⟩ ?_ (fun hD12=>?_)
 ·
  refine aH 3 [9] (by kernel_rfl) ⟨?_,?_,trivial⟩
  ·
   refine⟨_,rfl,rfl,(ao rfl (aE aA 1 rfl (aF (ag hD5 rfl rfl rfl))))⟩
  ·
   refine⟨_,rfl,rfl,(ao rfl (aJ hf rfl (aK rfl rfl lS rfl (nN s.sub (by omega))) (aF (ag hD6 rfl rfl rfl))))⟩
 refine aN 4 #[true,false,true,true,true,true,true,true,true,true,false,false,false] ⟨53,[(1,.adr (aO s)),(2,.ref 2 0 0 0),(8,.adr ((aO s).drop 0)),(11,.s (.int .i64 s.hor)),(14,.sl 4 (s.opn.map seC)),(17,.sl 4 (s.sub.map enC))],[(2,.box [.s (.int .i64 0),.s (.int .i64 0),.s (.slice none 0 0),.s (.slice none 0 0),.s (.slice none 0 0),.s (.slice none 0 0)])]⟩ ?_ (fun hD13=>?_)
 ·
  refine aH 1 [11] (by kernel_rfl) ⟨?_,?_,trivial⟩
  ·
   refine⟨_,rfl,rfl,(ao rfl (aE aA 1 rfl (aF (ag hD4 rfl rfl rfl))))⟩
  ·
   refine⟨_,rfl,rfl,(ao rfl (aX hf rfl rfl rfl bY (aF (ag hD7 rfl rfl rfl))))⟩
 refine aN 4 #[true,false,true,true,true,true,true,true,true,false,false,true,false] ⟨53,[(1,.adr (aO s)),(2,.ref 2 0 0 0),(3,.ref 3 0 0 0),(8,.adr ((aO s).drop 0)),(11,.s (.int .i64 s.hor)),(14,.sl 4 (s.opn.map seC)),(16,.sl 4 (s.sub.map enC))],[(3,.box [.s (.int .i64 0),.s (.int .i64 0),.s (.slice none 0 0),.s (.slice none 0 0),.s (.slice none 0 0),.s (.slice none 0 0)]),(2,.box [.s (.int .i64 0),.s (.int .i64 0),.s (.slice none 0 0),.s (.slice none 0 0),.s (.slice none 0 0),.s (.slice none 0 0)])]⟩ ?_ (fun hD14=>?_)
 ·
  refine aH 1 [9] (by kernel_rfl) ⟨?_,?_,trivial⟩
  ·
   refine⟨_,rfl,rfl,(ao rfl (aE aA 1 rfl (aF (ag hD5 rfl rfl rfl))))⟩
  ·
   refine⟨_,rfl,rfl,(ao rfl (aJ hf rfl (aK rfl rfl lS rfl (nN s.sub (by omega))) (aF (ag hD7 rfl rfl rfl))))⟩
 refine aN 4 #[true,false,true,false,true,true,true,true,true,true,false,true,false] ⟨53,[(1,.adr (aO s)),(2,.ref 2 0 0 0),(3,.ref 3 0 0 0),(8,.adr ((aO s).drop 0)),(10,.adr ((aO s).drop 1)),(14,.sl 4 (s.opn.map seC)),(17,.sl 4 (s.sub.map enC))],[(3,.box [.s (.int .i64 0),.s (.int .i64 0),.s (.slice none 0 0),.s (.slice none 0 0),.s (.slice none 0 0),.s (.slice none 0 0)]),(2,.box [.s (.int .i64 0),.s (.int .i64 0),.s (.slice none 0 0),.s (.slice none 0 0),.s (.slice none 0 0),.s (.slice none 0 0)])]⟩ ?_ (fun hD15=>?_)
 ·
  refine aH 1 [3] (by kernel_rfl) ⟨?_,?_,trivial⟩
  ·
   refine⟨_,rfl,rfl,(ao rfl (aE aA 1 rfl (aF (ag hD6 rfl rfl rfl))))⟩
  ·
   refine⟨_,rfl,rfl,(ao rfl (aE aA 1 rfl (aF (ag hD7 rfl rfl rfl))))⟩
 refine aN 5 #[true,true,true,true,true,true,true,true,false,false,false,false,false] ⟨53,[(1,.adr (aO s)),(2,.ref 2 0 0 0),(9,.s (.int .i64 s.now)),(11,.s (.int .i64 s.hor)),(14,.sl 4 (s.opn.map seC)),(15,.adr ((aO s).drop 4))],[(2,.box [.s (.int .i64 0),.s (.int .i64 0),.s (.slice none 0 0),.s (.slice none 0 0),.s (.slice none 0 0),.s (.slice none 0 0)])]⟩ ?_ (fun hD16=>?_)
 ·
  refine aH 8 [11] (by kernel_rfl) ⟨?_,?_,trivial⟩
  ·
   refine⟨_,rfl,rfl,(ao rfl (aE aA 1 rfl (aF (ag hD8 rfl rfl rfl))))⟩
  ·
   refine⟨_,rfl,rfl,(ao rfl (aX hf rfl rfl rfl bY (aF (ag hD9 rfl rfl rfl))))⟩
 refine aN 5 #[true,true,true,true,true,true,false,true,true,false,false,false,false] ⟨53,[(1,.adr (aO s)),(2,.ref 2 0 0 0),(9,.s (.int .i64 s.now)),(11,.s (.int .i64 s.hor)),(13,.sl 4 (s.opn.map seC)),(16,.sl 4 (s.sub.map enC))],[(2,.box [.s (.int .i64 0),.s (.int .i64 0),.s (.slice none 0 0),.s (.slice none 0 0),.s (.slice none 0 0),.s (.slice none 0 0)])]⟩ ?_ (fun hD17=>?_)
 ·
  refine aH 6 [11] (by kernel_rfl) ⟨?_,?_,trivial⟩
  ·
   refine⟨_,rfl,rfl,(ao rfl (aJ hf rfl (aK rfl rfl fH rfl (fE s.opn (by omega))) (aF (ag hD8 rfl rfl rfl))))⟩
  ·
   refine⟨_,rfl,rfl,(ao rfl (aX hf rfl rfl rfl bY (aF (ag hD10 rfl rfl rfl))))⟩
 refine aN 5 #[true,true,true,true,true,true,false,true,false,false,false,true,false] ⟨53,[(1,.adr (aO s)),(2,.ref 2 0 0 0),(3,.ref 3 0 0 0),(9,.s (.int .i64 s.now)),(11,.s (.int .i64 s.hor)),(13,.sl 4 (s.opn.map seC)),(15,.adr ((aO s).drop 4))],[(3,.box [.s (.int .i64 0),.s (.int .i64 0),.s (.slice none 0 0),.s (.slice none 0 0),.s (.slice none 0 0),.s (.slice none 0 0)]),(2,.box [.s (.int .i64 0),.s (.int .i64 0),.s (.slice none 0 0),.s (.slice none 0 0),.s (.slice none 0 0),.s (.slice none 0 0)])]⟩ ?_ (fun hD18=>?_)
 ·
  refine aH 6 [8] (by kernel_rfl) ⟨?_,?_,trivial⟩
  ·
   refine⟨_,rfl,rfl,(ao rfl (aJ hf rfl (aK rfl rfl fH rfl (fE s.opn (by omega))) (aF (ag hD9 rfl rfl rfl))))⟩
  ·
   refine⟨_,rfl,rfl,(ao rfl (aE aA 1 rfl (aF (ag hD10 rfl rfl rfl))))⟩
 refine aN 5 #[true,true,true,true,true,false,false,true,true,false,false,true,false] ⟨53,[(1,.adr (aO s)),(2,.ref 2 0 0 0),(3,.ref 3 0 0 0),(9,.s (.int .i64 s.now)),(11,.s (.int .i64 s.hor)),(12,.adr ((aO s).drop 2)),(16,.sl 4 (s.sub.map enC))],[(3,.box [.s (.int .i64 0),.s (.int .i64 0),.s (.slice none 0 0),.s (.slice none 0 0),.s (.slice none 0 0),.s (.slice none 0 0)]),(2,.box [.s (.int .i64 0),.s (.int .i64 0),.s (.slice none 0 0),.s (.slice none 0 0),.s (.slice none 0 0),.s (.slice none 0 0)])]⟩ ?_ (fun hD19=>?_)
 ·
  refine aH 5 [] (by kernel_rfl) ⟨?_,trivial⟩
  ·
   refine⟨_,rfl,rfl,(ao rfl (aE aA 1 rfl (aF (ag hD10 rfl rfl rfl))))⟩
 refine aN 5 #[true,true,true,false,true,true,true,true,true,false,false,false,false] ⟨53,[(1,.adr (aO s)),(2,.ref 2 0 0 0),(9,.s (.int .i64 s.now)),(10,.adr ((aO s).drop 1)),(14,.sl 4 (s.opn.map seC)),(16,.sl 4 (s.sub.map enC))],[(2,.box [.s (.int .i64 0),.s (.int .i64 0),.s (.slice none 0 0),.s (.slice none 0 0),.s (.slice none 0 0),.s (.slice none 0 0)])]⟩ ?_ (fun hD20=>?_)
 ·
  refine aH 3 [9,11] (by kernel_rfl) ⟨?_,?_,?_,trivial⟩
  ·
   refine⟨_,rfl,rfl,(ao rfl (aE aA 1 rfl (aF (ag hD8 rfl rfl rfl))))⟩
  ·
   refine⟨_,rfl,rfl,(ao rfl (aJ hf rfl (aK rfl rfl lS rfl (nN s.sub (by omega))) (aF (ag hD11 rfl rfl rfl))))⟩
  ·
   refine⟨_,rfl,rfl,(ao rfl (aX hf rfl rfl rfl bY (aF (ag hD12 rfl rfl rfl))))⟩
 refine aN 5 #[true,true,true,false,true,true,true,true,false,false,false,true,false] ⟨53,[(1,.adr (aO s)),(2,.ref 2 0 0 0),(3,.ref 3 0 0 0),(9,.s (.int .i64 s.now)),(10,.adr ((aO s).drop 1)),(14,.sl 4 (s.opn.map seC)),(15,.adr ((aO s).drop 4))],[(3,.box [.s (.int .i64 0),.s (.int .i64 0),.s (.slice none 0 0),.s (.slice none 0 0),.s (.slice none 0 0),.s (.slice none 0 0)]),(2,.box [.s (.int .i64 0),.s (.int .i64 0),.s (.slice none 0 0),.s (.slice none 0 0),.s (.slice none 0 0),.s (.slice none 0 0)])]⟩ ?_ (fun hD21=>?_)
 ·
  refine aH 3 [8] (by kernel_rfl) ⟨?_,?_,trivial⟩
  ·
   refine⟨_,rfl,rfl,(ao rfl (aE aA 1 rfl (aF (ag hD9 rfl rfl rfl))))⟩
  ·
   refine⟨_,rfl,rfl,(ao rfl (aE aA 1 rfl (aF (ag hD12 rfl rfl rfl))))⟩
 refine aN 5 #[true,true,true,false,true,true,false,true,true,false,false,true,false] ⟨53,[(1,.adr (aO s)),(2,.ref 2 0 0 0),(3,.ref 3 0 0 0),(9,.s (.int .i64 s.now)),(10,.adr ((aO s).drop 1)),(13,.sl 4 (s.opn.map seC)),(16,.sl 4 (s.sub.map enC))],[(3,.box [.s (.int .i64 0),.s (.int .i64 0),.s (.slice none 0 0),.s (.slice none 0 0),.s (.slice none 0 0),.s (.slice none 0 0)]),(2,.box [.s (.int .i64 0),.s (.int .i64 0),.s (.slice none 0 0),.s (.slice none 0 0),.s (.slice none 0 0),.s (.slice none 0 0)])]⟩ ?_ (fun hD22=>?_)
 ·
  refine aH 3 [6] (by kernel_rfl) ⟨?_,?_,trivial⟩
  ·
   refine⟨_,rfl,rfl,(ao rfl (aE aA 1 rfl (aF (ag hD10 rfl rfl rfl))))⟩
  ·
   refine⟨_,rfl,rfl,(ao rfl (aJ hf rfl (aK rfl rfl fH rfl (fE s.opn (by omega))) (aF (ag hD12 rfl rfl rfl))))⟩
 refine aN 5 #[true,false,true,true,true,true,true,true,true,false,false,false,false] ⟨53,[(1,.adr (aO s)),(2,.ref 2 0 0 0),(8,.adr ((aO s).drop 0)),(11,.s (.int .i64 s.hor)),(14,.sl 4 (s.opn.map seC)),(16,.sl 4 (s.sub.map enC))],[(2,.box [.s (.int .i64 0),.s (.int .i64 0),.s (.slice none 0 0),.s (.slice none 0 0),.s (.slice none 0 0),.s (.slice none 0 0)])]⟩ ?_ (fun hD23=>?_)
 ·
  refine aH 1 [9,11] (by kernel_rfl) ⟨?_,?_,?_,trivial⟩
  ·
   refine⟨_,rfl,rfl,(ao rfl (aE aA 1 rfl (aF (ag hD8 rfl rfl rfl))))⟩
  ·
   refine⟨_,rfl,rfl,(ao rfl (aJ hf rfl (aK rfl rfl lS rfl (nN s.sub (by omega))) (aF (ag hD13 rfl rfl rfl))))⟩
  ·
   refine⟨_,rfl,rfl,(ao rfl (aX hf rfl rfl rfl bY (aF (ag hD14 rfl rfl rfl))))⟩
 refine aN 5 #[true,false,true,true,true,true,true,true,false,false,false,true,false] ⟨53,[(1,.adr (aO s)),(2,.ref 2 0 0 0),(3,.ref 3 0 0 0),(8,.adr ((aO s).drop 0)),(11,.s (.int .i64 s.hor)),(14,.sl 4 (s.opn.map seC)),(15,.adr ((aO s).drop 4))],[(3,.box [.s (.int .i64 0),.s (.int .i64 0),.s (.slice none 0 0),.s (.slice none 0 0),.s (.slice none 0 0),.s (.slice none 0 0)]),(2,.box [.s (.int .i64 0),.s (.int .i64 0),.s (.slice none 0 0),.s (.slice none 0 0),.s (.slice none 0 0),.s (.slice none 0 0)])]⟩ ?_ (fun hD24=>?_)
 ·
  refine aH 1 [8] (by kernel_rfl) ⟨?_,?_,trivial⟩
  ·
   refine⟨_,rfl,rfl,(ao rfl (aE aA 1 rfl (aF (ag hD9 rfl rfl rfl))))⟩
  ·
   refine⟨_,rfl,rfl,(ao rfl (aE aA 1 rfl (aF (ag hD14 rfl rfl rfl))))⟩
 refine aN 5 #[true,false,true,true,true,true,false,true,true,false,false,true,false] ⟨53,[(1,.adr (aO s)),(2,.ref 2 0 0 0),(3,.ref 3 0 0 0),(8,.adr ((aO s).drop 0)),(11,.s (.int .i64 s.hor)),(13,.sl 4 (s.opn.map seC)),(16,.sl 4 (s.sub.map enC))],[(3,.box [.s (.int .i64 0),.s (.int .i64 0),.s (.slice none 0 0),.s (.slice none 0 0),.s (.slice none 0 0),.s (.slice none 0 0)]),(2,.box [.s (.int .i64 0),.s (.int .i64 0),.s (.slice none 0 0),.s (.slice none 0 0),.s (.slice none 0 0),.s (.slice none 0 0)])]⟩ ?_ (fun hD25=>?_)
 ·
  refine aH 1 [6] (by kernel_rfl) ⟨?_,?_,trivial⟩
  ·
   refine⟨_,rfl,rfl,(ao rfl (aE aA 1 rfl (aF (ag hD10 rfl rfl rfl))))⟩
  ·
   refine⟨_,rfl,rfl,(ao rfl (aJ hf rfl (aK rfl rfl fH rfl (fE s.opn (by omega))) (aF (ag hD14 rfl rfl rfl))))⟩
 refine aN 5 #[true,false,true,false,true,true,true,true,true,true,false,false,false] ⟨53,[(1,.adr (aO s)),(2,.ref 2 0 0 0),(8,.adr ((aO s).drop 0)),(10,.adr ((aO s).drop 1)),(14,.sl 4 (s.opn.map seC)),(17,.sl 4 (s.sub.map enC))],[(2,.box [.s (.int .i64 0),.s (.int .i64 0),.s (.slice none 0 0),.s (.slice none 0 0),.s (.slice none 0 0),.s (.slice none 0 0)])]⟩ ?_ (fun hD26=>?_)
 ·
  refine aH 1 [3,11] (by kernel_rfl) ⟨?_,?_,?_,trivial⟩
  ·
   refine⟨_,rfl,rfl,(ao rfl (aE aA 1 rfl (aF (ag hD11 rfl rfl rfl))))⟩
  ·
   refine⟨_,rfl,rfl,(ao rfl (aE aA 1 rfl (aF (ag hD13 rfl rfl rfl))))⟩
  ·
   refine⟨_,rfl,rfl,(ao rfl (aX hf rfl rfl rfl bY (aF (ag hD15 rfl rfl rfl))))⟩
 refine aN 5 #[true,false,true,false,true,true,true,true,true,false,false,true,false] ⟨53,[(1,.adr (aO s)),(2,.ref 2 0 0 0),(3,.ref 3 0 0 0),(8,.adr ((aO s).drop 0)),(10,.adr ((aO s).drop 1)),(14,.sl 4 (s.opn.map seC)),(16,.sl 4 (s.sub.map enC))],[(3,.box [.s (.int .i64 0),.s (.int .i64 0),.s (.slice none 0 0),.s (.slice none 0 0),.s (.slice none 0 0),.s (.slice none 0 0)]),(2,.box [.s (.int .i64 0),.s (.int .i64 0),.s (.slice none 0 0),.s (.slice none 0 0),.s (.slice none 0 0),.s (.slice none 0 0)])]⟩ ?_ (fun hD27=>?_)
 ·
  refine aH 1 [3,9] (by kernel_rfl) ⟨?_,?_,?_,trivial⟩
  ·
   refine⟨_,rfl,rfl,(ao rfl (aE aA 1 rfl (aF (ag hD12 rfl rfl rfl))))⟩
  ·
   refine⟨_,rfl,rfl,(ao rfl (aE aA 1 rfl (aF (ag hD14 rfl rfl rfl))))⟩
  ·
   refine⟨_,rfl,rfl,(ao rfl (aJ hf rfl (aK rfl rfl lS rfl (nN s.sub (by omega))) (aF (ag hD15 rfl rfl rfl))))⟩
 refine aN 6 #[true,true,true,true,true,true,false,true,false,false,false,false,false] ⟨53,[(1,.adr (aO s)),(2,.ref 2 0 0 0),(9,.s (.int .i64 s.now)),(11,.s (.int .i64 s.hor)),(13,.sl 4 (s.opn.map seC)),(15,.adr ((aO s).drop 4))],[(2,.box [.s (.int .i64 0),.s (.int .i64 0),.s (.slice none 0 0),.s (.slice none 0 0),.s (.slice none 0 0),.s (.slice none 0 0)])]⟩ ?_ (fun hD28=>?_)
 ·
  refine aH 6 [8,11] (by kernel_rfl) ⟨?_,?_,?_,trivial⟩
  ·
   refine⟨_,rfl,rfl,(ao rfl (aJ hf rfl (aK rfl rfl fH rfl (fE s.opn (by omega))) (aF (ag hD16 rfl rfl rfl))))⟩
  ·
   refine⟨_,rfl,rfl,(ao rfl (aE aA 1 rfl (aF (ag hD17 rfl rfl rfl))))⟩
  ·
   refine⟨_,rfl,rfl,(ao rfl (aX hf rfl rfl rfl bY (aF (ag hD18 rfl rfl rfl))))⟩
 refine aN 6 #[true,true,true,true,true,false,false,true,true,false,false,false,false] ⟨53,[(1,.adr (aO s)),(2,.ref 2 0 0 0),(9,.s (.int .i64 s.now)),(11,.s (.int .i64 s.hor)),(12,.adr ((aO s).drop 2)),(16,.sl 4 (s.sub.map enC))],[(2,.box [.s (.int .i64 0),.s (.int .i64 0),.s (.slice none 0 0),.s (.slice none 0 0),.s (.slice none 0 0),.s (.slice none 0 0)])]⟩ ?_ (fun hD29=>?_)
 ·
  refine aH 5 [11] (by kernel_rfl) ⟨?_,?_,trivial⟩
  ·
   refine⟨_,rfl,rfl,(ao rfl (aE aA 1 rfl (aF (ag hD17 rfl rfl rfl))))⟩
  ·
   refine⟨_,rfl,rfl,(ao rfl (aX hf rfl rfl rfl bY (aF (ag hD19 rfl rfl rfl))))⟩
 refine aN 6 #[true,true,true,true,true,false,false,true,false,false,false,true,false] ⟨53,[(1,.adr (aO s)),(2,.ref 2 0 0 0),(3,.ref 3 0 0 0),(9,.s (.int .i64 s.now)),(11,.s (.int .i64 s.hor)),(12,.adr ((aO s).drop 2)),(15,.adr ((aO s).drop 4))],[(3,.box [.s (.int .i64 0),.s (.int .i64 0),.s (.slice none 0 0),.s (.slice none 0 0),.s (.slice none 0 0),.s (.slice none 0 0)]),(2,.box [.s (.int .i64 0),.s (.int .i64 0),.s (.slice none 0 0),.s (.slice none 0 0),.s (.slice none 0 0),.s (.slice none 0 0)])]⟩ ?_ (fun hD30=>?_)
 ·
  refine aH 5 [8] (by kernel_rfl) ⟨?_,?_,trivial⟩
  ·
   refine⟨_,rfl,rfl,(ao rfl (aE aA 1 rfl (aF (ag hD18 rfl rfl rfl))))⟩
  ·
   refine⟨_,rfl,rfl,(ao rfl (aE aA 1 rfl (aF (ag hD19 rfl rfl rfl))))⟩
 refine aN 6 #[true,true,true,false,true,true,true,true,false,false,false,false,false] ⟨53,[(1,.adr (aO s)),(2,.ref 2 0 0 0),(9,.s (.int .i64 s.now)),(10,.adr ((aO s).drop 1)),(14,.sl 4 (s.opn.map seC)),(15,.adr ((aO s).drop 4))],[(2,.box [.s (.int .i64 0),.s (.int .i64 0),.s (.slice none 0 0),.s (.slice none 0 0),.s (.slice none 0 0),.s (.slice none 0 0)])]⟩ ?_ (fun hD31=>?_)
 ·
  refine aH 3 [8,11] (by kernel_rfl) ⟨?_,?_,?_,trivial⟩
  ·
   refine⟨_,rfl,rfl,(ao rfl (aE aA 1 rfl (aF (ag hD16 rfl rfl rfl))))⟩
  ·
   refine⟨_,rfl,rfl,(ao rfl (aE aA 1 rfl (aF (ag hD20 rfl rfl rfl))))⟩
  ·
   refine⟨_,rfl,rfl,(ao rfl (aX hf rfl rfl rfl bY (aF (ag hD21 rfl rfl rfl))))⟩
 refine aN 6 #[true,true,true,false,true,true,false,true,true,false,false,false,false] ⟨53,[(1,.adr (aO s)),(2,.ref 2 0 0 0),(9,.s (.int .i64 s.now)),(10,.adr ((aO s).drop 1)),(13,.sl 4 (s.opn.map seC)),(16,.sl 4 (s.sub.map enC))],[(2,.box [.s (.int .i64 0),.s (.int .i64 0),.s (.slice none 0 0),.s (.slice none 0 0),.s (.slice none 0 0),.s (.slice none 0 0)])]⟩ ?_ (fun hD32=>?_)
 ·
  refine aH 3 [6,11] (by kernel_rfl) ⟨?_,?_,?_,trivial⟩
  ·
   refine⟨_,rfl,rfl,(ao rfl (aE aA 1 rfl (aF (ag hD17 rfl rfl rfl))))⟩
  ·
   refine⟨_,rfl,rfl,(ao rfl (aJ hf rfl (aK rfl rfl fH rfl (fE s.opn (by omega))) (aF (ag hD20 rfl rfl rfl))))⟩
  ·
   refine⟨_,rfl,rfl,(ao rfl (aX hf rfl rfl rfl bY (aF (ag hD22 rfl rfl rfl))))⟩
 refine aN 6 #[true,true,true,false,true,true,false,true,false,false,false,true,false] ⟨53,[(1,.adr (aO s)),(2,.ref 2 0 0 0),(3,.ref 3 0 0 0),(9,.s (.int .i64 s.now)),(10,.adr ((aO s).drop 1)),(13,.sl 4 (s.opn.map seC)),(15,.adr ((aO s).drop 4))],[(3,.box [.s (.int .i64 0),.s (.int .i64 0),.s (.slice none 0 0),.s (.slice none 0 0),.s (.slice none 0 0),.s (.slice none 0 0)]),(2,.box [.s (.int .i64 0),.s (.int .i64 0),.s (.slice none 0 0),.s (.slice none 0 0),.s (.slice none 0 0),.s (.slice none 0 0)])]⟩ ?_ (fun hD33=>?_)
 ·
  refine aH 3 [6,8] (by kernel_rfl) ⟨?_,?_,?_,trivial⟩
  ·
   refine⟨_,rfl,rfl,(ao rfl (aE aA 1 rfl (aF (ag hD18 rfl rfl rfl))))⟩
  ·
   refine⟨_,rfl,rfl,(ao rfl (aJ hf rfl (aK rfl rfl fH rfl (fE s.opn (by omega))) (aF (ag hD21 rfl rfl rfl))))⟩
  ·
   refine⟨_,rfl,rfl,(ao rfl (aE aA 1 rfl (aF (ag hD22 rfl rfl rfl))))⟩
 refine aN 6 #[true,true,true,false,true,false,false,true,true,false,false,true,false] ⟨53,[(1,.adr (aO s)),(2,.ref 2 0 0 0),(3,.ref 3 0 0 0),(9,.s (.int .i64 s.now)),(10,.adr ((aO s).drop 1)),(12,.adr ((aO s).drop 2)),(16,.sl 4 (s.sub.map enC))],[(3,.box [.s (.int .i64 0),.s (.int .i64 0),.s (.slice none 0 0),.s (.slice none 0 0),.s (.slice none 0 0),.s (.slice none 0 0)]),(2,.box [.s (.int .i64 0),.s (.int .i64 0),.s (.slice none 0 0),.s (.slice none 0 0),.s (.slice none 0 0),.s (.slice none 0 0)])]⟩ ?_ (fun hD34=>?_)
 ·
  refine aH 3 [5] (by kernel_rfl) ⟨?_,?_,trivial⟩
  ·
   refine⟨_,rfl,rfl,(ao rfl (aE aA 1 rfl (aF (ag hD19 rfl rfl rfl))))⟩
  ·
   refine⟨_,rfl,rfl,(ao rfl (aE aA 1 rfl (aF (ag hD22 rfl rfl rfl))))⟩
 refine aN 6 #[true,false,true,true,true,true,true,true,false,false,false,false,false] ⟨53,[(1,.adr (aO s)),(2,.ref 2 0 0 0),(8,.adr ((aO s).drop 0)),(11,.s (.int .i64 s.hor)),(14,.sl 4 (s.opn.map seC)),(15,.adr ((aO s).drop 4))],[(2,.box [.s (.int .i64 0),.s (.int .i64 0),.s (.slice none 0 0),.s (.slice none 0 0),.s (.slice none 0 0),.s (.slice none 0 0)])]⟩ ?_ (fun hD35=>?_)
 ·
  refine aH 1 [8,11] (by kernel_rfl) ⟨?_,?_,?_,trivial⟩
  ·
   refine⟨_,rfl,rfl,(ao rfl (aE aA 1 rfl (aF (ag hD16 rfl rfl rfl))))⟩
  ·
   refine⟨_,rfl,rfl,(ao rfl (aE aA 1 rfl (aF (ag hD23 rfl rfl rfl))))⟩
  ·
   refine⟨_,rfl,rfl,(ao rfl (aX hf rfl rfl rfl bY (aF (ag hD24 rfl rfl rfl))))⟩
 refine aN 6 #[true,false,true,true,true,true,false,true,true,false,false,false,false] ⟨53,[(1,.adr (aO s)),(2,.ref 2 0 0 0),(8,.adr ((aO s).drop 0)),(11,.s (.int .i64 s.hor)),(13,.sl 4 (s.opn.map seC)),(16,.sl 4 (s.sub.map enC))],[(2,.box [.s (.int .i64 0),.s (.int .i64 0),.s (.slice none 0 0),.s (.slice none 0 0),.s (.slice none 0 0),.s (.slice none 0 0)])]⟩ ?_ (fun hD36=>?_)
 ·
  refine aH 1 [6,11] (by kernel_rfl) ⟨?_,?_,?_,trivial⟩
  ·
   refine⟨_,rfl,rfl,(ao rfl (aE aA 1 rfl (aF (ag hD17 rfl rfl rfl))))⟩
  ·
   refine⟨_,rfl,rfl,(ao rfl (aJ hf rfl (aK rfl rfl fH rfl (fE s.opn (by omega))) (aF (ag hD23 rfl rfl rfl))))⟩
  ·
   refine⟨_,rfl,rfl,(ao rfl (aX hf rfl rfl rfl bY (aF (ag hD25 rfl rfl rfl))))⟩
 refine aN 6 #[true,false,true,true,true,true,false,true,false,false,false,true,false] ⟨53,[(1,.adr (aO s)),(2,.ref 2 0 0 0),(3,.ref 3 0 0 0),(8,.adr ((aO s).drop 0)),(11,.s (.int .i64 s.hor)),(13,.sl 4 (s.opn.map seC)),(15,.adr ((aO s).drop 4))],[(3,.box [.s (.int .i64 0),.s (.int .i64 0),.s (.slice none 0 0),.s (.slice none 0 0),.s (.slice none 0 0),.s (.slice none 0 0)]),(2,.box [.s (.int .i64 0),.s (.int .i64 0),.s (.slice none 0 0),.s (.slice none 0 0),.s (.slice none 0 0),.s (.slice none 0 0)])]⟩ ?_ (fun hD37=>?_)
 ·
  refine aH 1 [6,8] (by kernel_rfl) ⟨?_,?_,?_,trivial⟩
  ·
   refine⟨_,rfl,rfl,(ao rfl (aE aA 1 rfl (aF (ag hD18 rfl rfl rfl))))⟩
  ·
   refine⟨_,rfl,rfl,(ao rfl (aJ hf rfl (aK rfl rfl fH rfl (fE s.opn (by omega))) (aF (ag hD24 rfl rfl rfl))))⟩
  ·
   refine⟨_,rfl,rfl,(ao rfl (aE aA 1 rfl (aF (ag hD25 rfl rfl rfl))))⟩
 refine aN 6 #[true,false,true,true,true,false,false,true,true,false,false,true,false] ⟨53,[(1,.adr (aO s)),(2,.ref 2 0 0 0),(3,.ref 3 0 0 0),(8,.adr ((aO s).drop 0)),(11,.s (.int .i64 s.hor)),(12,.adr ((aO s).drop 2)),(16,.sl 4 (s.sub.map enC))],[(3,.box [.s (.int .i64 0),.s (.int .i64 0),.s (.slice none 0 0),.s (.slice none 0 0),.s (.slice none 0 0),.s (.slice none 0 0)]),(2,.box [.s (.int .i64 0),.s (.int .i64 0),.s (.slice none 0 0),.s (.slice none 0 0),.s (.slice none 0 0),.s (.slice none 0 0)])]⟩ ?_ (fun hD38=>?_)
 ·
  refine aH 1 [5] (by kernel_rfl) ⟨?_,?_,trivial⟩
  ·
   refine⟨_,rfl,rfl,(ao rfl (aE aA 1 rfl (aF (ag hD19 rfl rfl rfl))))⟩
  ·
   refine⟨_,rfl,rfl,(ao rfl (aE aA 1 rfl (aF (ag hD25 rfl rfl rfl))))⟩
 refine aN 6 #[true,false,true,false,true,true,true,true,true,false,false,false,false] ⟨53,[(1,.adr (aO s)),(2,.ref 2 0 0 0),(8,.adr ((aO s).drop 0)),(10,.adr ((aO s).drop 1)),(14,.sl 4 (s.opn.map seC)),(16,.sl 4 (s.sub.map enC))],[(2,.box [.s (.int .i64 0),.s (.int .i64 0),.s (.slice none 0 0),.s (.slice none 0 0),.s (.slice none 0 0),.s (.slice none 0 0)])]⟩ ?_ (fun hD39=>?_)
 ·
  refine aH 1 [3,9,11] (by kernel_rfl) ⟨?_,?_,?_,?_,trivial⟩
  ·
   refine⟨_,rfl,rfl,(ao rfl (aE aA 1 rfl (aF (ag hD20 rfl rfl rfl))))⟩
  ·
   refine⟨_,rfl,rfl,(ao rfl (aE aA 1 rfl (aF (ag hD23 rfl rfl rfl))))⟩
  ·
   refine⟨_,rfl,rfl,(ao rfl (aJ hf rfl (aK rfl rfl lS rfl (nN s.sub (by omega))) (aF (ag hD26 rfl rfl rfl))))⟩
  ·
   refine⟨_,rfl,rfl,(ao rfl (aX hf rfl rfl rfl bY (aF (ag hD27 rfl rfl rfl))))⟩
 refine aN 6 #[true,false,true,false,true,true,true,true,false,false,false,true,false] ⟨53,[(1,.adr (aO s)),(2,.ref 2 0 0 0),(3,.ref 3 0 0 0),(8,.adr ((aO s).drop 0)),(10,.adr ((aO s).drop 1)),(14,.sl 4 (s.opn.map seC)),(15,.adr ((aO s).drop 4))],[(3,.box [.s (.int .i64 0),.s (.int .i64 0),.s (.slice none 0 0),.s (.slice none 0 0),.s (.slice none 0 0),.s (.slice none 0 0)]),(2,.box [.s (.int .i64 0),.s (.int .i64 0),.s (.slice none 0 0),.s (.slice none 0 0),.s (.slice none 0 0),.s (.slice none 0 0)])]⟩ ?_ (fun hD40=>?_)
 ·
  refine aH 1 [3,8] (by kernel_rfl) ⟨?_,?_,?_,trivial⟩
  ·
   refine⟨_,rfl,rfl,(ao rfl (aE aA 1 rfl (aF (ag hD21 rfl rfl rfl))))⟩
  ·
   refine⟨_,rfl,rfl,(ao rfl (aE aA 1 rfl (aF (ag hD24 rfl rfl rfl))))⟩
  ·
   refine⟨_,rfl,rfl,(ao rfl (aE aA 1 rfl (aF (ag hD27 rfl rfl rfl))))⟩
 refine aN 6 #[true,false,true,false,true,true,false,true,true,false,false,true,false] ⟨53,[(1,.adr (aO s)),(2,.ref 2 0 0 0),(3,.ref 3 0 0 0),(8,.adr ((aO s).drop 0)),(10,.adr ((aO s).drop 1)),(13,.sl 4 (s.opn.map seC)),(16,.sl 4 (s.sub.map enC))],[(3,.box [.s (.int .i64 0),.s (.int .i64 0),.s (.slice none 0 0),.s (.slice none 0 0),.s (.slice none 0 0),.s (.slice none 0 0)]),(2,.box [.s (.int .i64 0),.s (.int .i64 0),.s (.slice none 0 0),.s (.slice none 0 0),.s (.slice none 0 0),.s (.slice none 0 0)])]⟩ ?_ (fun hD41=>?_)
 ·
  refine aH 1 [3,6] (by kernel_rfl) ⟨?_,?_,?_,trivial⟩
  ·
   refine⟨_,rfl,rfl,(ao rfl (aE aA 1 rfl (aF (ag hD22 rfl rfl rfl))))⟩
  ·
   refine⟨_,rfl,rfl,(ao rfl (aE aA 1 rfl (aF (ag hD25 rfl rfl rfl))))⟩
  ·
   refine⟨_,rfl,rfl,(ao rfl (aJ hf rfl (aK rfl rfl fH rfl (fE s.opn (by omega))) (aF (ag hD27 rfl rfl rfl))))⟩
 refine aN 7 #[true,true,true,true,true,false,false,true,false,false,false,false,false] ⟨53,[(1,.adr (aO s)),(2,.ref 2 0 0 0),(9,.s (.int .i64 s.now)),(11,.s (.int .i64 s.hor)),(12,.adr ((aO s).drop 2)),(15,.adr ((aO s).drop 4))],[(2,.box [.s (.int .i64 0),.s (.int .i64 0),.s (.slice none 0 0),.s (.slice none 0 0),.s (.slice none 0 0),.s (.slice none 0 0)])]⟩ ?_ (fun hD42=>?_)
 ·
  refine aH 5 [8,11] (by kernel_rfl) ⟨?_,?_,?_,trivial⟩
  ·
   refine⟨_,rfl,rfl,(ao rfl (aE aA 1 rfl (aF (ag hD28 rfl rfl rfl))))⟩
  ·
   refine⟨_,rfl,rfl,(ao rfl (aE aA 1 rfl (aF (ag hD29 rfl rfl rfl))))⟩
  ·
   refine⟨_,rfl,rfl,(ao rfl (aX hf rfl rfl rfl bY (aF (ag hD30 rfl rfl rfl))))⟩
 refine aN 7 #[true,true,true,false,true,true,false,true,false,false,false,false,false] ⟨53,[(1,.adr (aO s)),(2,.ref 2 0 0 0),(9,.s (.int .i64 s.now)),(10,.adr ((aO s).drop 1)),(13,.sl 4 (s.opn.map seC)),(15,.adr ((aO s).drop 4))],[(2,.box [.s (.int .i64 0),.s (.int .i64 0),.s (.slice none 0 0),.s (.slice none 0 0),.s (.slice none 0 0),.s (.slice none 0 0)])]⟩ ?_ (fun hD43=>?_)
 ·
  refine aH 3 [6,8,11] (by kernel_rfl) ⟨?_,?_,?_,?_,trivial⟩
  ·
   refine⟨_,rfl,rfl,(ao rfl (aE aA 1 rfl (aF (ag hD28 rfl rfl rfl))))⟩
  ·
   refine⟨_,rfl,rfl,(ao rfl (aJ hf rfl (aK rfl rfl fH rfl (fE s.opn (by omega))) (aF (ag hD31 rfl rfl rfl))))⟩
  ·
   refine⟨_,rfl,rfl,(ao rfl (aE aA 1 rfl (aF (ag hD32 rfl rfl rfl))))⟩
  ·
   refine⟨_,rfl,rfl,(ao rfl (aX hf rfl rfl rfl bY (aF (ag hD33 rfl rfl rfl))))⟩
 refine aN 7 #[true,true,true,false,true,false,false,true,true,false,false,false,false] ⟨53,[(1,.adr (aO s)),(2,.ref 2 0 0 0),(9,.s (.int .i64 s.now)),(10,.adr ((aO s).drop 1)),(12,.adr ((aO s).drop 2)),(16,.sl 4 (s.sub.map enC))],[(2,.box [.s (.int .i64 0),.s (.int .i64 0),.s (.slice none 0 0),.s (.slice none 0 0),.s (.slice none 0 0),.s (.slice none 0 0)])]⟩ ?_ (fun hD44=>?_)
 ·
  refine aH 3 [5,11] (by kernel_rfl) ⟨?_,?_,?_,trivial⟩
  ·
   refine⟨_,rfl,rfl,(ao rfl (aE aA 1 rfl (aF (ag hD29 rfl rfl rfl))))⟩
  ·
   refine⟨_,rfl,rfl,(ao rfl (aE aA 1 rfl (aF (ag hD32 rfl rfl rfl))))⟩
  ·
   refine⟨_,rfl,rfl,(ao rfl (aX hf rfl rfl rfl bY (aF (ag hD34 rfl rfl rfl))))⟩
 refine aN 7 #[true,true,true,false,true,false,false,true,false,false,false,true,false] ⟨53,[(1,.adr (aO s)),(2,.ref 2 0 0 0),(3,.ref 3 0 0 0),(9,.s (.int .i64 s.now)),(10,.adr ((aO s).drop 1)),(12,.adr ((aO s).drop 2)),(15,.adr ((aO s).drop 4))],[(3,.box [.s (.int .i64 0),.s (.int .i64 0),.s (.slice none 0 0),.s (.slice none 0 0),.s (.slice none 0 0),.s (.slice none 0 0)]),(2,.box [.s (.int .i64 0),.s (.int .i64 0),.s (.slice none 0 0),.s (.slice none 0 0),.s (.slice none 0 0),.s (.slice none 0 0)])]⟩ ?_ (fun hD45=>?_)
 ·
  refine aH 3 [5,8] (by kernel_rfl) ⟨?_,?_,?_,trivial⟩
  ·
   refine⟨_,rfl,rfl,(ao rfl (aE aA 1 rfl (aF (ag hD30 rfl rfl rfl))))⟩
  ·
   refine⟨_,rfl,rfl,(ao rfl (aE aA 1 rfl (aF (ag hD33 rfl rfl rfl))))⟩
  ·
   refine⟨_,rfl,rfl,(ao rfl (aE aA 1 rfl (aF (ag hD34 rfl rfl rfl))))⟩
 refine aN 7 #[true,false,true,true,true,true,false,true,false,false,false,false,false] ⟨53,[(1,.adr (aO s)),(2,.ref 2 0 0 0),(8,.adr ((aO s).drop 0)),(11,.s (.int .i64 s.hor)),(13,.sl 4 (s.opn.map seC)),(15,.adr ((aO s).drop 4))],[(2,.box [.s (.int .i64 0),.s (.int .i64 0),.s (.slice none 0 0),.s (.slice none 0 0),.s (.slice none 0 0),.s (.slice none 0 0)])]⟩ ?_ (fun hD46=>?_)
 ·
  refine aH 1 [6,8,11] (by kernel_rfl) ⟨?_,?_,?_,?_,trivial⟩
  ·
   refine⟨_,rfl,rfl,(ao rfl (aE aA 1 rfl (aF (ag hD28 rfl rfl rfl))))⟩
  ·
   refine⟨_,rfl,rfl,(ao rfl (aJ hf rfl (aK rfl rfl fH rfl (fE s.opn (by omega))) (aF (ag hD35 rfl rfl rfl))))⟩
  ·
   refine⟨_,rfl,rfl,(ao rfl (aE aA 1 rfl (aF (ag hD36 rfl rfl rfl))))⟩
  ·
   refine⟨_,rfl,rfl,(ao rfl (aX hf rfl rfl rfl bY (aF (ag hD37 rfl rfl rfl))))⟩
 refine aN 7 #[true,false,true,true,true,false,false,true,true,false,false,false,false] ⟨53,[(1,.adr (aO s)),(2,.ref 2 0 0 0),(8,.adr ((aO s).drop 0)),(11,.s (.int .i64 s.hor)),(12,.adr ((aO s).drop 2)),(16,.sl 4 (s.sub.map enC))],[(2,.box [.s (.int .i64 0),.s (.int .i64 0),.s (.slice none 0 0),.s (.slice none 0 0),.s (.slice none 0 0),.s (.slice none 0 0)])]⟩ ?_ (fun hD47=>?_)
 ·
  refine aH 1 [5,11] (by kernel_rfl) ⟨?_,?_,?_,trivial⟩
  ·
   refine⟨_,rfl,rfl,(ao rfl (aE aA 1 rfl (aF (ag hD29 rfl rfl rfl))))⟩
  ·
   refine⟨_,rfl,rfl,(ao rfl (aE aA 1 rfl (aF (ag hD36 rfl rfl rfl))))⟩
  ·
   refine⟨_,rfl,rfl,(ao rfl (aX hf rfl rfl rfl bY (aF (ag hD38 rfl rfl rfl))))⟩
 refine aN 7 #[true,false,true,true,true,false,false,true,false,false,false,true,false] ⟨53,[(1,.adr (aO s)),(2,.ref 2 0 0 0),(3,.ref 3 0 0 0),(8,.adr ((aO s).drop 0)),(11,.s (.int .i64 s.hor)),(12,.adr ((aO s).drop 2)),(15,.adr ((aO s).drop 4))],[(3,.box [.s (.int .i64 0),.s (.int .i64 0),.s (.slice none 0 0),.s (.slice none 0 0),.s (.slice none 0 0),.s (.slice none 0 0)]),(2,.box [.s (.int .i64 0),.s (.int .i64 0),.s (.slice none 0 0),.s (.slice none 0 0),.s (.slice none 0 0),.s (.slice none 0 0)])]⟩ ?_ (fun hD48=>?_)
 ·
  refine aH 1 [5,8] (by kernel_rfl) ⟨?_,?_,?_,trivial⟩
  ·
   refine⟨_,rfl,rfl,(ao rfl (aE aA 1 rfl (aF (ag hD30 rfl rfl rfl))))⟩
  ·
   refine⟨_,rfl,rfl,(ao rfl (aE aA 1 rfl (aF (ag hD37 rfl rfl rfl))))⟩
  ·
   refine⟨_,rfl,rfl,(ao rfl (aE aA 1 rfl (aF (ag hD38 rfl rfl rfl))))⟩
 refine aN 7 #[true,false,true,false,true,true,true,true,false,false,false,false,false] ⟨53,[(1,.adr (aO s)),(2,.ref 2 0 0 0),(8,.adr ((aO s).drop 0)),(10,.adr ((aO s).drop 1)),(14,.sl 4 (s.opn.map seC)),(15,.adr ((aO s).drop 4))],[(2,.box [.s (.int .i64 0),.s (.int .i64 0),.s (.slice none 0 0),.s (.slice none 0 0),.s (.slice none 0 0),.s (.slice none 0 0)])]⟩ ?_ (fun hD49=>?_)
 ·
  refine aH 1 [3,8,11] (by kernel_rfl) ⟨?_,?_,?_,?_,trivial⟩
  ·
   refine⟨_,rfl,rfl,(ao rfl (aE aA 1 rfl (aF (ag hD31 rfl rfl rfl))))⟩
  ·
   refine⟨_,rfl,rfl,(ao rfl (aE aA 1 rfl (aF (ag hD35 rfl rfl rfl))))⟩
  ·
   refine⟨_,rfl,rfl,(ao rfl (aE aA 1 rfl (aF (ag hD39 rfl rfl rfl))))⟩
  ·
   refine⟨_,rfl,rfl,(ao rfl (aX hf rfl rfl rfl bY (aF (ag hD40 rfl rfl rfl))))⟩
 refine aN 7 #[true,false,true,false,true,true,false,true,true,false,false,false,false] ⟨53,[(1,.adr (aO s)),(2,.ref 2 0 0 0),(8,.adr ((aO s).drop 0)),(10,.adr ((aO s).drop 1)),(13,.sl 4 (s.opn.map seC)),(16,.sl 4 (s.sub.map enC))],[(2,.box [.s (.int .i64 0),.s (.int .i64 0),.s (.slice none 0 0),.s (.slice none 0 0),.s (.slice none 0 0),.s (.slice none 0 0)])]⟩ ?_ (fun hD50=>?_)
 ·
  refine aH 1 [3,6,11] (by kernel_rfl) ⟨?_,?_,?_,?_,trivial⟩
  ·
   refine⟨_,rfl,rfl,(ao rfl (aE aA 1 rfl (aF (ag hD32 rfl rfl rfl))))⟩
  ·
   refine⟨_,rfl,rfl,(ao rfl (aE aA 1 rfl (aF (ag hD36 rfl rfl rfl))))⟩
  ·
   refine⟨_,rfl,rfl,(ao rfl (aJ hf rfl (aK rfl rfl fH rfl (fE s.opn (by omega))) (aF (ag hD39 rfl rfl rfl))))⟩
  ·
   refine⟨_,rfl,rfl,(ao rfl (aX hf rfl rfl rfl bY (aF (ag hD41 rfl rfl rfl))))⟩
 refine aN 7 #[true,false,true,false,true,true,false,true,false,false,false,true,false] ⟨53,[(1,.adr (aO s)),(2,.ref 2 0 0 0),(3,.ref 3 0 0 0),(8,.adr ((aO s).drop 0)),(10,.adr ((aO s).drop 1)),(13,.sl 4 (s.opn.map seC)),(15,.adr ((aO s).drop 4))],[(3,.box [.s (.int .i64 0),.s (.int .i64 0),.s (.slice none 0 0),.s (.slice none 0 0),.s (.slice none 0 0),.s (.slice none 0 0)]),(2,.box [.s (.int .i64 0),.s (.int .i64 0),.s (.slice none 0 0),.s (.slice none 0 0),.s (.slice none 0 0),.s (.slice none 0 0)])]⟩ ?_ (fun hD51=>?_)
 ·
  refine aH 1 [3,6,8] (by kernel_rfl) ⟨?_,?_,?_,?_,trivial⟩
  ·
   refine⟨_,rfl,rfl,(ao rfl (aE aA 1 rfl (aF (ag hD33 rfl rfl rfl))))⟩
  ·
   refine⟨_,rfl,rfl,(ao rfl (aE aA 1 rfl (aF (ag hD37 rfl rfl rfl))))⟩
  ·
   refine⟨_,rfl,rfl,(ao rfl (aJ hf rfl (aK rfl rfl fH rfl (fE s.opn (by omega))) (aF (ag hD40 rfl rfl rfl))))⟩
  ·
   refine⟨_,rfl,rfl,(ao rfl (aE aA 1 rfl (aF (ag hD41 rfl rfl rfl))))⟩
 refine aN 7 #[true,false,true,false,true,false,false,true,true,false,false,true,false] ⟨53,[(1,.adr (aO s)),(2,.ref 2 0 0 0),(3,.ref 3 0 0 0),(8,.adr ((aO s).drop 0)),(10,.adr ((aO s).drop 1)),(12,.adr ((aO s).drop 2)),(16,.sl 4 (s.sub.map enC))],[(3,.box [.s (.int .i64 0),.s (.int .i64 0),.s (.slice none 0 0),.s (.slice none 0 0),.s (.slice none 0 0),.s (.slice none 0 0)]),(2,.box [.s (.int .i64 0),.s (.int .i64 0),.s (.slice none 0 0),.s (.slice none 0 0),.s (.slice none 0 0),.s (.slice none 0 0)])]⟩ ?_ (fun hD52=>?_)
 ·
  refine aH 1 [3,5] (by kernel_rfl) ⟨?_,?_,?_,trivial⟩
  ·
   refine⟨_,rfl,rfl,(ao rfl (aE aA 1 rfl (aF (ag hD34 rfl rfl rfl))))⟩
  ·
   refine⟨_,rfl,rfl,(ao rfl (aE aA 1 rfl (aF (ag hD38 rfl rfl rfl))))⟩
  ·
   refine⟨_,rfl,rfl,(ao rfl (aE aA 1 rfl (aF (ag hD41 rfl rfl rfl))))⟩
 refine aN 8 #[true,true,true,false,true,false,false,true,false,false,false,false,false] ⟨53,[(1,.adr (aO s)),(2,.ref 2 0 0 0),(9,.s (.int .i64 s.now)),(10,.adr ((aO s).drop 1)),(12,.adr ((aO s).drop 2)),(15,.adr ((aO s).drop 4))],[(2,.box [.s (.int .i64 0),.s (.int .i64 0),.s (.slice none 0 0),.s (.slice none 0 0),.s (.slice none 0 0),.s (.slice none 0 0)])]⟩ ?_ (fun hD53=>?_)
 ·
  refine aH 3 [5,8,11] (by kernel_rfl) ⟨?_,?_,?_,?_,trivial⟩
  ·
   refine⟨_,rfl,rfl,(ao rfl (aE aA 1 rfl (aF (ag hD42 rfl rfl rfl))))⟩
  ·
   refine⟨_,rfl,rfl,(ao rfl (aE aA 1 rfl (aF (ag hD43 rfl rfl rfl))))⟩
  ·
   refine⟨_,rfl,rfl,(ao rfl (aE aA 1 rfl (aF (ag hD44 rfl rfl rfl))))⟩
  ·
   refine⟨_,rfl,rfl,(ao rfl (aX hf rfl rfl rfl bY (aF (ag hD45 rfl rfl rfl))))⟩
 refine aN 8 #[true,false,true,true,true,false,false,true,false,false,false,false,false] ⟨53,[(1,.adr (aO s)),(2,.ref 2 0 0 0),(8,.adr ((aO s).drop 0)),(11,.s (.int .i64 s.hor)),(12,.adr ((aO s).drop 2)),(15,.adr ((aO s).drop 4))],[(2,.box [.s (.int .i64 0),.s (.int .i64 0),.s (.slice none 0 0),.s (.slice none 0 0),.s (.slice none 0 0),.s (.slice none 0 0)])]⟩ ?_ (fun hD54=>?_)
 ·
  refine aH 1 [5,8,11] (by kernel_rfl) ⟨?_,?_,?_,?_,trivial⟩
  ·
   refine⟨_,rfl,rfl,(ao rfl (aE aA 1 rfl (aF (ag hD42 rfl rfl rfl))))⟩
  ·
   refine⟨_,rfl,rfl,(ao rfl (aE aA 1 rfl (aF (ag hD46 rfl rfl rfl))))⟩
  ·
   refine⟨_,rfl,rfl,(ao rfl (aE aA 1 rfl (aF (ag hD47 rfl rfl rfl))))⟩
  ·
   refine⟨_,rfl,rfl,(ao rfl (aX hf rfl rfl rfl bY (aF (ag hD48 rfl rfl rfl))))⟩
 refine aN 8 #[true,false,true,false,true,true,false,true,false,false,false,false,false] ⟨53,[(1,.adr (aO s)),(2,.ref 2 0 0 0),(8,.adr ((aO s).drop 0)),(10,.adr ((aO s).drop 1)),(13,.sl 4 (s.opn.map seC)),(15,.adr ((aO s).drop 4))],[(2,.box [.s (.int .i64 0),.s (.int .i64 0),.s (.slice none 0 0),.s (.slice none 0 0),.s (.slice none 0 0),.s (.slice none 0 0)])]⟩ ?_ (fun hD55=>?_)
 ·
  refine aH 1 [3,6,8,11] (by kernel_rfl) ⟨?_,?_,?_,?_,?_,trivial⟩
  ·
   refine⟨_,rfl,rfl,(ao rfl (aE aA 1 rfl (aF (ag hD43 rfl rfl rfl))))⟩
  ·
   refine⟨_,rfl,rfl,(ao rfl (aE aA 1 rfl (aF (ag hD46 rfl rfl rfl))))⟩
  ·
   refine⟨_,rfl,rfl,(ao rfl (aJ hf rfl (aK rfl rfl fH rfl (fE s.opn (by omega))) (aF (ag hD49 rfl rfl rfl))))⟩
  ·
   refine⟨_,rfl,rfl,(ao rfl (aE aA 1 rfl (aF (ag hD50 rfl rfl rfl))))⟩
  ·
   refine⟨_,rfl,rfl,(ao rfl (aX hf rfl rfl rfl bY (aF (ag hD51 rfl rfl rfl))))⟩
 refine aN 8 #[true,false,true,false,true,false,false,true,true,false,false,false,false] ⟨53,[(1,.adr (aO s)),(2,.ref 2 0 0 0),(8,.adr ((aO s).drop 0)),(10,.adr ((aO s).drop 1)),(12,.adr ((aO s).drop 2)),(16,.sl 4 (s.sub.map enC))],[(2,.box [.s (.int .i64 0),.s (.int .i64 0),.s (.slice none 0 0),.s (.slice none 0 0),.s (.slice none 0 0),.s (.slice none 0 0)])]⟩ ?_ (fun hD56=>?_)
 ·
  refine aH 1 [3,5,11] (by kernel_rfl) ⟨?_,?_,?_,?_,trivial⟩
  ·
   refine⟨_,rfl,rfl,(ao rfl (aE aA 1 rfl (aF (ag hD44 rfl rfl rfl))))⟩
  ·
   refine⟨_,rfl,rfl,(ao rfl (aE aA 1 rfl (aF (ag hD47 rfl rfl rfl))))⟩
  ·
   refine⟨_,rfl,rfl,(ao rfl (aE aA 1 rfl (aF (ag hD50 rfl rfl rfl))))⟩
  ·
   refine⟨_,rfl,rfl,(ao rfl (aX hf rfl rfl rfl bY (aF (ag hD52 rfl rfl rfl))))⟩
 refine aN 8 #[true,false,true,false,true,false,false,true,false,false,false,true,false] ⟨53,[(1,.adr (aO s)),(2,.ref 2 0 0 0),(3,.ref 3 0 0 0),(8,.adr ((aO s).drop 0)),(10,.adr ((aO s).drop 1)),(12,.adr ((aO s).drop 2)),(15,.adr ((aO s).drop 4))],[(3,.box [.s (.int .i64 0),.s (.int .i64 0),.s (.slice none 0 0),.s (.slice none 0 0),.s (.slice none 0 0),.s (.slice none 0 0)]),(2,.box [.s (.int .i64 0),.s (.int .i64 0),.s (.slice none 0 0),.s (.slice none 0 0),.s (.slice none 0 0),.s (.slice none 0 0)])]⟩ ?_ (fun hD57=>?_)
 ·
  refine aH 1 [3,5,8] (by kernel_rfl) ⟨?_,?_,?_,?_,trivial⟩
  ·
   refine⟨_,rfl,rfl,(ao rfl (aE aA 1 rfl (aF (ag hD45 rfl rfl rfl))))⟩
  ·
   refine⟨_,rfl,rfl,(ao rfl (aE aA 1 rfl (aF (ag hD48 rfl rfl rfl))))⟩
  ·
   refine⟨_,rfl,rfl,(ao rfl (aE aA 1 rfl (aF (ag hD51 rfl rfl rfl))))⟩
  ·
   refine⟨_,rfl,rfl,(ao rfl (aE aA 1 rfl (aF (ag hD52 rfl rfl rfl))))⟩
 refine jM (oY (sl':=[(1,.adr (aO s)),(2,.ref 2 0 0 0),(8,.adr ((aO s).drop 0)),(10,.adr ((aO s).drop 1)),(12,.adr ((aO s).drop 2)),(15,.adr ((aO s).drop 4))]) (m':=[(2,.box [.s (.int .i64 0),.s (.int .i64 0),.s (.slice none 0 0),.s (.slice none 0 0),.s (.slice none 0 0),.s (.slice none 0 0)])]) rfl rfl rfl) (aH 1 [3,5,8,11] (by kernel_rfl) ⟨?_,?_,?_,?_,?_,trivial⟩)
 ·
  refine⟨_,rfl,rfl,(ao rfl (aE aA 1 rfl (aF (ag hD53 rfl rfl rfl))))⟩
 ·
  refine⟨_,rfl,rfl,(ao rfl (aE aA 1 rfl (aF (ag hD54 rfl rfl rfl))))⟩
 ·
  refine⟨_,rfl,rfl,(ao rfl (aE aA 1 rfl (aF (ag hD55 rfl rfl rfl))))⟩
 ·
  refine⟨_,rfl,rfl,(ao rfl (aE aA 1 rfl (aF (ag hD56 rfl rfl rfl))))⟩
 ·
  refine⟨_,rfl,rfl,(ao rfl (aX hf rfl rfl rfl bY (aF (ag hD57 rfl rfl rfl))))⟩
theorem lJ (s:Sta) (hz:SzS 140737488352000 s) :Den Tryz.prog 12 [.agg (aO s)]  (·=.s (.int .i64 (manyI s))):=by
 refine aS Tryz.func12 rfl (Nat.le_of_ble_eq_true rfl) (fun w0 A hf=>(aC (fun K1 hK1=>(aB (aJ hf rfl (cI rfl rfl (lf rfl)) (aE aA 1 rfl (aD (hK1 _ (aC (fun K2 hK2=>(cM hf bE (by kernel_rfl) rfl (aT aA 1 rfl (aZ [(3,_)] rfl rfl ⟨⟨rfl,rfl⟩,trivial⟩ rfl (aK rfl rfl aHa rfl (vY s hz)) (aT aA 3 rfl (bL [(4,_),(7,_)] rfl rfl ⟨⟨rfl,rfl⟩,⟨rfl,rfl⟩,trivial⟩ rfl (cU rfl rfl rfl) ?_)))))))))))))))
 refine aT aA 1 rfl (cP [2] rfl rfl rfl (hK2 _ (aI ?_)))
 refine⟨_,rfl,?_⟩
 simp only[manyI,List.length_map]; rfl
end Go.Proofs.YtckjaledibkghaaGreat
set_option linter.unusedVariables false
set_option linter.unusedSimpArgs false
namespace Go.Proofs.YtckjaledibkghaaGreat
open Go Go.Abs
theorem zD (a b:Sta) (ha:SzS 140737488355328 a) (hb:SzS 140737488355328 b) :Den Tryz.prog 26 [.agg (aO a),.agg (aO b)]  (·=.s (.bool (decide (a=b)))):=by
 have a1:=ha.o
 have a2:=ha.u
 have a3:=ha.b
 have a4:=ha.t
 have b1:=hb.o
 have b2:=hb.u
 have b3:=hb.b
 have b4:=hb.t
 refine aS Tryz.func26 rfl (Nat.le_of_ble_eq_true rfl) (fun w0 A hf=>(aC (fun K1 hK1=>(aB (aJ hf rfl (cI rfl rfl (lf rfl)) (aJ hf rfl (cI rfl rfl (lf rfl)) (aE aA 1 rfl (aD (hK1 _ (aC (fun K2 hK2=>(aB (aE aA 4 rfl (aJ hf rfl (aK rfl rfl aRf rfl (aEv a.usr b.usr (by omega) (by omega) (fun x hx=>by have:=ha.y x hx; omega) (fun x hx=>by have:=hb.y x hx; omega))) ?_))))))))))))))
 refine aE aA 1 rfl (aD (hK2 _ (aC (fun K3 hK3=>(aB (aE aA 4 rfl (aG rfl (aCo rfl aJh aHe bZ (l3 rfl) rfl) (aE aA 4 rfl (aG rfl (aCo rfl aJh aHe bZ (l3 rfl) rfl) (aG rfl (jL rfl rfl aUu rfl) (aE aA 1 rfl (aD (hK3 _ ?_)))))))))))))
 refine aC (fun K4 hK4=>(aB (aE aA 2 rfl (aW rfl rfl rfl (fun hg1=>?_) (fun hg1=>?_)))))
 ·
  simp only[bs] at hg1
  refine aG rfl (gJ rfl) (aE aA 2 rfl (aW rfl rfl rfl (fun hg2=>?_) (fun hg2=>?_)))
  ·
   simp only[bs] at hg2
   refine aG rfl (bF rfl qA jZ rfl) ?_
   refine aE aA 3 rfl (bI rfl rfl rfl (aJ hf rfl (aK rfl rfl aRc rfl (aP3 a.opn b.opn (by omega) (by omega))) (aE aA 2 rfl (aW rfl rfl rfl (fun hg3=>?_) (fun hg3=>?_)))))
   ·
    simp only[bs] at hg3
    refine aG rfl (bF rfl pZ kS rfl) ?_
    refine aE aA 3 rfl (bI rfl rfl rfl (aJ hf rfl (aK rfl rfl aRb rfl (aTg a.sub b.sub (by omega) (by omega))) (aE aA 2 rfl (aW rfl rfl rfl (fun hg4=>?_) (fun hg4=>?_)))))
    ·
     simp only[bs] at hg4
     refine aG rfl (bF rfl wT sD rfl) ?_
     refine aE aA 3 rfl (bI rfl rfl rfl (aJ hf rfl (aK rfl rfl aRa rfl (aPz a.tmb b.tmb (by omega) (by omega))) (aE aA 2 rfl (aD (hK4 _ (aI ?_))))))
     refine⟨_,rfl,?_⟩
     refine aP ?_
     rw[Bool.eq_iff_iff]
     simp only[oE]
     simp_all
    ·
     simp only[bs] at hg4
     refine aE aA 6 rfl (aD (hK4 _ (aI ?_)))
     refine⟨_,rfl,?_⟩
     refine aP ?_
     rw[Bool.eq_iff_iff]
     simp only[oE]
     simp_all
   ·
    simp only[bs] at hg3
    refine aE aA 13 rfl (aD (hK4 _ (aI ?_)))
    refine⟨_,rfl,?_⟩
    refine aP ?_
    rw[Bool.eq_iff_iff]
    simp only[oE]
    simp_all
  ·
   simp only[bs] at hg2
   refine aE aA 20 rfl (aD (hK4 _ (aI ?_)))
   refine⟨_,rfl,?_⟩
   refine aP ?_
   rw[Bool.eq_iff_iff]
   simp only[oE]
   simp_all
 ·
  simp only[bs] at hg1
  refine aE aA 23 rfl (aD (hK4 _ (aI ?_)))
  refine⟨_,rfl,?_⟩
  refine aP ?_
  rw[Bool.eq_iff_iff]
  simp only[oE]
  simp_all
end Go.Proofs.YtckjaledibkghaaGreat
