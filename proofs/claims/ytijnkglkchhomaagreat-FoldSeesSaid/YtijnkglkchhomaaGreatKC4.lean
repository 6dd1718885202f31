import Derived.WalkKit
import Derived.WalkSpells
import Derived.WalkLawsBesides
import Derived.Deep.LoopGhost
import Derived.ChangeKeysEq
import Derived.Still
import Derived.Lib.AppendZeros
import Derived.Laws.StructEq
import Derived.OpenShut
import Derived.Scope
import Derived.Shelf.SlSortCmp.Kit1
import Derived.Shelf.SlSortCmp.InsertionK
import Derived.Lib.SlicesCompact
import Derived.ProofKit
import Derived.ChangeSame
import Derived.Carry
import Derived.SliceStrings
import Derived.ChangeMaps5
import Derived.Deep.Slices
import Derived.Test.YtijnkglkchhomaaGreatRows
import Derived.Shelf.Abstract
import Derived.Deep.RegionLaw
import Derived.Lib.Walk
import Derived.Lib.Overlaps
import Derived.Lib.AppendZerosOnto
import Derived.Laws.CopyRow
import Derived.Shelf.SlSortCmp.WholeK
import Derived.Shelf.SlSortCmp.Whole1
import Derived.Shelf.SlSortCmp.NoneTotal
import Derived.Test.YtijnkglkchhomaaGreatKC1
import Derived.Test.YtijnkglkchhomaaGreatKC2
import Derived.Test.YtijnkglkchhomaaGreatKC3
set_option maxRecDepth 20000
set_option maxHeartbeats 16000000
set_option linter.unusedVariables false
set_option linter.unusedSimpArgs false
namespace Go.Proofs.YtijnkglkchhomaaGreat
open Go Go.Abs
theorem aMg (l:List Sp) (t:Int) (hl:l.length≤9223372036854775807) :Den Tryz.prog 129 [.sl 2 (l.map spC),.s (.int .i64 t)]  (·=.s (.bool (fU l t))):=by
 refine aS Tryz.func129 rfl (Nat.le_of_ble_eq_true rfl) (fun w0 A hf=>(aC (fun K1 hK1=>(aB (aE aA 1 rfl (aD (hK1 _ (aC (fun K2 hK2=>(aC (fun K3 hK3=>(aB (aE aA 1 rfl (aD (hK3 _ (aO ?_))))))))))))))))
 refine bS (ι:=Nat) (fun k=>⟨28,[(0,.sl 2 (l.map spC)),(1,.s (.int .i64 t)),(5,.s (.int .i64 (k:Nat)))],[]⟩) (fun k=>k≤l.length∧fU l t=fU (l.drop k) t) (fun k=>l.length - k) 0 ?_ ?_ ?_
 · exact⟨Nat.zero_le _,rfl⟩
 · exact dN rfl
 ·
  rintro k hC
  obtain ⟨h1,h2⟩:=hC
  refine aC (fun K4 hK4=>(aC (fun K5 hK5=>(aB (aE aA 4 rfl (aD (hK5 _ (aI rfl (fun hc1=>?_) (fun hc1=>?_)))))))))
  ·
   simp only[bs] at hc1
   refine aL (hK4 _ (aC (fun K6 hK6=>(aO (aC (fun K7 hK7=>(aB (aE aA 2 rfl ?_))))))))
   refine aF rfl (aW rfl rfl mP kT (by first | exact ixm (by omega) | assumption | exact⟨by decide,rfl⟩)) ?_
   refine aE aA 5 rfl (aY rfl rfl rfl (fun hg2=>?_) (fun hg2=>?_))
   ·
    simp only[bs] at hg2
    refine aF rfl (fA rfl) (aE aA 2 rfl (bK rfl rfl rfl ?_))
    refine aF rfl (aW rfl rfl mP kT (by first | exact ixm (by omega) | assumption | exact⟨by decide,rfl⟩)) ?_
    refine aE aA 4 rfl (aD (hK7 _ (aI rfl (fun hc3=>?_) (fun hc3=>?_))))
    ·
     simp only[bs] at hc3
     refine aC (fun K8 hK8=>(aB (aE aA 1 rfl (aD (hK8 _ (aJ ?_))))))
     refine⟨_,rfl,?_⟩
     refine aV ?_
     rw[h2,List.drop_eq_getElem_cons (show k<l.length by omega),jP]
     simp; omega
    ·
     simp only[bs] at hc3
     refine aL (hK6 _ (aB (aE aA 1 rfl ?_)))
     refine aF rfl (bJ rfl rfl (by omega) (by omega)) ?_
     refine aE aA 1 rfl (aD ?_)
     exact⟨k+1,⟨by omega,by rw[h2,List.drop_eq_getElem_cons (show k<l.length by omega),jP,Bool.or_eq_right_iff_imp]; simp; omega⟩,by omega,dN rfl⟩
   ·
    simp only[bs] at hg2
    refine aE aA 7 rfl (aD (hK7 _ (bD rfl (aL (hK6 _ (aB (aE aA 1 rfl ?_)))))))
    refine aF rfl (bJ rfl rfl (by omega) (by omega)) ?_
    refine aE aA 1 rfl (aD ?_)
    exact⟨k+1,⟨by omega,by rw[h2,List.drop_eq_getElem_cons (show k<l.length by omega),jP,Bool.or_eq_right_iff_imp]; simp; omega⟩,by omega,dN rfl⟩
  ·
   simp only[bs] at hc1
   refine bA (hK2 _ (aC (fun K9 hK9=>(aB (aE aA 1 rfl (aD (hK9 _ (aJ ?_))))))))
   refine⟨_,rfl,?_⟩
   refine aV ?_
   rw[h2,List.drop_eq_nil_of_le (by omega)]; rfl
theorem aOi (l:List Int) (n:Int) (hl:l.length≤1000000000000) :Den Tryz.prog 181 [.sl 1 (l.map aIo),.s (.int .i64 n)]  (·=.sl 1 (jV l n |>.map aIo)):=by
 refine aS Tryz.func181 rfl (Nat.le_of_ble_eq_true rfl) (fun w0 A hf=>(aC (fun K1 hK1=>(aB (aF rfl (bE) (aD (hK1 _ (aC (fun K2 hK2=>(aB (jK hf 1 rfl rfl rfl (aD (hK2 _ (aC (fun K3 hK3=>(aB ?_))))))))))))))))
 refine aE aA 1 rfl (aD (hK3 _ (aC (fun K4 hK4=>(aC (fun K5 hK5=>(aB (aE aA 1 rfl (aD (hK5 _ (aO (bS (ι:=Nat×List Int×Bool) (fun(⟨k,out,done⟩:Nat×List Int×Bool)=>⟨48,[(0,.sl 1 (l.map aIo)),(1,.s (.int .i64 n)),(5,.own 5 1 0 out.length),(6,.s (.bool done)),(7,.s (.int .i64 (k:Nat)))],[(5,.buf 1 (out.map aIo))]⟩) (fun(⟨k,out,done⟩:Nat×List Int×Bool)=>k≤l.length∧aAl l n k out done) (fun(⟨k,out,done⟩:Nat×List Int×Bool)=>l.length - k) (0,[],false) ?_ ?_ ?_))))))))))))
 · exact⟨Nat.zero_le _,aPg l n⟩
 · exact dN rfl
 ·
  rintro ⟨k,out,done⟩ hC
  obtain ⟨h1,hI⟩:=hC
  have hle:=put_le hI
  refine aC (fun K6 hK6=>(aC (fun K7 hK7=>(aB (aE aA 4 rfl (aD (hK7 _ (aI rfl (fun hc1=>?_) (fun hc1=>?_)))))))))
  ·
   simp only[bs] at hc1
   refine aL (hK6 _ (aC (fun K8 hK8=>(aO (aC (fun K9 hK9=>(aC (fun K10 hK10=>(aB (aE aA 2 rfl ?_))))))))))
   refine aF rfl (aW rfl rfl jT cB (by first | exact ixm (by omega) | assumption | exact⟨by decide,rfl⟩)) ?_
   refine aE aA 3 rfl (aD (hK10 _ (aI rfl (fun hc2=>?_) (fun hc2=>?_))))
   ·
    simp only[bs] at hc2
    refine aB (aE aA 1 rfl (aD (hK9 _ (aC (fun K11 hK11=>(aC (fun K12 hK12=>(aB (aE aA 10 rfl (aD (hK12 _ (bD rfl (aL (hK11 _ ?_))))))))))))))
    refine aB (aE aA 3 rfl ?_)
    refine aF rfl (aW rfl rfl jT cB (by first | exact ixm (by omega) | assumption | exact⟨by decide,rfl⟩)) ?_
    refine aE aA 1 rfl (aK hf rfl (aN fC rfl rfl rfl rfl (l2 rfl)) (aT hf rfl fC rfl rfl rfl (.inl rfl) (by simp only[List.length_map,List.length_append,List.length_cons,List.length_nil]) rfl (by first | rfl | simp [cV,bF]) (by first | (simp only[maxLen,List.length_map,List.length_append,List.length_cons,List.length_nil]; omega) | (simp [maxLen] <;> omega)) (by first | (simp only[List.length_map,List.length_append,List.length_cons,List.length_nil]; omega) | (simp <;> omega)) ?_))
    refine aQ (cD [0,1,6,7,40] rfl) (aE aA 1 rfl ?_)
    refine bB ?_
    refine hK8 _ (aB (aE aA 1 rfl ?_))
    refine aF rfl (bJ rfl rfl (by omega) (by omega)) ?_
    refine aE aA 1 rfl (aD ?_)
    exact⟨(k+1,out++[l[k]],true),⟨by omega,put_eq hI (by omega) (by assumption)⟩,by simp only; omega,bT ⟨rfl,rfl,(by simp only[List.length_append]; rfl),rfl,rfl,trivial⟩ (by simp only[List.map_append]; rfl)⟩
   ·
    simp only[bs] at hc2
    refine aL (hK9 _ (aC (fun K13 hK13=>(aC (fun K14 hK14=>(aB (aE aA 3 rfl (aY rfl rfl rfl (fun hg4=>?_) (fun hg4=>?_)))))))))
    ·
     simp only[bs] at hg4
     refine aF rfl (fA rfl) (aE aA 2 rfl (bK rfl rfl rfl ?_))
     refine aF rfl (aW rfl rfl jT cB (by first | exact ixm (by omega) | assumption | exact⟨by decide,rfl⟩)) ?_
     refine aE aA 3 rfl (aD (hK14 _ (aI rfl (fun hc5=>?_) (fun hc5=>?_))))
     ·
      simp only[bs] at hc5
      refine aC (fun K15 hK15=>(aB (aE aA 2 rfl (aK hf rfl (aN fC rfl rfl rfl rfl (l2 rfl)) (aT hf rfl fC rfl rfl rfl (.inl rfl) (by simp only[List.length_map,List.length_append,List.length_cons,List.length_nil]) rfl (by first | rfl | simp [cV,bF]) (by first | (simp only[maxLen,List.length_map,List.length_append,List.length_cons,List.length_nil]; omega) | (simp [maxLen] <;> omega)) (by first | (simp only[List.length_map,List.length_append,List.length_cons,List.length_nil]; omega) | (simp <;> omega)) ?_)))))
      refine aQ (cD [0,1,7,33] rfl) (aE aA 1 rfl (aD (hK15 _ (aB (aE aA 1 rfl (aD (hK13 _ (aB (aE aA 3 rfl ?_)))))))))
      refine aF rfl (aW rfl rfl jT cB (by first | exact ixm (by omega) | assumption | exact⟨by decide,rfl⟩)) ?_
      refine aE aA 1 rfl (aK hf rfl (aN fC rfl rfl rfl rfl (l2 rfl)) (aT hf rfl fC rfl rfl rfl (.inl rfl) (by simp only[List.length_map,List.length_append,List.length_cons,List.length_nil]) rfl (by first | rfl | simp [cV,bF]) (by first | (simp only[maxLen,List.length_map,List.length_append,List.length_cons,List.length_nil]; omega) | (simp [maxLen] <;> omega)) (by first | (simp only[List.length_map,List.length_append,List.length_cons,List.length_nil]; omega) | (simp <;> omega)) ?_))
      refine aQ (cD [0,1,6,7,40] rfl) (aE aA 1 rfl ?_)
      refine bB ?_
      refine hK8 _ (aB (aE aA 1 rfl ?_))
      refine aF rfl (bJ rfl rfl (by omega) (by omega)) ?_
      refine aE aA 1 rfl (aD ?_)
      exact⟨(k+1,out++[n]++[l[k]],true),⟨by omega,put_ins (by assumption) hI (by omega) (by omega)⟩,by simp only; omega,bT ⟨rfl,rfl,(by simp only[List.length_append]; rfl),rfl,rfl,trivial⟩ (by simp only[List.map_append]; rfl)⟩
     ·
      simp only[bs] at hc5
      refine aL (hK13 _ (aB (aE aA 3 rfl ?_)))
      refine aF rfl (aW rfl rfl jT cB (by first | exact ixm (by omega) | assumption | exact⟨by decide,rfl⟩)) ?_
      refine aE aA 1 rfl (aK hf rfl (aN fC rfl rfl rfl rfl (l2 rfl)) (aT hf rfl fC rfl rfl rfl (.inl rfl) (by simp only[List.length_map,List.length_append,List.length_cons,List.length_nil]) rfl (by first | rfl | simp [cV,bF]) (by first | (simp only[maxLen,List.length_map,List.length_append,List.length_cons,List.length_nil]; omega) | (simp [maxLen] <;> omega)) (by first | (simp only[List.length_map,List.length_append,List.length_cons,List.length_nil]; omega) | (simp <;> omega)) ?_))
      refine aQ (cD [0,1,6,7,40] rfl) (aE aA 1 rfl ?_)
      refine bB ?_
      refine hK8 _ (aB (aE aA 1 rfl ?_))
      refine aF rfl (bJ rfl rfl (by omega) (by omega)) ?_
      refine aE aA 1 rfl (aD ?_)
      exact⟨(k+1,out++[l[k]],done),⟨by omega,put_go (by assumption) hI (by omega) (by omega) (by omega)⟩,by simp only; omega,bT ⟨rfl,rfl,(by simp only[List.length_append]; rfl),rfl,rfl,trivial⟩ (by simp only[List.map_append]; rfl)⟩
    ·
     simp only[bs] at hg4
     refine aE aA 6 rfl (aD (hK14 _ (bD rfl (aL (hK13 _ (aB (aE aA 3 rfl ?_)))))))
     refine aF rfl (aW rfl rfl jT cB (by first | exact ixm (by omega) | assumption | exact⟨by decide,rfl⟩)) ?_
     refine aE aA 1 rfl (aK hf rfl (aN fC rfl rfl rfl rfl (l2 rfl)) (aT hf rfl fC rfl rfl rfl (.inl rfl) (by simp only[List.length_map,List.length_append,List.length_cons,List.length_nil]) rfl (by first | rfl | simp [cV,bF]) (by first | (simp only[maxLen,List.length_map,List.length_append,List.length_cons,List.length_nil]; omega) | (simp [maxLen] <;> omega)) (by first | (simp only[List.length_map,List.length_append,List.length_cons,List.length_nil]; omega) | (simp <;> omega)) ?_))
     refine aQ (cD [0,1,6,7,40] rfl) (aE aA 1 rfl ?_)
     refine bB ?_
     refine hK8 _ (aB (aE aA 1 rfl ?_))
     refine aF rfl (bJ rfl rfl (by omega) (by omega)) ?_
     refine aE aA 1 rfl (aD ?_)
     exact⟨(k+1,out++[l[k]],done),⟨by omega,aRg (by assumption) hI (by omega)⟩,by simp only; omega,bT ⟨rfl,rfl,(by simp only[List.length_append]; rfl),rfl,rfl,trivial⟩ (by simp only[List.map_append]; rfl)⟩
  ·
   simp only[bs] at hc1
   refine bA (hK4 _ (aC (fun K16 hK16=>(aC (fun K17 hK17=>(aB (aE aA 2 rfl (aD (hK17 _ (aI rfl (fun hc7=>?_) (fun hc7=>?_)))))))))))
   ·
    simp only[bs] at hc7
    refine aB (aE aA 2 rfl (aK hf rfl (aN fC rfl rfl rfl rfl (l2 rfl)) (aT hf rfl fC rfl rfl rfl (.inl rfl) (by simp only[List.length_map,List.length_append,List.length_cons,List.length_nil]) rfl (by first | rfl | simp [cV,bF]) (by first | (simp only[maxLen,List.length_map,List.length_append,List.length_cons,List.length_nil]; omega) | (simp [maxLen] <;> omega)) (by first | (simp only[List.length_map,List.length_append,List.length_cons,List.length_nil]; omega) | (simp <;> omega)) ?_)))
    refine aQ (cD [46] rfl) (aE aA 1 rfl (aD (hK16 _ (aC (fun K18 hK18=>(aB (aE aA 2 rfl (aD (hK18 _ (aJ ?_))))))))))
    refine⟨_,rfl,?_⟩
    (refine(bV (g:=5) rfl (by simp only[List.length_append,List.length_map,List.length_cons,List.length_nil])).trans ?_; rw[aOh hI (by omega),if_neg (by simp_all),List.map_append]; rfl)
   ·
    simp only[bs] at hc7
    refine aL (hK16 _ (aC (fun K19 hK19=>(aB (aE aA 2 rfl (aD (hK19 _ (aJ ?_))))))))
    refine⟨_,rfl,?_⟩
    (refine(bV (g:=5) rfl (by simp only[List.length_map])).trans ?_; rw[aOh hI (by omega),if_pos (by assumption),List.append_nil])
theorem aSb (l:List Sp) (hl:l.length≤100000000000) :Den Tryz.prog 128 [.sl 2 (l.map spC)]  (·=.sl 1 (jM l |>.map aIo)):=by
 refine aS Tryz.func128 rfl (Nat.le_of_ble_eq_true rfl) (fun w0 A hf=>(aC (fun K1 hK1=>(aB (aF rfl (bE) (aD (hK1 _ (aC (fun K2 hK2=>(aB (aF rfl (oZ (k:=1)) (aD (hK2 _ (aC (fun K3 hK3=>(aC (fun K4 hK4=>?_)))))))))))))))))
 refine aB (aE aA 1 rfl (aD (hK4 _ (aO (bS (ι:=Nat×List Int) (fun(⟨k,out⟩:Nat×List Int)=>⟨25,[(0,.sl 2 (l.map spC)),(3,.sl 1 (out.map aIo)),(4,.s (.int .i64 (k:Nat)))],[]⟩) (fun(⟨k,out⟩:Nat×List Int)=>k≤l.length∧out=(l.take k).foldl aOr []∧out.length≤2*k) (fun(⟨k,out⟩:Nat×List Int)=>l.length - k) (0,[]) ?_ ?_ ?_)))))
 · exact⟨Nat.zero_le _,rfl,Nat.zero_le _⟩
 · exact dN rfl
 ·
  rintro ⟨k,out⟩ hC
  obtain ⟨h1,h2,h3⟩:=hC
  refine aC (fun K5 hK5=>(aC (fun K6 hK6=>(aB (aE aA 4 rfl (aD (hK6 _ (aI rfl (fun hc1=>?_) (fun hc1=>?_)))))))))
  ·
   simp only[bs] at hc1
   refine aL (hK5 _ (aC (fun K7 hK7=>(aO (eQ hf bN (by kernel_rfl) rfl (bL aA 3 rfl ?_))))))
   refine bY [(12,_),(13,_)] rfl rfl ⟨⟨rfl,rfl⟩,⟨rfl,rfl⟩,trivial⟩ rfl (aW rfl rfl mP kT (by first | exact ixm (by omega) | assumption | exact⟨by decide,rfl⟩)) ?_
   refine bL aA 2 rfl (cA [(11,_),(16,_)] rfl rfl ⟨⟨rfl,rfl⟩,⟨rfl,rfl⟩,trivial⟩ rfl (aR rfl rfl zK rfl (aOi _ _ (by omega))) (bL aA 2 rfl ?_))
   refine bY [(18,_),(19,_)] rfl rfl ⟨⟨rfl,rfl⟩,⟨rfl,rfl⟩,trivial⟩ rfl (aW rfl rfl mP kT (by first | exact ixm (by omega) | assumption | exact⟨by decide,rfl⟩)) ?_
   refine bL aA 2 rfl ?_
   have hp1:=sR out l[k].1
   refine cA [(17,_),(22,_)] rfl rfl ⟨⟨rfl,rfl⟩,⟨rfl,rfl⟩,trivial⟩ rfl (aR rfl rfl zK rfl (aOi _ _ (by omega))) (bL aA 1 rfl (gE [0,3,4] rfl rfl rfl (hK7 _ (aB (aE aA 1 rfl ?_)))))
   refine aF rfl (bJ rfl rfl (by omega) (by omega)) ?_
   refine aE aA 1 rfl (aD ?_)
   exact⟨(k+1,jV (jV out l[k].1) l[k].2),⟨by omega,by rw[mS l aOr [] k (by omega),← h2]; rfl,by have:=sR (jV out l[k].1) l[k].2; have:=sR out l[k].1; omega⟩,by simp only; omega,dN rfl⟩
  ·
   simp only[bs] at hc1
   refine bA (hK3 _ (aC (fun K8 hK8=>(aB (aE aA 2 rfl (aD (hK8 _ (aJ ?_))))))))
   refine⟨_,rfl,?_⟩
   show AV.sl 1 (out.map aIo)=_
   rw[h2,List.take_of_length_le (by omega)]; rfl
theorem aR3 (out:List Sp) (s:Sp) (n:Nat) (hn:n=out.length) (hl:out.length≤1000000000000) :DenR Tryz.prog 130 [.own E0 2 0 n,.agg (spC s)] 2 ((out.map spC)) (·=(eB out s).map spC):=by
 refine aM3 Tryz.func130 rfl (Nat.le_of_ble_eq_true rfl) (args':=[.own G0 2 0 n,.agg (spC s)]) rfl (fun w0 x0 A hf=>?_)
 refine aC (fun K1 hK1=>(aB (aK hf rfl (cL rfl rfl (lf rfl)) (aF rfl (bE) (aD (hK1 _ (aC (fun K2 hK2=>(aB (aE aA 3 rfl (aD (hK2 _ (aC (fun K3 hK3=>(aC (fun K4 hK4=>?_))))))))))))))))
 refine eQ hf bN (by kernel_rfl) rfl (bL aA 3 rfl (rZ 10 true rfl (fun hg1=>?_) (fun hg1=>?_)))
 ·
  simp only[bs] at hg1
  refine bL aA 2 rfl ?_
  refine bY [(12,_)] rfl rfl ⟨⟨rfl,rfl⟩,trivial⟩ rfl (fE rfl rfl (by omega) (by omega)) ?_
  refine bY [(11,_),(13,_)] rfl rfl ⟨⟨rfl,rfl⟩,⟨rfl,rfl⟩,trivial⟩ rfl (bX rfl rfl mP kT (by omega)) ?_
  refine bL aA 1 rfl (bY [(15,_)] rfl rfl ⟨⟨rfl,rfl⟩,trivial⟩ rfl (gR rfl kS rfl (c:=.s (.int .i64 (out[out.length - 1]'(by omega)).2)) (hJ (c:=2) (k:=out.length - 1) (enc:=spC) (by omega) (by omega) 1)) (bL aA 4 rfl (gE [0,3,5,20] rfl rfl rfl (hK4 _ (aI rfl (fun hc2=>?_) (fun hc2=>?_))))))
  ·
   simp only[bs] at hc2
   refine aC (fun K5 hK5=>(eY bN ?_))
   refine bR (listed':=#[false,true,false,false,false,false,false,false,false,false,false,false,false,false,false,false,false,false]) 1 rfl (by kernel_rfl) (by kernel_rfl) (by kernel_rfl) rfl (fun _ _ h=>h) (dO rfl) ?_
   refine bR (listed':=#[false,true,true,false,false,false,false,false,false,false,false,false,false,false,false,false,false,false]) 2 rfl (by kernel_rfl) (by kernel_rfl) (by kernel_rfl) rfl (fun _ _ h=>h) (dO rfl) ?_
   refine bR (listed':=#[false,true,true,true,false,false,false,false,false,false,false,false,false,false,false,false,false,false]) 3 rfl (by kernel_rfl) (by kernel_rfl) (by kernel_rfl) rfl (fun _ _ h=>h) (aEf rfl rfl (by omega) (by omega)) ?_
   refine bR (listed':=#[false,true,true,true,true,false,false,false,false,false,false,false,false,false,false,false,false,false]) 4 rfl (by kernel_rfl) (by kernel_rfl) (by kernel_rfl) rfl (fun _ _ h=>h) (aG1 rfl mP kT rfl (iZ rfl (by omega)) (by omega) (by omega)) ?_
   refine bR (listed':=#[false,true,true,true,true,false,true,false,false,false,false,false,false,false,false,false,false,false]) 6 rfl (by kernel_rfl) (by kernel_rfl) (by kernel_rfl) rfl (fun _ _ h=>h) (dO rfl) ?_
   refine bR (listed':=#[false,true,true,true,true,false,true,true,false,false,false,false,false,false,false,false,false,false]) 7 rfl (by kernel_rfl) (by kernel_rfl) (by kernel_rfl) rfl (fun _ _ h=>h) (dO rfl) ?_
   refine bR (listed':=#[false,true,true,true,true,false,true,true,true,false,false,false,false,false,false,false,false,false]) 8 rfl (by kernel_rfl) (by kernel_rfl) (by kernel_rfl) rfl (fun _ _ h=>h) (aEf rfl rfl (by omega) (by omega)) ?_
   refine bR (listed':=#[false,true,true,true,true,false,true,true,true,true,false,false,false,false,false,false,false,false]) 9 rfl (by kernel_rfl) (by kernel_rfl) (by kernel_rfl) rfl (fun _ _ h=>h) (kL rfl rfl mP kT (by omega)) ?_
   refine bR (listed':=#[false,true,true,true,true,false,true,true,true,true,true,false,false,false,false,false,false,false]) 10 rfl (by kernel_rfl) (by kernel_rfl) (by kernel_rfl) rfl (fun _ _ h=>h) (qO rfl aGu cB rfl) ?_
   refine bR (listed':=#[false,true,true,true,true,false,true,true,true,true,true,false,true,false,false,false,false,false]) 12 rfl (by kernel_rfl) (by kernel_rfl) (by kernel_rfl) rfl (fun _ _ h=>h) (qP rfl aGt cB rfl) ?_
   refine lD (cD [25,31,33] rfl) (aH 0 [11,13] (by kernel_rfl) ⟨?_,?_,?_,trivial⟩)
   ·
    refine⟨_,rfl,rfl,(ao rfl (cP hf rfl rfl rfl aU rfl rfl rfl rfl (l2 rfl) ?_))⟩
    refine aG (aH 5 [11,13] (by kernel_rfl) ⟨?_,?_,?_,trivial⟩)
    ·
     refine⟨_,rfl,rfl,(ao rfl (aT hf rfl aU rfl rfl rfl (.inl rfl) (by first | rfl | (simp only[List.length_map,List.length_nil]; omega) | simp) rfl (cZ (l:=out) (j:=out.length - 1) rfl (by omega) (by omega) (by omega)) (by first | (simp only[maxLen,List.length_map,List.length_append,List.length_cons,List.length_nil]; omega) | (simp [maxLen] <;> omega)) (by first | (simp only[List.length_map,List.length_append,List.length_cons,List.length_nil]; omega) | (simp <;> omega)) ?_))⟩
     refine aQ (cD [26,31,33] rfl) (aG (aH 11 [13] (by kernel_rfl) ⟨?_,?_,trivial⟩))
     ·
      refine⟨_,rfl,rfl,(ao rfl (aF rfl (gR rfl kS rfl (c:=.s (.int .i64 (out[out.length - 1]'(by omega)).1)) (hJ (c:=2) (k:=out.length - 1) (enc:=spC) (by omega) (by omega) 0)) (aG (aH 13 [] (by kernel_rfl) ⟨?_,trivial⟩))))⟩
      ·
       refine⟨_,rfl,rfl,(ao rfl (aE aA 1 rfl (aG (aH 14 [] (by kernel_rfl) ⟨?_,trivial⟩))))⟩
       ·
        refine⟨_,rfl,rfl,(ao rfl (aF rfl (bO rfl eD dL (l3 rfl) rfl) (aG (aH 15 [] (by kernel_rfl) ⟨?_,trivial⟩))))⟩
        ·
         refine⟨_,rfl,rfl,(ao rfl (aK hf rfl (aN aU rfl rfl rfl rfl (l2 rfl)) (aG (aH 16 [] (by kernel_rfl) ⟨?_,trivial⟩))))⟩
         ·
          refine⟨_,rfl,rfl,(ao rfl (aT hf rfl aU rfl rfl rfl (.inl rfl) (by first | rfl | (simp only[List.length_map,List.length_nil]; omega) | simp) rfl (by first | rfl | simp [cV,bF]) (by first | (simp only[maxLen,List.length_map,List.length_append,List.length_cons,List.length_nil]; omega) | (simp [maxLen] <;> omega)) (by first | (simp only[List.length_map,List.length_append,List.length_cons,List.length_nil]; omega) | (simp <;> omega)) ?_))⟩
          refine aQ (cD [37] rfl) (aG (aH 17 [] (by kernel_rfl) ⟨?_,trivial⟩))
          ·
           refine⟨_,rfl,rfl,(ao rfl (aE aA 1 rfl (aG (bW (by kernel_rfl) ?_))))⟩
           refine hK5 _ (aJ ?_)
           refine⟨21,(eB out s).map spC,by decide,?_,?_,rfl⟩
           · rw[cN (by omega) (by omega),List.map_append]; rfl
           · rw[cN (by omega) (by omega),List.map_append,List.length_append]
             show some (AV.own 21 2 0 (0+((out.take (out.length - 1)).map spC).length+1))=_
             rw[Nat.zero_add]; rfl
     ·
      refine⟨_,rfl,rfl,(ao rfl (aE aA 1 rfl (aG (aH 11 [] (by kernel_rfl) ⟨?_,trivial⟩))))⟩
      ·
       refine⟨_,rfl,rfl,(ao rfl (aF rfl (gR rfl kS rfl (c:=.s (.int .i64 (out[out.length - 1]'(by omega)).1)) (hJ (c:=2) (k:=out.length - 1) (enc:=spC) (by omega) (by omega) 0)) (aG (aH 14 [] (by kernel_rfl) ⟨?_,trivial⟩))))⟩
       ·
        refine⟨_,rfl,rfl,(ao rfl (aF rfl (bO rfl eD dL (l3 rfl) rfl) (aG (aH 15 [] (by kernel_rfl) ⟨?_,trivial⟩))))⟩
        ·
         refine⟨_,rfl,rfl,(ao rfl (aK hf rfl (aN aU rfl rfl rfl rfl (l2 rfl)) (aG (aH 16 [] (by kernel_rfl) ⟨?_,trivial⟩))))⟩
         ·
          refine⟨_,rfl,rfl,(ao rfl (aT hf rfl aU rfl rfl rfl (.inl rfl) (by first | rfl | (simp only[List.length_map,List.length_nil]; omega) | simp) rfl (by first | rfl | simp [cV,bF]) (by first | (simp only[maxLen,List.length_map,List.length_append,List.length_cons,List.length_nil]; omega) | (simp [maxLen] <;> omega)) (by first | (simp only[List.length_map,List.length_append,List.length_cons,List.length_nil]; omega) | (simp <;> omega)) ?_))⟩
          refine aQ (cD [37] rfl) (aG (aH 17 [] (by kernel_rfl) ⟨?_,trivial⟩))
          ·
           refine⟨_,rfl,rfl,(ao rfl (aE aA 1 rfl (aG (bW (by kernel_rfl) ?_))))⟩
           refine hK5 _ (aJ ?_)
           refine⟨21,(eB out s).map spC,by decide,?_,?_,rfl⟩
           · rw[cN (by omega) (by omega),List.map_append]; rfl
           · rw[cN (by omega) (by omega),List.map_append,List.length_append]
             show some (AV.own 21 2 0 (0+((out.take (out.length - 1)).map spC).length+1))=_
             rw[Nat.zero_add]; rfl
    ·
     refine⟨_,rfl,rfl,(ao rfl (aF rfl (gR rfl kS rfl (c:=.s (.int .i64 (out[out.length - 1]'(by omega)).1)) (hJ (c:=2) (k:=out.length - 1) (enc:=spC) (by omega) (by omega) 0)) (aG (aH 5 [13] (by kernel_rfl) ⟨?_,?_,trivial⟩))))⟩
     ·
      refine⟨_,rfl,rfl,(ao rfl (aT hf rfl aU rfl rfl rfl (.inl rfl) (by first | rfl | (simp only[List.length_map,List.length_nil]; omega) | simp) rfl (cZ (l:=out) (j:=out.length - 1) rfl (by omega) (by omega) (by omega)) (by first | (simp only[maxLen,List.length_map,List.length_append,List.length_cons,List.length_nil]; omega) | (simp [maxLen] <;> omega)) (by first | (simp only[List.length_map,List.length_append,List.length_cons,List.length_nil]; omega) | (simp <;> omega)) ?_))⟩
      refine aQ (cD [26,32,33] rfl) (aG (aH 13 [] (by kernel_rfl) ⟨?_,trivial⟩))
      ·
       refine⟨_,rfl,rfl,(ao rfl (aE aA 1 rfl (aG (aH 14 [] (by kernel_rfl) ⟨?_,trivial⟩))))⟩
       ·
        refine⟨_,rfl,rfl,(ao rfl (aF rfl (bO rfl eD dL (l3 rfl) rfl) (aG (aH 15 [] (by kernel_rfl) ⟨?_,trivial⟩))))⟩
        ·
         refine⟨_,rfl,rfl,(ao rfl (aK hf rfl (aN aU rfl rfl rfl rfl (l2 rfl)) (aG (aH 16 [] (by kernel_rfl) ⟨?_,trivial⟩))))⟩
         ·
          refine⟨_,rfl,rfl,(ao rfl (aT hf rfl aU rfl rfl rfl (.inl rfl) (by first | rfl | (simp only[List.length_map,List.length_nil]; omega) | simp) rfl (by first | rfl | simp [cV,bF]) (by first | (simp only[maxLen,List.length_map,List.length_append,List.length_cons,List.length_nil]; omega) | (simp [maxLen] <;> omega)) (by first | (simp only[List.length_map,List.length_append,List.length_cons,List.length_nil]; omega) | (simp <;> omega)) ?_))⟩
          refine aQ (cD [37] rfl) (aG (aH 17 [] (by kernel_rfl) ⟨?_,trivial⟩))
          ·
           refine⟨_,rfl,rfl,(ao rfl (aE aA 1 rfl (aG (bW (by kernel_rfl) ?_))))⟩
           refine hK5 _ (aJ ?_)
           refine⟨21,(eB out s).map spC,by decide,?_,?_,rfl⟩
           · rw[cN (by omega) (by omega),List.map_append]; rfl
           · rw[cN (by omega) (by omega),List.map_append,List.length_append]
             show some (AV.own 21 2 0 (0+((out.take (out.length - 1)).map spC).length+1))=_
             rw[Nat.zero_add]; rfl
     ·
      refine⟨_,rfl,rfl,(ao rfl (aE aA 1 rfl (aG (aH 5 [14] (by kernel_rfl) ⟨?_,?_,trivial⟩))))⟩
      ·
       refine⟨_,rfl,rfl,(ao rfl (aT hf rfl aU rfl rfl rfl (.inl rfl) (by first | rfl | (simp only[List.length_map,List.length_nil]; omega) | simp) rfl (cZ (l:=out) (j:=out.length - 1) rfl (by omega) (by omega) (by omega)) (by first | (simp only[maxLen,List.length_map,List.length_append,List.length_cons,List.length_nil]; omega) | (simp [maxLen] <;> omega)) (by first | (simp only[List.length_map,List.length_append,List.length_cons,List.length_nil]; omega) | (simp <;> omega)) ?_))⟩
       refine aQ (cD [26,32,34] rfl) (aG (aH 14 [] (by kernel_rfl) ⟨?_,trivial⟩))
       ·
        refine⟨_,rfl,rfl,(ao rfl (aF rfl (bO rfl eD dL (l3 rfl) rfl) (aG (aH 15 [] (by kernel_rfl) ⟨?_,trivial⟩))))⟩
        ·
         refine⟨_,rfl,rfl,(ao rfl (aK hf rfl (aN aU rfl rfl rfl rfl (l2 rfl)) (aG (aH 16 [] (by kernel_rfl) ⟨?_,trivial⟩))))⟩
         ·
          refine⟨_,rfl,rfl,(ao rfl (aT hf rfl aU rfl rfl rfl (.inl rfl) (by first | rfl | (simp only[List.length_map,List.length_nil]; omega) | simp) rfl (by first | rfl | simp [cV,bF]) (by first | (simp only[maxLen,List.length_map,List.length_append,List.length_cons,List.length_nil]; omega) | (simp [maxLen] <;> omega)) (by first | (simp only[List.length_map,List.length_append,List.length_cons,List.length_nil]; omega) | (simp <;> omega)) ?_))⟩
          refine aQ (cD [37] rfl) (aG (aH 17 [] (by kernel_rfl) ⟨?_,trivial⟩))
          ·
           refine⟨_,rfl,rfl,(ao rfl (aE aA 1 rfl (aG (bW (by kernel_rfl) ?_))))⟩
           refine hK5 _ (aJ ?_)
           refine⟨21,(eB out s).map spC,by decide,?_,?_,rfl⟩
           · rw[cN (by omega) (by omega),List.map_append]; rfl
           · rw[cN (by omega) (by omega),List.map_append,List.length_append]
             show some (AV.own 21 2 0 (0+((out.take (out.length - 1)).map spC).length+1))=_
             rw[Nat.zero_add]; rfl
      ·
       refine⟨_,rfl,rfl,(ao rfl (aF rfl (bO rfl eD dL (l3 rfl) rfl) (aG (aH 5 [15] (by kernel_rfl) ⟨?_,?_,trivial⟩))))⟩
       ·
        refine⟨_,rfl,rfl,(ao rfl (aT hf rfl aU rfl rfl rfl (.inl rfl) (by first | rfl | (simp only[List.length_map,List.length_nil]; omega) | simp) rfl (cZ (l:=out) (j:=out.length - 1) rfl (by omega) (by omega) (by omega)) (by first | (simp only[maxLen,List.length_map,List.length_append,List.length_cons,List.length_nil]; omega) | (simp [maxLen] <;> omega)) (by first | (simp only[List.length_map,List.length_append,List.length_cons,List.length_nil]; omega) | (simp <;> omega)) ?_))⟩
        refine aQ (cD [26,35] rfl) (aG (aH 15 [] (by kernel_rfl) ⟨?_,trivial⟩))
        ·
         refine⟨_,rfl,rfl,(ao rfl (aK hf rfl (aN aU rfl rfl rfl rfl (l2 rfl)) (aG (aH 16 [] (by kernel_rfl) ⟨?_,trivial⟩))))⟩
         ·
          refine⟨_,rfl,rfl,(ao rfl (aT hf rfl aU rfl rfl rfl (.inl rfl) (by first | rfl | (simp only[List.length_map,List.length_nil]; omega) | simp) rfl (by first | rfl | simp [cV,bF]) (by first | (simp only[maxLen,List.length_map,List.length_append,List.length_cons,List.length_nil]; omega) | (simp [maxLen] <;> omega)) (by first | (simp only[List.length_map,List.length_append,List.length_cons,List.length_nil]; omega) | (simp <;> omega)) ?_))⟩
          refine aQ (cD [37] rfl) (aG (aH 17 [] (by kernel_rfl) ⟨?_,trivial⟩))
          ·
           refine⟨_,rfl,rfl,(ao rfl (aE aA 1 rfl (aG (bW (by kernel_rfl) ?_))))⟩
           refine hK5 _ (aJ ?_)
           refine⟨21,(eB out s).map spC,by decide,?_,?_,rfl⟩
           · rw[cN (by omega) (by omega),List.map_append]; rfl
           · rw[cN (by omega) (by omega),List.map_append,List.length_append]
             show some (AV.own 21 2 0 (0+((out.take (out.length - 1)).map spC).length+1))=_
             rw[Nat.zero_add]; rfl
       ·
        refine⟨_,rfl,rfl,(ao rfl (aK hf rfl (aN aU rfl rfl rfl rfl (l2 rfl)) (aG (aH 5 [] (by kernel_rfl) ⟨?_,trivial⟩))))⟩
        ·
         refine⟨_,rfl,rfl,(ao rfl (aT hf rfl aU rfl rfl rfl (.inl rfl) (by first | rfl | (simp only[List.length_map,List.length_nil]; omega) | simp) rfl (cZ (l:=out) (j:=out.length - 1) rfl (by omega) (by omega) (by omega)) (by first | (simp only[maxLen,List.length_map,List.length_append,List.length_cons,List.length_nil]; omega) | (simp [maxLen] <;> omega)) (by first | (simp only[List.length_map,List.length_append,List.length_cons,List.length_nil]; omega) | (simp <;> omega)) ?_))⟩
         refine aQ (cD [26,36] rfl) (aG (aH 16 [] (by kernel_rfl) ⟨?_,trivial⟩))
         ·
          refine⟨_,rfl,rfl,(ao rfl (aT hf rfl aU rfl rfl rfl (.inl rfl) (by first | rfl | (simp only[List.length_map,List.length_nil]; omega) | simp) rfl (by first | rfl | simp [cV,bF]) (by first | (simp only[maxLen,List.length_map,List.length_append,List.length_cons,List.length_nil]; omega) | (simp [maxLen] <;> omega)) (by first | (simp only[List.length_map,List.length_append,List.length_cons,List.length_nil]; omega) | (simp <;> omega)) ?_))⟩
          refine aQ (cD [37] rfl) (aG (aH 17 [] (by kernel_rfl) ⟨?_,trivial⟩))
          ·
           refine⟨_,rfl,rfl,(ao rfl (aE aA 1 rfl (aG (bW (by kernel_rfl) ?_))))⟩
           refine hK5 _ (aJ ?_)
           refine⟨21,(eB out s).map spC,by decide,?_,?_,rfl⟩
           · rw[cN (by omega) (by omega),List.map_append]; rfl
           · rw[cN (by omega) (by omega),List.map_append,List.length_append]
             show some (AV.own 21 2 0 (0+((out.take (out.length - 1)).map spC).length+1))=_
             rw[Nat.zero_add]; rfl
    ·
     refine⟨_,rfl,rfl,(ao rfl (aE aA 1 rfl (aG (aH 5 [11] (by kernel_rfl) ⟨?_,?_,trivial⟩))))⟩
     ·
      refine⟨_,rfl,rfl,(ao rfl (aT hf rfl aU rfl rfl rfl (.inl rfl) (by first | rfl | (simp only[List.length_map,List.length_nil]; omega) | simp) rfl (cZ (l:=out) (j:=out.length - 1) rfl (by omega) (by omega) (by omega)) (by first | (simp only[maxLen,List.length_map,List.length_append,List.length_cons,List.length_nil]; omega) | (simp [maxLen] <;> omega)) (by first | (simp only[List.length_map,List.length_append,List.length_cons,List.length_nil]; omega) | (simp <;> omega)) ?_))⟩
      refine aQ (cD [26,31,34] rfl) (aG (aH 11 [] (by kernel_rfl) ⟨?_,trivial⟩))
      ·
       refine⟨_,rfl,rfl,(ao rfl (aF rfl (gR rfl kS rfl (c:=.s (.int .i64 (out[out.length - 1]'(by omega)).1)) (hJ (c:=2) (k:=out.length - 1) (enc:=spC) (by omega) (by omega) 0)) (aG (aH 14 [] (by kernel_rfl) ⟨?_,trivial⟩))))⟩
       ·
        refine⟨_,rfl,rfl,(ao rfl (aF rfl (bO rfl eD dL (l3 rfl) rfl) (aG (aH 15 [] (by kernel_rfl) ⟨?_,trivial⟩))))⟩
        ·
         refine⟨_,rfl,rfl,(ao rfl (aK hf rfl (aN aU rfl rfl rfl rfl (l2 rfl)) (aG (aH 16 [] (by kernel_rfl) ⟨?_,trivial⟩))))⟩
         ·
          refine⟨_,rfl,rfl,(ao rfl (aT hf rfl aU rfl rfl rfl (.inl rfl) (by first | rfl | (simp only[List.length_map,List.length_nil]; omega) | simp) rfl (by first | rfl | simp [cV,bF]) (by first | (simp only[maxLen,List.length_map,List.length_append,List.length_cons,List.length_nil]; omega) | (simp [maxLen] <;> omega)) (by first | (simp only[List.length_map,List.length_append,List.length_cons,List.length_nil]; omega) | (simp <;> omega)) ?_))⟩
          refine aQ (cD [37] rfl) (aG (aH 17 [] (by kernel_rfl) ⟨?_,trivial⟩))
          ·
           refine⟨_,rfl,rfl,(ao rfl (aE aA 1 rfl (aG (bW (by kernel_rfl) ?_))))⟩
           refine hK5 _ (aJ ?_)
           refine⟨21,(eB out s).map spC,by decide,?_,?_,rfl⟩
           · rw[cN (by omega) (by omega),List.map_append]; rfl
           · rw[cN (by omega) (by omega),List.map_append,List.length_append]
             show some (AV.own 21 2 0 (0+((out.take (out.length - 1)).map spC).length+1))=_
             rw[Nat.zero_add]; rfl
     ·
      refine⟨_,rfl,rfl,(ao rfl (aF rfl (gR rfl kS rfl (c:=.s (.int .i64 (out[out.length - 1]'(by omega)).1)) (hJ (c:=2) (k:=out.length - 1) (enc:=spC) (by omega) (by omega) 0)) (aG (aH 5 [14] (by kernel_rfl) ⟨?_,?_,trivial⟩))))⟩
      ·
       refine⟨_,rfl,rfl,(ao rfl (aT hf rfl aU rfl rfl rfl (.inl rfl) (by first | rfl | (simp only[List.length_map,List.length_nil]; omega) | simp) rfl (cZ (l:=out) (j:=out.length - 1) rfl (by omega) (by omega) (by omega)) (by first | (simp only[maxLen,List.length_map,List.length_append,List.length_cons,List.length_nil]; omega) | (simp [maxLen] <;> omega)) (by first | (simp only[List.length_map,List.length_append,List.length_cons,List.length_nil]; omega) | (simp <;> omega)) ?_))⟩
       refine aQ (cD [26,32,34] rfl) (aG (aH 14 [] (by kernel_rfl) ⟨?_,trivial⟩))
       ·
        refine⟨_,rfl,rfl,(ao rfl (aF rfl (bO rfl eD dL (l3 rfl) rfl) (aG (aH 15 [] (by kernel_rfl) ⟨?_,trivial⟩))))⟩
        ·
         refine⟨_,rfl,rfl,(ao rfl (aK hf rfl (aN aU rfl rfl rfl rfl (l2 rfl)) (aG (aH 16 [] (by kernel_rfl) ⟨?_,trivial⟩))))⟩
         ·
          refine⟨_,rfl,rfl,(ao rfl (aT hf rfl aU rfl rfl rfl (.inl rfl) (by first | rfl | (simp only[List.length_map,List.length_nil]; omega) | simp) rfl (by first | rfl | simp [cV,bF]) (by first | (simp only[maxLen,List.length_map,List.length_append,List.length_cons,List.length_nil]; omega) | (simp [maxLen] <;> omega)) (by first | (simp only[List.length_map,List.length_append,List.length_cons,List.length_nil]; omega) | (simp <;> omega)) ?_))⟩
          refine aQ (cD [37] rfl) (aG (aH 17 [] (by kernel_rfl) ⟨?_,trivial⟩))
          ·
           refine⟨_,rfl,rfl,(ao rfl (aE aA 1 rfl (aG (bW (by kernel_rfl) ?_))))⟩
           refine hK5 _ (aJ ?_)
           refine⟨21,(eB out s).map spC,by decide,?_,?_,rfl⟩
           · rw[cN (by omega) (by omega),List.map_append]; rfl
           · rw[cN (by omega) (by omega),List.map_append,List.length_append]
             show some (AV.own 21 2 0 (0+((out.take (out.length - 1)).map spC).length+1))=_
             rw[Nat.zero_add]; rfl
      ·
       refine⟨_,rfl,rfl,(ao rfl (aF rfl (bO rfl eD dL (l3 rfl) rfl) (aG (aH 5 [15] (by kernel_rfl) ⟨?_,?_,trivial⟩))))⟩
       ·
        refine⟨_,rfl,rfl,(ao rfl (aT hf rfl aU rfl rfl rfl (.inl rfl) (by first | rfl | (simp only[List.length_map,List.length_nil]; omega) | simp) rfl (cZ (l:=out) (j:=out.length - 1) rfl (by omega) (by omega) (by omega)) (by first | (simp only[maxLen,List.length_map,List.length_append,List.length_cons,List.length_nil]; omega) | (simp [maxLen] <;> omega)) (by first | (simp only[List.length_map,List.length_append,List.length_cons,List.length_nil]; omega) | (simp <;> omega)) ?_))⟩
        refine aQ (cD [26,35] rfl) (aG (aH 15 [] (by kernel_rfl) ⟨?_,trivial⟩))
        ·
         refine⟨_,rfl,rfl,(ao rfl (aK hf rfl (aN aU rfl rfl rfl rfl (l2 rfl)) (aG (aH 16 [] (by kernel_rfl) ⟨?_,trivial⟩))))⟩
         ·
          refine⟨_,rfl,rfl,(ao rfl (aT hf rfl aU rfl rfl rfl (.inl rfl) (by first | rfl | (simp only[List.length_map,List.length_nil]; omega) | simp) rfl (by first | rfl | simp [cV,bF]) (by first | (simp only[maxLen,List.length_map,List.length_append,List.length_cons,List.length_nil]; omega) | (simp [maxLen] <;> omega)) (by first | (simp only[List.length_map,List.length_append,List.length_cons,List.length_nil]; omega) | (simp <;> omega)) ?_))⟩
          refine aQ (cD [37] rfl) (aG (aH 17 [] (by kernel_rfl) ⟨?_,trivial⟩))
          ·
           refine⟨_,rfl,rfl,(ao rfl (aE aA 1 rfl (aG (bW (by kernel_rfl) ?_))))⟩
           refine hK5 _ (aJ ?_)
           refine⟨21,(eB out s).map spC,by decide,?_,?_,rfl⟩
           · rw[cN (by omega) (by omega),List.map_append]; rfl
           · rw[cN (by omega) (by omega),List.map_append,List.length_append]
             show some (AV.own 21 2 0 (0+((out.take (out.length - 1)).map spC).length+1))=_
             rw[Nat.zero_add]; rfl
       ·
        refine⟨_,rfl,rfl,(ao rfl (aK hf rfl (aN aU rfl rfl rfl rfl (l2 rfl)) (aG (aH 5 [] (by kernel_rfl) ⟨?_,trivial⟩))))⟩
        ·
         refine⟨_,rfl,rfl,(ao rfl (aT hf rfl aU rfl rfl rfl (.inl rfl) (by first | rfl | (simp only[List.length_map,List.length_nil]; omega) | simp) rfl (cZ (l:=out) (j:=out.length - 1) rfl (by omega) (by omega) (by omega)) (by first | (simp only[maxLen,List.length_map,List.length_append,List.length_cons,List.length_nil]; omega) | (simp [maxLen] <;> omega)) (by first | (simp only[List.length_map,List.length_append,List.length_cons,List.length_nil]; omega) | (simp <;> omega)) ?_))⟩
         refine aQ (cD [26,36] rfl) (aG (aH 16 [] (by kernel_rfl) ⟨?_,trivial⟩))
         ·
          refine⟨_,rfl,rfl,(ao rfl (aT hf rfl aU rfl rfl rfl (.inl rfl) (by first | rfl | (simp only[List.length_map,List.length_nil]; omega) | simp) rfl (by first | rfl | simp [cV,bF]) (by first | (simp only[maxLen,List.length_map,List.length_append,List.length_cons,List.length_nil]; omega) | (simp [maxLen] <;> omega)) (by first | (simp only[List.length_map,List.length_append,List.length_cons,List.length_nil]; omega) | (simp <;> omega)) ?_))⟩
          refine aQ (cD [37] rfl) (aG (aH 17 [] (by kernel_rfl) ⟨?_,trivial⟩))
          ·
           refine⟨_,rfl,rfl,(ao rfl (aE aA 1 rfl (aG (bW (by kernel_rfl) ?_))))⟩
           refine hK5 _ (aJ ?_)
           refine⟨21,(eB out s).map spC,by decide,?_,?_,rfl⟩
           · rw[cN (by omega) (by omega),List.map_append]; rfl
           · rw[cN (by omega) (by omega),List.map_append,List.length_append]
             show some (AV.own 21 2 0 (0+((out.take (out.length - 1)).map spC).length+1))=_
             rw[Nat.zero_add]; rfl
   ·
    refine⟨_,rfl,rfl,(ao rfl (aF rfl (gR rfl kS rfl (c:=.s (.int .i64 (out[out.length - 1]'(by omega)).1)) (hJ (c:=2) (k:=out.length - 1) (enc:=spC) (by omega) (by omega) 0)) (aG (aH 0 [13] (by kernel_rfl) ⟨?_,?_,trivial⟩))))⟩
    ·
     refine⟨_,rfl,rfl,(ao rfl (cP hf rfl rfl rfl aU rfl rfl rfl rfl (l2 rfl) ?_))⟩
     refine aG (aH 5 [13] (by kernel_rfl) ⟨?_,?_,trivial⟩)
     ·
      refine⟨_,rfl,rfl,(ao rfl (aT hf rfl aU rfl rfl rfl (.inl rfl) (by first | rfl | (simp only[List.length_map,List.length_nil]; omega) | simp) rfl (cZ (l:=out) (j:=out.length - 1) rfl (by omega) (by omega) (by omega)) (by first | (simp only[maxLen,List.length_map,List.length_append,List.length_cons,List.length_nil]; omega) | (simp [maxLen] <;> omega)) (by first | (simp only[List.length_map,List.length_append,List.length_cons,List.length_nil]; omega) | (simp <;> omega)) ?_))⟩
      refine aQ (cD [26,32,33] rfl) (aG (aH 13 [] (by kernel_rfl) ⟨?_,trivial⟩))
      ·
       refine⟨_,rfl,rfl,(ao rfl (aE aA 1 rfl (aG (aH 14 [] (by kernel_rfl) ⟨?_,trivial⟩))))⟩
       ·
        refine⟨_,rfl,rfl,(ao rfl (aF rfl (bO rfl eD dL (l3 rfl) rfl) (aG (aH 15 [] (by kernel_rfl) ⟨?_,trivial⟩))))⟩
        ·
         refine⟨_,rfl,rfl,(ao rfl (aK hf rfl (aN aU rfl rfl rfl rfl (l2 rfl)) (aG (aH 16 [] (by kernel_rfl) ⟨?_,trivial⟩))))⟩
         ·
          refine⟨_,rfl,rfl,(ao rfl (aT hf rfl aU rfl rfl rfl (.inl rfl) (by first | rfl | (simp only[List.length_map,List.length_nil]; omega) | simp) rfl (by first | rfl | simp [cV,bF]) (by first | (simp only[maxLen,List.length_map,List.length_append,List.length_cons,List.length_nil]; omega) | (simp [maxLen] <;> omega)) (by first | (simp only[List.length_map,List.length_append,List.length_cons,List.length_nil]; omega) | (simp <;> omega)) ?_))⟩
          refine aQ (cD [37] rfl) (aG (aH 17 [] (by kernel_rfl) ⟨?_,trivial⟩))
          ·
           refine⟨_,rfl,rfl,(ao rfl (aE aA 1 rfl (aG (bW (by kernel_rfl) ?_))))⟩
           refine hK5 _ (aJ ?_)
           refine⟨21,(eB out s).map spC,by decide,?_,?_,rfl⟩
           · rw[cN (by omega) (by omega),List.map_append]; rfl
           · rw[cN (by omega) (by omega),List.map_append,List.length_append]
             show some (AV.own 21 2 0 (0+((out.take (out.length - 1)).map spC).length+1))=_
             rw[Nat.zero_add]; rfl
     ·
      refine⟨_,rfl,rfl,(ao rfl (aE aA 1 rfl (aG (aH 5 [14] (by kernel_rfl) ⟨?_,?_,trivial⟩))))⟩
      ·
       refine⟨_,rfl,rfl,(ao rfl (aT hf rfl aU rfl rfl rfl (.inl rfl) (by first | rfl | (simp only[List.length_map,List.length_nil]; omega) | simp) rfl (cZ (l:=out) (j:=out.length - 1) rfl (by omega) (by omega) (by omega)) (by first | (simp only[maxLen,List.length_map,List.length_append,List.length_cons,List.length_nil]; omega) | (simp [maxLen] <;> omega)) (by first | (simp only[List.length_map,List.length_append,List.length_cons,List.length_nil]; omega) | (simp <;> omega)) ?_))⟩
       refine aQ (cD [26,32,34] rfl) (aG (aH 14 [] (by kernel_rfl) ⟨?_,trivial⟩))
       ·
        refine⟨_,rfl,rfl,(ao rfl (aF rfl (bO rfl eD dL (l3 rfl) rfl) (aG (aH 15 [] (by kernel_rfl) ⟨?_,trivial⟩))))⟩
        ·
         refine⟨_,rfl,rfl,(ao rfl (aK hf rfl (aN aU rfl rfl rfl rfl (l2 rfl)) (aG (aH 16 [] (by kernel_rfl) ⟨?_,trivial⟩))))⟩
         ·
          refine⟨_,rfl,rfl,(ao rfl (aT hf rfl aU rfl rfl rfl (.inl rfl) (by first | rfl | (simp only[List.length_map,List.length_nil]; omega) | simp) rfl (by first | rfl | simp [cV,bF]) (by first | (simp only[maxLen,List.length_map,List.length_append,List.length_cons,List.length_nil]; omega) | (simp [maxLen] <;> omega)) (by first | (simp only[List.length_map,List.length_append,List.length_cons,List.length_nil]; omega) | (simp <;> omega)) ?_))⟩
          refine aQ (cD [37] rfl) (aG (aH 17 [] (by kernel_rfl) ⟨?_,trivial⟩))
          ·
           refine⟨_,rfl,rfl,(ao rfl (aE aA 1 rfl (aG (bW (by kernel_rfl) ?_))))⟩
           refine hK5 _ (aJ ?_)
           refine⟨21,(eB out s).map spC,by decide,?_,?_,rfl⟩
           · rw[cN (by omega) (by omega),List.map_append]; rfl
           · rw[cN (by omega) (by omega),List.map_append,List.length_append]
             show some (AV.own 21 2 0 (0+((out.take (out.length - 1)).map spC).length+1))=_
             rw[Nat.zero_add]; rfl
      ·
       refine⟨_,rfl,rfl,(ao rfl (aF rfl (bO rfl eD dL (l3 rfl) rfl) (aG (aH 5 [15] (by kernel_rfl) ⟨?_,?_,trivial⟩))))⟩
       ·
        refine⟨_,rfl,rfl,(ao rfl (aT hf rfl aU rfl rfl rfl (.inl rfl) (by first | rfl | (simp only[List.length_map,List.length_nil]; omega) | simp) rfl (cZ (l:=out) (j:=out.length - 1) rfl (by omega) (by omega) (by omega)) (by first | (simp only[maxLen,List.length_map,List.length_append,List.length_cons,List.length_nil]; omega) | (simp [maxLen] <;> omega)) (by first | (simp only[List.length_map,List.length_append,List.length_cons,List.length_nil]; omega) | (simp <;> omega)) ?_))⟩
        refine aQ (cD [26,35] rfl) (aG (aH 15 [] (by kernel_rfl) ⟨?_,trivial⟩))
        ·
         refine⟨_,rfl,rfl,(ao rfl (aK hf rfl (aN aU rfl rfl rfl rfl (l2 rfl)) (aG (aH 16 [] (by kernel_rfl) ⟨?_,trivial⟩))))⟩
         ·
          refine⟨_,rfl,rfl,(ao rfl (aT hf rfl aU rfl rfl rfl (.inl rfl) (by first | rfl | (simp only[List.length_map,List.length_nil]; omega) | simp) rfl (by first | rfl | simp [cV,bF]) (by first | (simp only[maxLen,List.length_map,List.length_append,List.length_cons,List.length_nil]; omega) | (simp [maxLen] <;> omega)) (by first | (simp only[List.length_map,List.length_append,List.length_cons,List.length_nil]; omega) | (simp <;> omega)) ?_))⟩
          refine aQ (cD [37] rfl) (aG (aH 17 [] (by kernel_rfl) ⟨?_,trivial⟩))
          ·
           refine⟨_,rfl,rfl,(ao rfl (aE aA 1 rfl (aG (bW (by kernel_rfl) ?_))))⟩
           refine hK5 _ (aJ ?_)
           refine⟨21,(eB out s).map spC,by decide,?_,?_,rfl⟩
           · rw[cN (by omega) (by omega),List.map_append]; rfl
           · rw[cN (by omega) (by omega),List.map_append,List.length_append]
             show some (AV.own 21 2 0 (0+((out.take (out.length - 1)).map spC).length+1))=_
             rw[Nat.zero_add]; rfl
       ·
        refine⟨_,rfl,rfl,(ao rfl (aK hf rfl (aN aU rfl rfl rfl rfl (l2 rfl)) (aG (aH 5 [] (by kernel_rfl) ⟨?_,trivial⟩))))⟩
        ·
         refine⟨_,rfl,rfl,(ao rfl (aT hf rfl aU rfl rfl rfl (.inl rfl) (by first | rfl | (simp only[List.length_map,List.length_nil]; omega) | simp) rfl (cZ (l:=out) (j:=out.length - 1) rfl (by omega) (by omega) (by omega)) (by first | (simp only[maxLen,List.length_map,List.length_append,List.length_cons,List.length_nil]; omega) | (simp [maxLen] <;> omega)) (by first | (simp only[List.length_map,List.length_append,List.length_cons,List.length_nil]; omega) | (simp <;> omega)) ?_))⟩
         refine aQ (cD [26,36] rfl) (aG (aH 16 [] (by kernel_rfl) ⟨?_,trivial⟩))
         ·
          refine⟨_,rfl,rfl,(ao rfl (aT hf rfl aU rfl rfl rfl (.inl rfl) (by first | rfl | (simp only[List.length_map,List.length_nil]; omega) | simp) rfl (by first | rfl | simp [cV,bF]) (by first | (simp only[maxLen,List.length_map,List.length_append,List.length_cons,List.length_nil]; omega) | (simp [maxLen] <;> omega)) (by first | (simp only[List.length_map,List.length_append,List.length_cons,List.length_nil]; omega) | (simp <;> omega)) ?_))⟩
          refine aQ (cD [37] rfl) (aG (aH 17 [] (by kernel_rfl) ⟨?_,trivial⟩))
          ·
           refine⟨_,rfl,rfl,(ao rfl (aE aA 1 rfl (aG (bW (by kernel_rfl) ?_))))⟩
           refine hK5 _ (aJ ?_)
           refine⟨21,(eB out s).map spC,by decide,?_,?_,rfl⟩
           · rw[cN (by omega) (by omega),List.map_append]; rfl
           · rw[cN (by omega) (by omega),List.map_append,List.length_append]
             show some (AV.own 21 2 0 (0+((out.take (out.length - 1)).map spC).length+1))=_
             rw[Nat.zero_add]; rfl
    ·
     refine⟨_,rfl,rfl,(ao rfl (aE aA 1 rfl (aG (aH 0 [14] (by kernel_rfl) ⟨?_,?_,trivial⟩))))⟩
     ·
      refine⟨_,rfl,rfl,(ao rfl (cP hf rfl rfl rfl aU rfl rfl rfl rfl (l2 rfl) ?_))⟩
      refine aG (aH 5 [14] (by kernel_rfl) ⟨?_,?_,trivial⟩)
      ·
       refine⟨_,rfl,rfl,(ao rfl (aT hf rfl aU rfl rfl rfl (.inl rfl) (by first | rfl | (simp only[List.length_map,List.length_nil]; omega) | simp) rfl (cZ (l:=out) (j:=out.length - 1) rfl (by omega) (by omega) (by omega)) (by first | (simp only[maxLen,List.length_map,List.length_append,List.length_cons,List.length_nil]; omega) | (simp [maxLen] <;> omega)) (by first | (simp only[List.length_map,List.length_append,List.length_cons,List.length_nil]; omega) | (simp <;> omega)) ?_))⟩
       refine aQ (cD [26,32,34] rfl) (aG (aH 14 [] (by kernel_rfl) ⟨?_,trivial⟩))
       ·
        refine⟨_,rfl,rfl,(ao rfl (aF rfl (bO rfl eD dL (l3 rfl) rfl) (aG (aH 15 [] (by kernel_rfl) ⟨?_,trivial⟩))))⟩
        ·
         refine⟨_,rfl,rfl,(ao rfl (aK hf rfl (aN aU rfl rfl rfl rfl (l2 rfl)) (aG (aH 16 [] (by kernel_rfl) ⟨?_,trivial⟩))))⟩
         ·
          refine⟨_,rfl,rfl,(ao rfl (aT hf rfl aU rfl rfl rfl (.inl rfl) (by first | rfl | (simp only[List.length_map,List.length_nil]; omega) | simp) rfl (by first | rfl | simp [cV,bF]) (by first | (simp only[maxLen,List.length_map,List.length_append,List.length_cons,List.length_nil]; omega) | (simp [maxLen] <;> omega)) (by first | (simp only[List.length_map,List.length_append,List.length_cons,List.length_nil]; omega) | (simp <;> omega)) ?_))⟩
          refine aQ (cD [37] rfl) (aG (aH 17 [] (by kernel_rfl) ⟨?_,trivial⟩))
          ·
           refine⟨_,rfl,rfl,(ao rfl (aE aA 1 rfl (aG (bW (by kernel_rfl) ?_))))⟩
           refine hK5 _ (aJ ?_)
           refine⟨21,(eB out s).map spC,by decide,?_,?_,rfl⟩
           · rw[cN (by omega) (by omega),List.map_append]; rfl
           · rw[cN (by omega) (by omega),List.map_append,List.length_append]
             show some (AV.own 21 2 0 (0+((out.take (out.length - 1)).map spC).length+1))=_
             rw[Nat.zero_add]; rfl
      ·
       refine⟨_,rfl,rfl,(ao rfl (aF rfl (bO rfl eD dL (l3 rfl) rfl) (aG (aH 5 [15] (by kernel_rfl) ⟨?_,?_,trivial⟩))))⟩
       ·
        refine⟨_,rfl,rfl,(ao rfl (aT hf rfl aU rfl rfl rfl (.inl rfl) (by first | rfl | (simp only[List.length_map,List.length_nil]; omega) | simp) rfl (cZ (l:=out) (j:=out.length - 1) rfl (by omega) (by omega) (by omega)) (by first | (simp only[maxLen,List.length_map,List.length_append,List.length_cons,List.length_nil]; omega) | (simp [maxLen] <;> omega)) (by first | (simp only[List.length_map,List.length_append,List.length_cons,List.length_nil]; omega) | (simp <;> omega)) ?_))⟩
        refine aQ (cD [26,35] rfl) (aG (aH 15 [] (by kernel_rfl) ⟨?_,trivial⟩))
        ·
         refine⟨_,rfl,rfl,(ao rfl (aK hf rfl (aN aU rfl rfl rfl rfl (l2 rfl)) (aG (aH 16 [] (by kernel_rfl) ⟨?_,trivial⟩))))⟩
         ·
          refine⟨_,rfl,rfl,(ao rfl (aT hf rfl aU rfl rfl rfl (.inl rfl) (by first | rfl | (simp only[List.length_map,List.length_nil]; omega) | simp) rfl (by first | rfl | simp [cV,bF]) (by first | (simp only[maxLen,List.length_map,List.length_append,List.length_cons,List.length_nil]; omega) | (simp [maxLen] <;> omega)) (by first | (simp only[List.length_map,List.length_append,List.length_cons,List.length_nil]; omega) | (simp <;> omega)) ?_))⟩
          refine aQ (cD [37] rfl) (aG (aH 17 [] (by kernel_rfl) ⟨?_,trivial⟩))
          ·
           refine⟨_,rfl,rfl,(ao rfl (aE aA 1 rfl (aG (bW (by kernel_rfl) ?_))))⟩
           refine hK5 _ (aJ ?_)
           refine⟨21,(eB out s).map spC,by decide,?_,?_,rfl⟩
           · rw[cN (by omega) (by omega),List.map_append]; rfl
           · rw[cN (by omega) (by omega),List.map_append,List.length_append]
             show some (AV.own 21 2 0 (0+((out.take (out.length - 1)).map spC).length+1))=_
             rw[Nat.zero_add]; rfl
       ·
        refine⟨_,rfl,rfl,(ao rfl (aK hf rfl (aN aU rfl rfl rfl rfl (l2 rfl)) (aG (aH 5 [] (by kernel_rfl) ⟨?_,trivial⟩))))⟩
        ·
         refine⟨_,rfl,rfl,(ao rfl (aT hf rfl aU rfl rfl rfl (.inl rfl) (by first | rfl | (simp only[List.length_map,List.length_nil]; omega) | simp) rfl (cZ (l:=out) (j:=out.length - 1) rfl (by omega) (by omega) (by omega)) (by first | (simp only[maxLen,List.length_map,List.length_append,List.length_cons,List.length_nil]; omega) | (simp [maxLen] <;> omega)) (by first | (simp only[List.length_map,List.length_append,List.length_cons,List.length_nil]; omega) | (simp <;> omega)) ?_))⟩
         refine aQ (cD [26,36] rfl) (aG (aH 16 [] (by kernel_rfl) ⟨?_,trivial⟩))
         ·
          refine⟨_,rfl,rfl,(ao rfl (aT hf rfl aU rfl rfl rfl (.inl rfl) (by first | rfl | (simp only[List.length_map,List.length_nil]; omega) | simp) rfl (by first | rfl | simp [cV,bF]) (by first | (simp only[maxLen,List.length_map,List.length_append,List.length_cons,List.length_nil]; omega) | (simp [maxLen] <;> omega)) (by first | (simp only[List.length_map,List.length_append,List.length_cons,List.length_nil]; omega) | (simp <;> omega)) ?_))⟩
          refine aQ (cD [37] rfl) (aG (aH 17 [] (by kernel_rfl) ⟨?_,trivial⟩))
          ·
           refine⟨_,rfl,rfl,(ao rfl (aE aA 1 rfl (aG (bW (by kernel_rfl) ?_))))⟩
           refine hK5 _ (aJ ?_)
           refine⟨21,(eB out s).map spC,by decide,?_,?_,rfl⟩
           · rw[cN (by omega) (by omega),List.map_append]; rfl
           · rw[cN (by omega) (by omega),List.map_append,List.length_append]
             show some (AV.own 21 2 0 (0+((out.take (out.length - 1)).map spC).length+1))=_
             rw[Nat.zero_add]; rfl
     ·
      refine⟨_,rfl,rfl,(ao rfl (aF rfl (bO rfl eD dL (l3 rfl) rfl) (aG (aH 0 [15] (by kernel_rfl) ⟨?_,?_,trivial⟩))))⟩
      ·
       refine⟨_,rfl,rfl,(ao rfl (cP hf rfl rfl rfl aU rfl rfl rfl rfl (l2 rfl) ?_))⟩
       refine aG (aH 5 [15] (by kernel_rfl) ⟨?_,?_,trivial⟩)
       ·
        refine⟨_,rfl,rfl,(ao rfl (aT hf rfl aU rfl rfl rfl (.inl rfl) (by first | rfl | (simp only[List.length_map,List.length_nil]; omega) | simp) rfl (cZ (l:=out) (j:=out.length - 1) rfl (by omega) (by omega) (by omega)) (by first | (simp only[maxLen,List.length_map,List.length_append,List.length_cons,List.length_nil]; omega) | (simp [maxLen] <;> omega)) (by first | (simp only[List.length_map,List.length_append,List.length_cons,List.length_nil]; omega) | (simp <;> omega)) ?_))⟩
        refine aQ (cD [26,35] rfl) (aG (aH 15 [] (by kernel_rfl) ⟨?_,trivial⟩))
        ·
         refine⟨_,rfl,rfl,(ao rfl (aK hf rfl (aN aU rfl rfl rfl rfl (l2 rfl)) (aG (aH 16 [] (by kernel_rfl) ⟨?_,trivial⟩))))⟩
         ·
          refine⟨_,rfl,rfl,(ao rfl (aT hf rfl aU rfl rfl rfl (.inl rfl) (by first | rfl | (simp only[List.length_map,List.length_nil]; omega) | simp) rfl (by first | rfl | simp [cV,bF]) (by first | (simp only[maxLen,List.length_map,List.length_append,List.length_cons,List.length_nil]; omega) | (simp [maxLen] <;> omega)) (by first | (simp only[List.length_map,List.length_append,List.length_cons,List.length_nil]; omega) | (simp <;> omega)) ?_))⟩
          refine aQ (cD [37] rfl) (aG (aH 17 [] (by kernel_rfl) ⟨?_,trivial⟩))
          ·
           refine⟨_,rfl,rfl,(ao rfl (aE aA 1 rfl (aG (bW (by kernel_rfl) ?_))))⟩
           refine hK5 _ (aJ ?_)
           refine⟨21,(eB out s).map spC,by decide,?_,?_,rfl⟩
           · rw[cN (by omega) (by omega),List.map_append]; rfl
           · rw[cN (by omega) (by omega),List.map_append,List.length_append]
             show some (AV.own 21 2 0 (0+((out.take (out.length - 1)).map spC).length+1))=_
             rw[Nat.zero_add]; rfl
       ·
        refine⟨_,rfl,rfl,(ao rfl (aK hf rfl (aN aU rfl rfl rfl rfl (l2 rfl)) (aG (aH 5 [] (by kernel_rfl) ⟨?_,trivial⟩))))⟩
        ·
         refine⟨_,rfl,rfl,(ao rfl (aT hf rfl aU rfl rfl rfl (.inl rfl) (by first | rfl | (simp only[List.length_map,List.length_nil]; omega) | simp) rfl (cZ (l:=out) (j:=out.length - 1) rfl (by omega) (by omega) (by omega)) (by first | (simp only[maxLen,List.length_map,List.length_append,List.length_cons,List.length_nil]; omega) | (simp [maxLen] <;> omega)) (by first | (simp only[List.length_map,List.length_append,List.length_cons,List.length_nil]; omega) | (simp <;> omega)) ?_))⟩
         refine aQ (cD [26,36] rfl) (aG (aH 16 [] (by kernel_rfl) ⟨?_,trivial⟩))
         ·
          refine⟨_,rfl,rfl,(ao rfl (aT hf rfl aU rfl rfl rfl (.inl rfl) (by first | rfl | (simp only[List.length_map,List.length_nil]; omega) | simp) rfl (by first | rfl | simp [cV,bF]) (by first | (simp only[maxLen,List.length_map,List.length_append,List.length_cons,List.length_nil]; omega) | (simp [maxLen] <;> omega)) (by first | (simp only[List.length_map,List.length_append,List.length_cons,List.length_nil]; omega) | (simp <;> omega)) ?_))⟩
          refine aQ (cD [37] rfl) (aG (aH 17 [] (by kernel_rfl) ⟨?_,trivial⟩))
          ·
           refine⟨_,rfl,rfl,(ao rfl (aE aA 1 rfl (aG (bW (by kernel_rfl) ?_))))⟩
           refine hK5 _ (aJ ?_)
           refine⟨21,(eB out s).map spC,by decide,?_,?_,rfl⟩
           · rw[cN (by omega) (by omega),List.map_append]; rfl
           · rw[cN (by omega) (by omega),List.map_append,List.length_append]
             show some (AV.own 21 2 0 (0+((out.take (out.length - 1)).map spC).length+1))=_
             rw[Nat.zero_add]; rfl
      ·
       refine⟨_,rfl,rfl,(ao rfl (aK hf rfl (aN aU rfl rfl rfl rfl (l2 rfl)) (aG (aH 0 [] (by kernel_rfl) ⟨?_,trivial⟩))))⟩
       ·
        refine⟨_,rfl,rfl,(ao rfl (cP hf rfl rfl rfl aU rfl rfl rfl rfl (l2 rfl) ?_))⟩
        refine aG (aH 5 [] (by kernel_rfl) ⟨?_,trivial⟩)
        ·
         refine⟨_,rfl,rfl,(ao rfl (aT hf rfl aU rfl rfl rfl (.inl rfl) (by first | rfl | (simp only[List.length_map,List.length_nil]; omega) | simp) rfl (cZ (l:=out) (j:=out.length - 1) rfl (by omega) (by omega) (by omega)) (by first | (simp only[maxLen,List.length_map,List.length_append,List.length_cons,List.length_nil]; omega) | (simp [maxLen] <;> omega)) (by first | (simp only[List.length_map,List.length_append,List.length_cons,List.length_nil]; omega) | (simp <;> omega)) ?_))⟩
         refine aQ (cD [26,36] rfl) (aG (aH 16 [] (by kernel_rfl) ⟨?_,trivial⟩))
         ·
          refine⟨_,rfl,rfl,(ao rfl (aT hf rfl aU rfl rfl rfl (.inl rfl) (by first | rfl | (simp only[List.length_map,List.length_nil]; omega) | simp) rfl (by first | rfl | simp [cV,bF]) (by first | (simp only[maxLen,List.length_map,List.length_append,List.length_cons,List.length_nil]; omega) | (simp [maxLen] <;> omega)) (by first | (simp only[List.length_map,List.length_append,List.length_cons,List.length_nil]; omega) | (simp <;> omega)) ?_))⟩
          refine aQ (cD [37] rfl) (aG (aH 17 [] (by kernel_rfl) ⟨?_,trivial⟩))
          ·
           refine⟨_,rfl,rfl,(ao rfl (aE aA 1 rfl (aG (bW (by kernel_rfl) ?_))))⟩
           refine hK5 _ (aJ ?_)
           refine⟨21,(eB out s).map spC,by decide,?_,?_,rfl⟩
           · rw[cN (by omega) (by omega),List.map_append]; rfl
           · rw[cN (by omega) (by omega),List.map_append,List.length_append]
             show some (AV.own 21 2 0 (0+((out.take (out.length - 1)).map spC).length+1))=_
             rw[Nat.zero_add]; rfl
   ·
    refine⟨_,rfl,rfl,(ao rfl (aE aA 1 rfl (aG (aH 0 [11] (by kernel_rfl) ⟨?_,?_,trivial⟩))))⟩
    ·
     refine⟨_,rfl,rfl,(ao rfl (cP hf rfl rfl rfl aU rfl rfl rfl rfl (l2 rfl) ?_))⟩
     refine aG (aH 5 [11] (by kernel_rfl) ⟨?_,?_,trivial⟩)
     ·
      refine⟨_,rfl,rfl,(ao rfl (aT hf rfl aU rfl rfl rfl (.inl rfl) (by first | rfl | (simp only[List.length_map,List.length_nil]; omega) | simp) rfl (cZ (l:=out) (j:=out.length - 1) rfl (by omega) (by omega) (by omega)) (by first | (simp only[maxLen,List.length_map,List.length_append,List.length_cons,List.length_nil]; omega) | (simp [maxLen] <;> omega)) (by first | (simp only[List.length_map,List.length_append,List.length_cons,List.length_nil]; omega) | (simp <;> omega)) ?_))⟩
      refine aQ (cD [26,31,34] rfl) (aG (aH 11 [] (by kernel_rfl) ⟨?_,trivial⟩))
      ·
       refine⟨_,rfl,rfl,(ao rfl (aF rfl (gR rfl kS rfl (c:=.s (.int .i64 (out[out.length - 1]'(by omega)).1)) (hJ (c:=2) (k:=out.length - 1) (enc:=spC) (by omega) (by omega) 0)) (aG (aH 14 [] (by kernel_rfl) ⟨?_,trivial⟩))))⟩
       ·
        refine⟨_,rfl,rfl,(ao rfl (aF rfl (bO rfl eD dL (l3 rfl) rfl) (aG (aH 15 [] (by kernel_rfl) ⟨?_,trivial⟩))))⟩
        ·
         refine⟨_,rfl,rfl,(ao rfl (aK hf rfl (aN aU rfl rfl rfl rfl (l2 rfl)) (aG (aH 16 [] (by kernel_rfl) ⟨?_,trivial⟩))))⟩
         ·
          refine⟨_,rfl,rfl,(ao rfl (aT hf rfl aU rfl rfl rfl (.inl rfl) (by first | rfl | (simp only[List.length_map,List.length_nil]; omega) | simp) rfl (by first | rfl | simp [cV,bF]) (by first | (simp only[maxLen,List.length_map,List.length_append,List.length_cons,List.length_nil]; omega) | (simp [maxLen] <;> omega)) (by first | (simp only[List.length_map,List.length_append,List.length_cons,List.length_nil]; omega) | (simp <;> omega)) ?_))⟩
          refine aQ (cD [37] rfl) (aG (aH 17 [] (by kernel_rfl) ⟨?_,trivial⟩))
          ·
           refine⟨_,rfl,rfl,(ao rfl (aE aA 1 rfl (aG (bW (by kernel_rfl) ?_))))⟩
           refine hK5 _ (aJ ?_)
           refine⟨21,(eB out s).map spC,by decide,?_,?_,rfl⟩
           · rw[cN (by omega) (by omega),List.map_append]; rfl
           · rw[cN (by omega) (by omega),List.map_append,List.length_append]
             show some (AV.own 21 2 0 (0+((out.take (out.length - 1)).map spC).length+1))=_
             rw[Nat.zero_add]; rfl
     ·
      refine⟨_,rfl,rfl,(ao rfl (aF rfl (gR rfl kS rfl (c:=.s (.int .i64 (out[out.length - 1]'(by omega)).1)) (hJ (c:=2) (k:=out.length - 1) (enc:=spC) (by omega) (by omega) 0)) (aG (aH 5 [14] (by kernel_rfl) ⟨?_,?_,trivial⟩))))⟩
      ·
       refine⟨_,rfl,rfl,(ao rfl (aT hf rfl aU rfl rfl rfl (.inl rfl) (by first | rfl | (simp only[List.length_map,List.length_nil]; omega) | simp) rfl (cZ (l:=out) (j:=out.length - 1) rfl (by omega) (by omega) (by omega)) (by first | (simp only[maxLen,List.length_map,List.length_append,List.length_cons,List.length_nil]; omega) | (simp [maxLen] <;> omega)) (by first | (simp only[List.length_map,List.length_append,List.length_cons,List.length_nil]; omega) | (simp <;> omega)) ?_))⟩
       refine aQ (cD [26,32,34] rfl) (aG (aH 14 [] (by kernel_rfl) ⟨?_,trivial⟩))
       ·
        refine⟨_,rfl,rfl,(ao rfl (aF rfl (bO rfl eD dL (l3 rfl) rfl) (aG (aH 15 [] (by kernel_rfl) ⟨?_,trivial⟩))))⟩
        ·
         refine⟨_,rfl,rfl,(ao rfl (aK hf rfl (aN aU rfl rfl rfl rfl (l2 rfl)) (aG (aH 16 [] (by kernel_rfl) ⟨?_,trivial⟩))))⟩
         ·
          refine⟨_,rfl,rfl,(ao rfl (aT hf rfl aU rfl rfl rfl (.inl rfl) (by first | rfl | (simp only[List.length_map,List.length_nil]; omega) | simp) rfl (by first | rfl | simp [cV,bF]) (by first | (simp only[maxLen,List.length_map,List.length_append,List.length_cons,List.length_nil]; omega) | (simp [maxLen] <;> omega)) (by first | (simp only[List.length_map,List.length_append,List.length_cons,List.length_nil]; omega) | (simp <;> omega)) ?_))⟩
          refine aQ (cD [37] rfl) (aG (aH 17 [] (by kernel_rfl) ⟨?_,trivial⟩))
          ·
           refine⟨_,rfl,rfl,(ao rfl (aE aA 1 rfl (aG (bW (by kernel_rfl) ?_))))⟩
           refine hK5 _ (aJ ?_)
           refine⟨21,(eB out s).map spC,by decide,?_,?_,rfl⟩
           · rw[cN (by omega) (by omega),List.map_append]; rfl
           · rw[cN (by omega) (by omega),List.map_append,List.length_append]
             show some (AV.own 21 2 0 (0+((out.take (out.length - 1)).map spC).length+1))=_
             rw[Nat.zero_add]; rfl
      ·
       refine⟨_,rfl,rfl,(ao rfl (aF rfl (bO rfl eD dL (l3 rfl) rfl) (aG (aH 5 [15] (by kernel_rfl) ⟨?_,?_,trivial⟩))))⟩
       ·
        refine⟨_,rfl,rfl,(ao rfl (aT hf rfl aU rfl rfl rfl (.inl rfl) (by first | rfl | (simp only[List.length_map,List.length_nil]; omega) | simp) rfl (cZ (l:=out) (j:=out.length - 1) rfl (by omega) (by omega) (by omega)) (by first | (simp only[maxLen,List.length_map,List.length_append,List.length_cons,List.length_nil]; omega) | (simp [maxLen] <;> omega)) (by first | (simp only[List.length_map,List.length_append,List.length_cons,List.length_nil]; omega) | (simp <;> omega)) ?_))⟩
        refine aQ (cD [26,35] rfl) (aG (aH 15 [] (by kernel_rfl) ⟨?_,trivial⟩))
        ·
         refine⟨_,rfl,rfl,(ao rfl (aK hf rfl (aN aU rfl rfl rfl rfl (l2 rfl)) (aG (aH 16 [] (by kernel_rfl) ⟨?_,trivial⟩))))⟩
         ·
          refine⟨_,rfl,rfl,(ao rfl (aT hf rfl aU rfl rfl rfl (.inl rfl) (by first | rfl | (simp only[List.length_map,List.length_nil]; omega) | simp) rfl (by first | rfl | simp [cV,bF]) (by first | (simp only[maxLen,List.length_map,List.length_append,List.length_cons,List.length_nil]; omega) | (simp [maxLen] <;> omega)) (by first | (simp only[List.length_map,List.length_append,List.length_cons,List.length_nil]; omega) | (simp <;> omega)) ?_))⟩
          refine aQ (cD [37] rfl) (aG (aH 17 [] (by kernel_rfl) ⟨?_,trivial⟩))
          ·
           refine⟨_,rfl,rfl,(ao rfl (aE aA 1 rfl (aG (bW (by kernel_rfl) ?_))))⟩
           refine hK5 _ (aJ ?_)
           refine⟨21,(eB out s).map spC,by decide,?_,?_,rfl⟩
           · rw[cN (by omega) (by omega),List.map_append]; rfl
           · rw[cN (by omega) (by omega),List.map_append,List.length_append]
             show some (AV.own 21 2 0 (0+((out.take (out.length - 1)).map spC).length+1))=_
             rw[Nat.zero_add]; rfl
       ·
        refine⟨_,rfl,rfl,(ao rfl (aK hf rfl (aN aU rfl rfl rfl rfl (l2 rfl)) (aG (aH 5 [] (by kernel_rfl) ⟨?_,trivial⟩))))⟩
        ·
         refine⟨_,rfl,rfl,(ao rfl (aT hf rfl aU rfl rfl rfl (.inl rfl) (by first | rfl | (simp only[List.length_map,List.length_nil]; omega) | simp) rfl (cZ (l:=out) (j:=out.length - 1) rfl (by omega) (by omega) (by omega)) (by first | (simp only[maxLen,List.length_map,List.length_append,List.length_cons,List.length_nil]; omega) | (simp [maxLen] <;> omega)) (by first | (simp only[List.length_map,List.length_append,List.length_cons,List.length_nil]; omega) | (simp <;> omega)) ?_))⟩
         refine aQ (cD [26,36] rfl) (aG (aH 16 [] (by kernel_rfl) ⟨?_,trivial⟩))
         ·
          refine⟨_,rfl,rfl,(ao rfl (aT hf rfl aU rfl rfl rfl (.inl rfl) (by first | rfl | (simp only[List.length_map,List.length_nil]; omega) | simp) rfl (by first | rfl | simp [cV,bF]) (by first | (simp only[maxLen,List.length_map,List.length_append,List.length_cons,List.length_nil]; omega) | (simp [maxLen] <;> omega)) (by first | (simp only[List.length_map,List.length_append,List.length_cons,List.length_nil]; omega) | (simp <;> omega)) ?_))⟩
          refine aQ (cD [37] rfl) (aG (aH 17 [] (by kernel_rfl) ⟨?_,trivial⟩))
          ·
           refine⟨_,rfl,rfl,(ao rfl (aE aA 1 rfl (aG (bW (by kernel_rfl) ?_))))⟩
           refine hK5 _ (aJ ?_)
           refine⟨21,(eB out s).map spC,by decide,?_,?_,rfl⟩
           · rw[cN (by omega) (by omega),List.map_append]; rfl
           · rw[cN (by omega) (by omega),List.map_append,List.length_append]
             show some (AV.own 21 2 0 (0+((out.take (out.length - 1)).map spC).length+1))=_
             rw[Nat.zero_add]; rfl
    ·
     refine⟨_,rfl,rfl,(ao rfl (aF rfl (gR rfl kS rfl (c:=.s (.int .i64 (out[out.length - 1]'(by omega)).1)) (hJ (c:=2) (k:=out.length - 1) (enc:=spC) (by omega) (by omega) 0)) (aG (aH 0 [14] (by kernel_rfl) ⟨?_,?_,trivial⟩))))⟩
     ·
      refine⟨_,rfl,rfl,(ao rfl (cP hf rfl rfl rfl aU rfl rfl rfl rfl (l2 rfl) ?_))⟩
      refine aG (aH 5 [14] (by kernel_rfl) ⟨?_,?_,trivial⟩)
      ·
       refine⟨_,rfl,rfl,(ao rfl (aT hf rfl aU rfl rfl rfl (.inl rfl) (by first | rfl | (simp only[List.length_map,List.length_nil]; omega) | simp) rfl (cZ (l:=out) (j:=out.length - 1) rfl (by omega) (by omega) (by omega)) (by first | (simp only[maxLen,List.length_map,List.length_append,List.length_cons,List.length_nil]; omega) | (simp [maxLen] <;> omega)) (by first | (simp only[List.length_map,List.length_append,List.length_cons,List.length_nil]; omega) | (simp <;> omega)) ?_))⟩
       refine aQ (cD [26,32,34] rfl) (aG (aH 14 [] (by kernel_rfl) ⟨?_,trivial⟩))
       ·
        refine⟨_,rfl,rfl,(ao rfl (aF rfl (bO rfl eD dL (l3 rfl) rfl) (aG (aH 15 [] (by kernel_rfl) ⟨?_,trivial⟩))))⟩
        ·
         refine⟨_,rfl,rfl,(ao rfl (aK hf rfl (aN aU rfl rfl rfl rfl (l2 rfl)) (aG (aH 16 [] (by kernel_rfl) ⟨?_,trivial⟩))))⟩
         ·
          refine⟨_,rfl,rfl,(ao rfl (aT hf rfl aU rfl rfl rfl (.inl rfl) (by first | rfl | (simp only[List.length_map,List.length_nil]; omega) | simp) rfl (by first | rfl | simp [cV,bF]) (by first | (simp only[maxLen,List.length_map,List.length_append,List.length_cons,List.length_nil]; omega) | (simp [maxLen] <;> omega)) (by first | (simp only[List.length_map,List.length_append,List.length_cons,List.length_nil]; omega) | (simp <;> omega)) ?_))⟩
          refine aQ (cD [37] rfl) (aG (aH 17 [] (by kernel_rfl) ⟨?_,trivial⟩))
          ·
           refine⟨_,rfl,rfl,(ao rfl (aE aA 1 rfl (aG (bW (by kernel_rfl) ?_))))⟩
           refine hK5 _ (aJ ?_)
           refine⟨21,(eB out s).map spC,by decide,?_,?_,rfl⟩
           · rw[cN (by omega) (by omega),List.map_append]; rfl
           · rw[cN (by omega) (by omega),List.map_append,List.length_append]
             show some (AV.own 21 2 0 (0+((out.take (out.length - 1)).map spC).length+1))=_
             rw[Nat.zero_add]; rfl
      ·
       refine⟨_,rfl,rfl,(ao rfl (aF rfl (bO rfl eD dL (l3 rfl) rfl) (aG (aH 5 [15] (by kernel_rfl) ⟨?_,?_,trivial⟩))))⟩
       ·
        refine⟨_,rfl,rfl,(ao rfl (aT hf rfl aU rfl rfl rfl (.inl rfl) (by first | rfl | (simp only[List.length_map,List.length_nil]; omega) | simp) rfl (cZ (l:=out) (j:=out.length - 1) rfl (by omega) (by omega) (by omega)) (by first | (simp only[maxLen,List.length_map,List.length_append,List.length_cons,List.length_nil]; omega) | (simp [maxLen] <;> omega)) (by first | (simp only[List.length_map,List.length_append,List.length_cons,List.length_nil]; omega) | (simp <;> omega)) ?_))⟩
        refine aQ (cD [26,35] rfl) (aG (aH 15 [] (by kernel_rfl) ⟨?_,trivial⟩))
        ·
         refine⟨_,rfl,rfl,(ao rfl (aK hf rfl (aN aU rfl rfl rfl rfl (l2 rfl)) (aG (aH 16 [] (by kernel_rfl) ⟨?_,trivial⟩))))⟩
         ·
          refine⟨_,rfl,rfl,(ao rfl (aT hf rfl aU rfl rfl rfl (.inl rfl) (by first | rfl | (simp only[List.length_map,List.length_nil]; omega) | simp) rfl (by first | rfl | simp [cV,bF]) (by first | (simp only[maxLen,List.length_map,List.length_append,List.length_cons,List.length_nil]; omega) | (simp [maxLen] <;> omega)) (by first | (simp only[List.length_map,List.length_append,List.length_cons,List.length_nil]; omega) | (simp <;> omega)) ?_))⟩
          refine aQ (cD [37] rfl) (aG (aH 17 [] (by kernel_rfl) ⟨?_,trivial⟩))
          ·
           refine⟨_,rfl,rfl,(ao rfl (aE aA 1 rfl (aG (bW (by kernel_rfl) ?_))))⟩
           refine hK5 _ (aJ ?_)
           refine⟨21,(eB out s).map spC,by decide,?_,?_,rfl⟩
           · rw[cN (by omega) (by omega),List.map_append]; rfl
           · rw[cN (by omega) (by omega),List.map_append,List.length_append]
             show some (AV.own 21 2 0 (0+((out.take (out.length - 1)).map spC).length+1))=_
             rw[Nat.zero_add]; rfl
       ·
        refine⟨_,rfl,rfl,(ao rfl (aK hf rfl (aN aU rfl rfl rfl rfl (l2 rfl)) (aG (aH 5 [] (by kernel_rfl) ⟨?_,trivial⟩))))⟩
        ·
         refine⟨_,rfl,rfl,(ao rfl (aT hf rfl aU rfl rfl rfl (.inl rfl) (by first | rfl | (simp only[List.length_map,List.length_nil]; omega) | simp) rfl (cZ (l:=out) (j:=out.length - 1) rfl (by omega) (by omega) (by omega)) (by first | (simp only[maxLen,List.length_map,List.length_append,List.length_cons,List.length_nil]; omega) | (simp [maxLen] <;> omega)) (by first | (simp only[List.length_map,List.length_append,List.length_cons,List.length_nil]; omega) | (simp <;> omega)) ?_))⟩
         refine aQ (cD [26,36] rfl) (aG (aH 16 [] (by kernel_rfl) ⟨?_,trivial⟩))
         ·
          refine⟨_,rfl,rfl,(ao rfl (aT hf rfl aU rfl rfl rfl (.inl rfl) (by first | rfl | (simp only[List.length_map,List.length_nil]; omega) | simp) rfl (by first | rfl | simp [cV,bF]) (by first | (simp only[maxLen,List.length_map,List.length_append,List.length_cons,List.length_nil]; omega) | (simp [maxLen] <;> omega)) (by first | (simp only[List.length_map,List.length_append,List.length_cons,List.length_nil]; omega) | (simp <;> omega)) ?_))⟩
          refine aQ (cD [37] rfl) (aG (aH 17 [] (by kernel_rfl) ⟨?_,trivial⟩))
          ·
           refine⟨_,rfl,rfl,(ao rfl (aE aA 1 rfl (aG (bW (by kernel_rfl) ?_))))⟩
           refine hK5 _ (aJ ?_)
           refine⟨21,(eB out s).map spC,by decide,?_,?_,rfl⟩
           · rw[cN (by omega) (by omega),List.map_append]; rfl
           · rw[cN (by omega) (by omega),List.map_append,List.length_append]
             show some (AV.own 21 2 0 (0+((out.take (out.length - 1)).map spC).length+1))=_
             rw[Nat.zero_add]; rfl
     ·
      refine⟨_,rfl,rfl,(ao rfl (aF rfl (bO rfl eD dL (l3 rfl) rfl) (aG (aH 0 [15] (by kernel_rfl) ⟨?_,?_,trivial⟩))))⟩
      ·
       refine⟨_,rfl,rfl,(ao rfl (cP hf rfl rfl rfl aU rfl rfl rfl rfl (l2 rfl) ?_))⟩
       refine aG (aH 5 [15] (by kernel_rfl) ⟨?_,?_,trivial⟩)
       ·
        refine⟨_,rfl,rfl,(ao rfl (aT hf rfl aU rfl rfl rfl (.inl rfl) (by first | rfl | (simp only[List.length_map,List.length_nil]; omega) | simp) rfl (cZ (l:=out) (j:=out.length - 1) rfl (by omega) (by omega) (by omega)) (by first | (simp only[maxLen,List.length_map,List.length_append,List.length_cons,List.length_nil]; omega) | (simp [maxLen] <;> omega)) (by first | (simp only[List.length_map,List.length_append,List.length_cons,List.length_nil]; omega) | (simp <;> omega)) ?_))⟩
        refine aQ (cD [26,35] rfl) (aG (aH 15 [] (by kernel_rfl) ⟨?_,trivial⟩))
        ·
         refine⟨_,rfl,rfl,(ao rfl (aK hf rfl (aN aU rfl rfl rfl rfl (l2 rfl)) (aG (aH 16 [] (by kernel_rfl) ⟨?_,trivial⟩))))⟩
         ·
          refine⟨_,rfl,rfl,(ao rfl (aT hf rfl aU rfl rfl rfl (.inl rfl) (by first | rfl | (simp only[List.length_map,List.length_nil]; omega) | simp) rfl (by first | rfl | simp [cV,bF]) (by first | (simp only[maxLen,List.length_map,List.length_append,List.length_cons,List.length_nil]; omega) | (simp [maxLen] <;> omega)) (by first | (simp only[List.length_map,List.length_append,List.length_cons,List.length_nil]; omega) | (simp <;> omega)) ?_))⟩
          refine aQ (cD [37] rfl) (aG (aH 17 [] (by kernel_rfl) ⟨?_,trivial⟩))
          ·
           refine⟨_,rfl,rfl,(ao rfl (aE aA 1 rfl (aG (bW (by kernel_rfl) ?_))))⟩
           refine hK5 _ (aJ ?_)
           refine⟨21,(eB out s).map spC,by decide,?_,?_,rfl⟩
           · rw[cN (by omega) (by omega),List.map_append]; rfl
           · rw[cN (by omega) (by omega),List.map_append,List.length_append]
             show some (AV.own 21 2 0 (0+((out.take (out.length - 1)).map spC).length+1))=_
             rw[Nat.zero_add]; rfl
       ·
        refine⟨_,rfl,rfl,(ao rfl (aK hf rfl (aN aU rfl rfl rfl rfl (l2 rfl)) (aG (aH 5 [] (by kernel_rfl) ⟨?_,trivial⟩))))⟩
        ·
         refine⟨_,rfl,rfl,(ao rfl (aT hf rfl aU rfl rfl rfl (.inl rfl) (by first | rfl | (simp only[List.length_map,List.length_nil]; omega) | simp) rfl (cZ (l:=out) (j:=out.length - 1) rfl (by omega) (by omega) (by omega)) (by first | (simp only[maxLen,List.length_map,List.length_append,List.length_cons,List.length_nil]; omega) | (simp [maxLen] <;> omega)) (by first | (simp only[List.length_map,List.length_append,List.length_cons,List.length_nil]; omega) | (simp <;> omega)) ?_))⟩
         refine aQ (cD [26,36] rfl) (aG (aH 16 [] (by kernel_rfl) ⟨?_,trivial⟩))
         ·
          refine⟨_,rfl,rfl,(ao rfl (aT hf rfl aU rfl rfl rfl (.inl rfl) (by first | rfl | (simp only[List.length_map,List.length_nil]; omega) | simp) rfl (by first | rfl | simp [cV,bF]) (by first | (simp only[maxLen,List.length_map,List.length_append,List.length_cons,List.length_nil]; omega) | (simp [maxLen] <;> omega)) (by first | (simp only[List.length_map,List.length_append,List.length_cons,List.length_nil]; omega) | (simp <;> omega)) ?_))⟩
          refine aQ (cD [37] rfl) (aG (aH 17 [] (by kernel_rfl) ⟨?_,trivial⟩))
          ·
           refine⟨_,rfl,rfl,(ao rfl (aE aA 1 rfl (aG (bW (by kernel_rfl) ?_))))⟩
           refine hK5 _ (aJ ?_)
           refine⟨21,(eB out s).map spC,by decide,?_,?_,rfl⟩
           · rw[cN (by omega) (by omega),List.map_append]; rfl
           · rw[cN (by omega) (by omega),List.map_append,List.length_append]
             show some (AV.own 21 2 0 (0+((out.take (out.length - 1)).map spC).length+1))=_
             rw[Nat.zero_add]; rfl
      ·
       refine⟨_,rfl,rfl,(ao rfl (aK hf rfl (aN aU rfl rfl rfl rfl (l2 rfl)) (aG (aH 0 [] (by kernel_rfl) ⟨?_,trivial⟩))))⟩
       ·
        refine⟨_,rfl,rfl,(ao rfl (cP hf rfl rfl rfl aU rfl rfl rfl rfl (l2 rfl) ?_))⟩
        refine aG (aH 5 [] (by kernel_rfl) ⟨?_,trivial⟩)
        ·
         refine⟨_,rfl,rfl,(ao rfl (aT hf rfl aU rfl rfl rfl (.inl rfl) (by first | rfl | (simp only[List.length_map,List.length_nil]; omega) | simp) rfl (cZ (l:=out) (j:=out.length - 1) rfl (by omega) (by omega) (by omega)) (by first | (simp only[maxLen,List.length_map,List.length_append,List.length_cons,List.length_nil]; omega) | (simp [maxLen] <;> omega)) (by first | (simp only[List.length_map,List.length_append,List.length_cons,List.length_nil]; omega) | (simp <;> omega)) ?_))⟩
         refine aQ (cD [26,36] rfl) (aG (aH 16 [] (by kernel_rfl) ⟨?_,trivial⟩))
         ·
          refine⟨_,rfl,rfl,(ao rfl (aT hf rfl aU rfl rfl rfl (.inl rfl) (by first | rfl | (simp only[List.length_map,List.length_nil]; omega) | simp) rfl (by first | rfl | simp [cV,bF]) (by first | (simp only[maxLen,List.length_map,List.length_append,List.length_cons,List.length_nil]; omega) | (simp [maxLen] <;> omega)) (by first | (simp only[List.length_map,List.length_append,List.length_cons,List.length_nil]; omega) | (simp <;> omega)) ?_))⟩
          refine aQ (cD [37] rfl) (aG (aH 17 [] (by kernel_rfl) ⟨?_,trivial⟩))
          ·
           refine⟨_,rfl,rfl,(ao rfl (aE aA 1 rfl (aG (bW (by kernel_rfl) ?_))))⟩
           refine hK5 _ (aJ ?_)
           refine⟨21,(eB out s).map spC,by decide,?_,?_,rfl⟩
           · rw[cN (by omega) (by omega),List.map_append]; rfl
           · rw[cN (by omega) (by omega),List.map_append,List.length_append]
             show some (AV.own 21 2 0 (0+((out.take (out.length - 1)).map spC).length+1))=_
             rw[Nat.zero_add]; rfl
  ·
   simp only[bs] at hc2
   refine aL (hK3 _ (aC (fun K6 hK6=>(aB (aE aA 2 rfl (aK hf rfl (aN aU rfl rfl rfl rfl (l2 rfl)) (aT hf rfl aU rfl rfl rfl (.inl rfl) (by first | rfl | (simp only[List.length_map,List.length_nil]; omega) | simp) rfl (by first | rfl | simp [cV,bF]) (by first | (simp only[maxLen,List.length_map,List.length_append,List.length_cons,List.length_nil]; omega) | (simp [maxLen] <;> omega)) (by first | (simp only[List.length_map,List.length_append,List.length_cons,List.length_nil]; omega) | (simp <;> omega)) ?_)))))))
   refine aQ (cD [41] rfl) (aE aA 1 rfl (aD (hK6 _ (aJ ?_))))
   refine⟨G0,(eB out s).map spC,by decide,?_,?_,rfl⟩
   · first | (rw[aMt (by omega) (by omega),List.map_append]; rfl) | (obtain rfl:out=[]:=List.eq_nil_of_length_eq_zero (by omega); rfl)
   · show some (AV.own G0 2 0 (n+1))=_
     (rw[aMt (by omega) (by omega),hn,List.length_map,List.length_append]; rfl)
 ·
  simp only[bs] at hg1
  refine bL aA 10 rfl (gE [0,3,5,20] rfl rfl rfl (hK4 _ (bD rfl (aL (hK3 _ (aC (fun K7 hK7=>(aB (aE aA 2 rfl (aK hf rfl (aN aU rfl rfl rfl rfl (l2 rfl)) (aT hf rfl aU rfl rfl rfl (.inl rfl) (by first | rfl | (simp only[List.length_map,List.length_nil]; omega) | simp) rfl (by first | rfl | simp [cV,bF]) (by first | (simp only[maxLen,List.length_map,List.length_append,List.length_cons,List.length_nil]; omega) | (simp [maxLen] <;> omega)) (by first | (simp only[List.length_map,List.length_append,List.length_cons,List.length_nil]; omega) | (simp <;> omega)) ?_)))))))))))
  refine aQ (cD [41] rfl) (aE aA 1 rfl (aD (hK7 _ (aJ ?_))))
  refine⟨G0,(eB out s).map spC,by decide,?_,?_,rfl⟩
  · first | (rw[aMt (by omega) (by omega),List.map_append]; rfl) | (obtain rfl:out=[]:=List.eq_nil_of_length_eq_zero (by omega); rfl)
  · show some (AV.own G0 2 0 (n+1))=_
    (obtain rfl:out=[]:=List.eq_nil_of_length_eq_zero (by omega); rw[hn]; rfl)
end Go.Proofs.YtijnkglkchhomaaGreat
set_option linter.unusedVariables false
set_option linter.unusedSimpArgs false
namespace Go.Proofs.YtijnkglkchhomaaGreat
open Go Go.Abs
theorem aHw (l:List Sp) (hl:l.length≤100000000000) :Den Tryz.prog 84 [.sl 2 (l.map spC)]  (·=.sl 2 (oE l |>.map spC)):=by
 have hel:=aJg l
 refine aS Tryz.func84 rfl (Nat.le_of_ble_eq_true rfl) (fun w0 A hf=>(aC (fun K1 hK1=>(aB (aF rfl (bE) (aD (hK1 _ (aC (fun K2 hK2=>(aB (aE aA 1 rfl (aK hf rfl (aR rfl rfl aLm rfl (aSb _ (by omega))) (aE aA 1 rfl (aD (hK2 _ ?_)))))))))))))))
 refine aC (fun K3 hK3=>(aB (jK hf 2 rfl rfl rfl (aD (hK3 _ (aC (fun K4 hK4=>(aC (fun K5 hK5=>(aB (aE aA 1 rfl (aD (hK5 _ (aO (bS (ι:=Nat×List Sp) (fun(⟨k,out⟩:Nat×List Sp)=>⟨34,[(0,.sl 2 (l.map spC)),(3,.sl 1 ((jM l).map aIo)),(4,.own 4 2 0 out.length),(5,.s (.int .i64 (k:Nat)))],[(4,.buf 2 (out.map spC))]⟩) (fun(⟨k,out⟩:Nat×List Sp)=>gM (fU l) [] (jM l)=gM (fU l) out (((jM l)).drop k)∧out.length≤k∧k≤(jM l).length) (fun(⟨k,out⟩:Nat×List Sp)=>(jM l).length - k) (0,[]) ?_ ?_ ?_)))))))))))))))
 · exact⟨rfl,Nat.le_refl _,Nat.zero_le _⟩
 · exact dN rfl
 ·
  rintro ⟨k,out⟩ hC
  obtain ⟨hI,h1,h2⟩:=hC
  have hgl:=fun s=>aI2 out s
  refine aC (fun K6 hK6=>(aC (fun K7 hK7=>(aB (aE aA 1 rfl ?_)))))
  refine aF rfl (bJ rfl rfl (by omega) (by omega)) ?_
  refine aE aA 3 rfl (aD (hK7 _ (aI rfl (fun hc1=>?_) (fun hc1=>?_))))
  ·
   simp only[bs] at hc1
   refine aL (hK6 _ (aC (fun K8 hK8=>(aO (aC (fun K9 hK9=>(aB (aE aA 3 rfl ?_))))))))
   refine aF rfl (aW rfl rfl jT cB (by first | exact ixm (by omega) | assumption | exact⟨by decide,rfl⟩)) ?_
   refine aE aA 1 rfl (aK hf rfl (aR rfl rfl aLl rfl (aMg _ _ (by omega))) (aD (hK9 _ (aI rfl (fun hc2=>?_) (fun hc2=>?_)))))
   ·
    refine iA hf (L:=#[true,true,true,true,true,true,true,true,true,true,true,false,false]) 11 2 bN (by kernel_rfl) rfl (by kernel_rfl) rfl ?_
    refine bL aA 3 rfl ?_
    refine bY [(22,_),(23,_)] rfl rfl ⟨⟨rfl,rfl⟩,⟨rfl,rfl⟩,trivial⟩ rfl (aW rfl rfl jT cB (by first | exact ixm (by omega) | assumption | exact⟨by decide,rfl⟩)) ?_
    refine bL aA 3 rfl ?_
    refine bY [(27,_)] rfl rfl ⟨⟨rfl,rfl⟩,trivial⟩ rfl (bJ rfl rfl (by omega) (by omega)) ?_
    refine bY [(26,_),(28,_)] rfl rfl ⟨⟨rfl,rfl⟩,⟨rfl,rfl⟩,trivial⟩ rfl (aW rfl rfl jT cB (hP (k:=k+1) (by omega) (by omega))) (bL aA 1 rfl (bY [(25,_),(30,_)] rfl rfl ⟨⟨rfl,rfl⟩,⟨rfl,rfl⟩,trivial⟩ rfl (bO rfl eD dL (l3 rfl) rfl) (tC [0,3,4,5,21,31] rfl rfl rfl ?_)))
    refine aH 11 [] (by kernel_rfl) ⟨?_,trivial⟩
    ·
     refine⟨_,rfl,rfl,(ao rfl (y_callR hf 4 rfl rfl rfl rfl rfl rfl aLk (aR3 out ((jM l)[k],(jM l)[k+1]) _ rfl (by omega)) ?_))⟩
     rintro _ rfl
     refine aQ (cD [0,3,4,5,32] rfl) (aG (aH 12 [] (by kernel_rfl) ⟨?_,trivial⟩))
     ·
      refine⟨_,rfl,rfl,(ao rfl (aE aA 1 rfl (aG (bW (by kernel_rfl) ?_))))⟩
      refine hK8 _ (aB (aE aA 1 rfl ?_))
      refine aF rfl (bJ rfl rfl (by omega) (by omega)) ?_
      refine aE aA 1 rfl (aD ?_)
      exact⟨(k+1,eB out ((jM l)[k],(jM l)[k+1])),⟨by rw[hI,wK _ _ _ _ (by omega),if_pos (by simp_all)],by have:=hgl ((jM l)[k],(jM l)[k+1]); omega,by omega⟩,by simp only; omega,bT ⟨rfl,rfl,(by first | rfl | (show some (AV.own 4 2 0 ((eB _ _).map spC).length)=_; rw[List.length_map])),rfl,trivial⟩ rfl⟩
   ·
    refine aL (hK8 _ (aB (aE aA 1 rfl ?_)))
    refine aF rfl (bJ rfl rfl (by omega) (by omega)) ?_
    refine aE aA 1 rfl (aD ?_)
    exact⟨(k+1,out),⟨by rw[hI,wK _ _ _ _ (by omega),if_neg (by simp_all)],by omega,by omega⟩,by simp only; omega,bT ⟨rfl,rfl,(by first | rfl | (show some (AV.own 4 2 0 ((eB _ _).map spC).length)=_; rw[List.length_map])),rfl,trivial⟩ rfl⟩
  ·
   simp only[bs] at hc1
   refine bA (hK4 _ (aC (fun K10 hK10=>(aB (aE aA 2 rfl (aD (hK10 _ (aJ ?_))))))))
   refine⟨_,rfl,?_⟩
   refine(bV (g:=4) rfl (by rw[List.length_map])).trans ?_
   rw[show oE l=gM (fU l) [] (jM l) from rfl,hI,aH4 _ _ _ _ (by omega)]
theorem aRd (a b:List Sp) (ha:a.length≤9223372036854775807) (hb:b.length≤9223372036854775807) :Den Tryz.prog 35 [.sl 2 (a.map spC),.sl 2 (b.map spC)]  (·=.s (.bool (decide (a=b)))):=by
 refine aS Tryz.func35 rfl (Nat.le_of_ble_eq_true rfl) (fun w0 A hf=>(aC (fun K1 hK1=>(aB (aE aA 1 rfl (aD (hK1 _ (aC (fun K2 hK2=>(aC (fun K3 hK3=>(aB (aE aA 5 rfl (aD (hK3 _ (aI rfl (fun hc1=>?_) (fun hc1=>?_)))))))))))))))))
 ·
  simp only[bs] at hc1
  refine aC (fun K4 hK4=>(aB (aE aA 1 rfl (aD (hK4 _ (aJ ?_))))))
  refine⟨_,rfl,?_⟩
  refine aV ?_
  rw[aP7 (by omega)]
 ·
  simp only[bs] at hc1
  refine aL (hK2 _ (aC (fun K5 hK5=>(aC (fun K6 hK6=>(aB (aE aA 1 rfl (aD (hK6 _ (aO (bS (ι:=Nat) (fun k=>⟨26,[(0,.sl 2 (a.map spC)),(1,.sl 2 (b.map spC)),(5,.s (.int .i64 (k:Nat)))],[]⟩) (fun k=>k≤a.length∧a.take k=b.take k) (fun k=>a.length - k) 0 ?_ ?_ ?_)))))))))))
  · exact⟨Nat.zero_le _,rfl⟩
  · exact dN rfl
  ·
   rintro k hC
   obtain ⟨h1,h2⟩:=hC
   refine aC (fun K7 hK7=>(aC (fun K8 hK8=>(aB (aE aA 4 rfl (aD (hK8 _ (aI rfl (fun hc2=>?_) (fun hc2=>?_)))))))))
   ·
    simp only[bs] at hc2
    refine aL (hK7 _ (aC (fun K9 hK9=>(aO (aC (fun K10 hK10=>(eQ hf bN (by kernel_rfl) rfl (bL aA 2 rfl ?_))))))))
    refine bY [(17,_),(18,_)] rfl rfl ⟨⟨rfl,rfl⟩,⟨rfl,rfl⟩,trivial⟩ rfl (aW rfl rfl mP kT (by first | exact ixm (by omega) | assumption | exact⟨by decide,rfl⟩)) ?_
    refine bL aA 3 rfl ?_
    refine bY [(21,_),(22,_)] rfl rfl ⟨⟨rfl,rfl⟩,⟨rfl,rfl⟩,trivial⟩ rfl (aW rfl rfl mP kT (by first | exact ixm (by omega) | assumption | exact⟨by decide,rfl⟩)) ?_
    refine bL aA 1 rfl (bY [(20,_),(24,_)] rfl rfl ⟨⟨rfl,rfl⟩,⟨rfl,rfl⟩,trivial⟩ rfl (p_neagg rfl rfl aQu rfl) ?_)
    rw[spC_eq]
    refine gE [0,1,5,25] rfl rfl rfl (hK10 _ (aI rfl (fun hc3=>?_) (fun hc3=>?_)))
    ·
     simp only[bs] at hc3
     refine aC (fun K11 hK11=>(aB (aE aA 1 rfl (aD (hK11 _ (aJ ?_))))))
     refine⟨_,rfl,?_⟩
     refine aV ?_
     rw[aM0 (by omega) (by omega) (by assumption)]
    ·
     simp only[bs] at hc3
     refine aL (hK9 _ (aB (aE aA 1 rfl ?_)))
     refine aF rfl (bJ rfl rfl (by omega) (by omega)) ?_
     refine aE aA 1 rfl (aD ?_)
     exact⟨k+1,⟨by omega,aMz (by omega) (by omega) h2 (by assumption)⟩,by omega,dN rfl⟩
   ·
    simp only[bs] at hc2
    refine bA (hK5 _ (aC (fun K12 hK12=>(aB (aE aA 1 rfl (aD (hK12 _ (aJ ?_))))))))
    refine⟨_,rfl,?_⟩
    refine aV ?_
    rw[aP8 (by omega) (by omega) h2]
theorem aRp (l:List Sp) (hl:l.length*16≤140737488355328) :Den Tryz.prog 36 [.sl 2 (l.map spC)]  (·=.sl 2 (l.map spC)):=by
 refine aS Tryz.func36 rfl (Nat.le_of_ble_eq_true rfl) (fun w0 A hf=>(aC (fun K1 hK1=>(aB (aF rfl (bE) (aD (hK1 _ (aC (fun K2 hK2=>(aB (jK hf 2 rfl rfl rfl (aD (hK2 _ (aC (fun K3 hK3=>(aC (fun K4 hK4=>?_)))))))))))))))))
 refine aB (aE aA 3 rfl (aD (hK4 _ (aO (bS (ι:=Nat) (fun k=>⟨18,[(3,.own 3 2 0 (l.take k).length),(6,.sl 2 (l.map spC)),(7,.s (.int .i64 ((l.map spC).length:Nat))),(8,.s (.int .i64 (k:Nat)))],[(3,.buf 2 ((l.take k).map spC))]⟩) (fun k=>k≤l.length) (fun k=>l.length - k) 0 ?_ ?_ ?_)))))
 · exact Nat.zero_le _
 · exact dN rfl
 ·
  rintro k hC
  refine aC (fun K5 hK5=>(aB (aE aA 1 rfl (aD (hK5 _ (aC (fun K6 hK6=>(aI rfl (fun hc1=>?_) (fun hc1=>?_)))))))))
  ·
   simp only[bs] at hc1
   refine aL (hK6 _ (aC (fun K7 hK7=>(aO (aC (fun K8 hK8=>(aB ?_)))))))
   refine aF rfl (aW rfl rfl kH eS (by first | exact ixm (by omega) | assumption | exact⟨by decide,rfl⟩)) ?_
   refine aE aA 1 rfl (cH hf rfl oP rfl eS rfl rfl rfl rfl (lf rfl) (aD (hK8 _ (aB (aE aA 2 rfl (aK hf rfl (aN aU rfl rfl rfl rfl (l2 rfl)) ?_))))))
   have htl:(l.take k).length=k:=by rw[List.length_take]; omega
   refine aT hf rfl aU rfl rfl rfl (.inl rfl) (by rw[List.length_map]) rfl (by first | rfl | simp [cV,bF]) (by first | (simp only[maxLen,List.length_map,List.length_append,List.length_cons,List.length_nil]; omega) | (simp [maxLen] <;> omega)) (by first | (simp only[List.length_map,List.length_append,List.length_cons,List.length_nil]; omega) | (simp <;> omega)) ?_
   refine aQ (cD [6,7,8,15] rfl) (aE aA 1 rfl ?_)
   refine bB ?_
   refine hK7 _ (aB ?_)
   refine aF rfl (bJ rfl rfl (by omega) (by omega)) ?_
   refine aE aA 1 rfl (aD ?_)
   exact⟨k+1,by omega,by omega,bT ⟨(by rw[aEk l k (by omega)]; rfl),rfl,rfl,rfl,trivial⟩ (by rw[aG7 l spC k (by omega)]; rfl)⟩
  ·
   simp only[bs] at hc1
   refine bA (hK3 _ (aC (fun K9 hK9=>(aB (aE aA 2 rfl (aD (hK9 _ (aJ ?_))))))))
   refine⟨_,rfl,?_⟩
   refine(bV (g:=3) rfl (by rw[List.length_map])).trans ?_
   rw[List.take_of_length_le (by omega)]
theorem aFw (a b:List Sp) (h:a=b) (ha:a.length≤9223372036854775807):Den Tryz.prog 35 [.sl 2 (a.map spC),.sl 2 (b.map spC)] (·=.s (.bool true)):=by
  subst h
  exact(aRd a a ha ha).mono fun r h=>h.trans (by simp)
end Go.Proofs.YtijnkglkchhomaaGreat
set_option linter.unusedVariables false
set_option linter.unusedSimpArgs false
namespace Go.Proofs.YtijnkglkchhomaaGreat.Nm
open Go Go.Abs
theorem pairCmp_den (a b c d:ByteArray) :Den Tryz.prog 228 [.agg [.s (.string a),.s (.string b)],.agg [.s (.string c),.s (.string d)]]  (·=.s (.int .i64 (uE a b c d))):=by
 refine aS Tryz.func228 rfl (Nat.le_of_ble_eq_true rfl) (fun w0 A hf=>(aC (fun K1 hK1=>(aB (aK hf rfl (cL rfl rfl (lf rfl)) (aK hf rfl (cL rfl rfl (lf rfl)) (aE aA 1 rfl (aD (hK1 _ (aC (fun K2 hK2=>(eQ hf bN (by kernel_rfl) rfl (bL aA 4 rfl (cA [(6,_),(8,_)] rfl rfl ⟨⟨rfl,rfl⟩,⟨rfl,rfl⟩,trivial⟩ rfl (aR rfl rfl qH rfl (cmp_den _ _)) (bL aA 4 rfl ?_)))))))))))))))
 refine cA [(11,_),(13,_)] rfl rfl ⟨⟨rfl,rfl⟩,⟨rfl,rfl⟩,trivial⟩ rfl (aR rfl rfl qH rfl (cmp_den _ _)) (cA [(9,_),(14,_)] rfl rfl ⟨⟨rfl,rfl⟩,⟨rfl,rfl⟩,trivial⟩ rfl (aN fC rfl rfl rfl rfl (l2 rfl)) (cA [(15,_)] rfl rfl ⟨⟨rfl,rfl⟩,trivial⟩ rfl (aR rfl rfl tL rfl (or_den [_,_] (by simp))) ?_))
 refine bL aA 1 rfl (gE [4] rfl rfl rfl (hK2 _ (aJ ?_)))
 refine⟨_,rfl,?_⟩
 rfl
theorem pairHas_den (a b s:ByteArray) :Den Tryz.prog 187 [.agg [.s (.string a),.s (.string b)],.s (.string s)]  (·=.s (.bool (nJ a b s))):=by
 refine aS Tryz.func187 rfl (Nat.le_of_ble_eq_true rfl) (fun w0 A hf=>(aC (fun K1 hK1=>(aB (aK hf rfl (cL rfl rfl (lf rfl)) (aE aA 1 rfl (aD (hK1 _ (aC (fun K2 hK2=>(aB (aE aA 5 rfl (aY rfl rfl rfl (fun hg1=>?_) (fun hg1=>?_))))))))))))))
 ·
  simp only[bs,iU,dJ,List.length_cons,List.length_nil] at hg1
  refine aF rfl (bZ rfl aJ3 cJ rfl) ?_
  refine aE aA 5 rfl (aD (hK2 _ (aJ ?_)))
  refine⟨_,rfl,?_⟩
  refine aV ?_
  unfold nJ
  rw[Bool.eq_iff_iff]
  simp only[Bool.or_eq_true,decide_eq_true_eq,← toList_inj,beq_iff_eq,true_iff]
  simp_all
 ·
  simp only[bs,iU,dJ,List.length_cons,List.length_nil] at hg1
  refine aE aA 5 rfl (aD (hK2 _ (aJ ?_)))
  refine⟨_,rfl,?_⟩
  refine aV ?_
  unfold nJ
  rw[Bool.eq_iff_iff]
  simp only[Bool.or_eq_true,decide_eq_true_eq,← toList_inj,beq_iff_eq,true_iff]
  simp_all
end Go.Proofs.YtijnkglkchhomaaGreat.Nm
set_option linter.unusedVariables false
set_option linter.unusedSimpArgs false
namespace Go.Proofs.YtijnkglkchhomaaGreat
open Go Go.Abs
theorem pG {g:Nat} {cap:List AV} (hent:∀ args w,(callFunc g args).run Tryz.prog w=.ok (.enter g args) w) (hcl:cleanL (fun _=>false) cap=true) (p:En→Bool) (l:List En) (hl:l.length≤9223372036854775807) (hp:∀ x∈l,Den Tryz.prog g (.agg (enC x)::cap) (·=.s (.bool (p x)))) :Den Tryz.prog 194 [.sl 4 (l.map enC),.fn g cap]  (·=.s (.int .i64 (kZ p l))):=by
 refine aS Tryz.func194 rfl (Nat.le_of_ble_eq_true rfl) (fun w0 A hf=>(aC (fun K1 hK1=>(aB (aE aA 1 rfl (aD (hK1 _ (aC (fun K2 hK2=>(aC (fun K3 hK3=>(aB (aE aA 3 rfl (aD (hK3 _ (aO ?_))))))))))))))))
 refine bS (ι:=Nat) (fun k=>⟨19,[(0,.sl 4 (l.map enC)),(1,.fn g cap),(7,.s (.int .i64 ((l.map enC).length:Nat))),(8,.s (.int .i64 (k:Nat)))],[]⟩) (fun k=>k≤l.length∧∀ (j:Nat) (hj:j<l.length),j<k→p l[j]=false) (fun k=>l.length - k) 0 ?_ ?_ ?_
 · exact⟨by omega,by omega⟩
 · exact dN rfl
 ·
  rintro k hC
  obtain ⟨h1,h2⟩:=hC
  refine aC (fun K4 hK4=>(aB (aE aA 1 rfl (aD (hK4 _ (aC (fun K5 hK5=>(aI rfl (fun hc1=>?_) (fun hc1=>?_)))))))))
  ·
   simp only[bs] at hc1
   refine aL (hK5 _ (aC (fun K6 hK6=>(aO (aC (fun K7 hK7=>(aB (aE aA 2 rfl (aD (hK7 _ (aC (fun K8 hK8=>(aB (aE aA 3 rfl ?_))))))))))))))
   refine aF rfl (aW rfl rfl fZ eR (by first | exact ixm (by omega) | assumption | exact⟨by decide,rfl⟩)) ?_
   refine aE aA 1 rfl (aK hf rfl (aR rfl rfl hent (by rw[fN,hcl]; rfl) (hp _ (List.getElem_mem _))) ?_)
   refine aD (hK8 _ (aI rfl (fun hc2=>?_) (fun hc2=>?_)))
   ·
    refine aC (fun K9 hK9=>(aB (aE aA 2 rfl (aD (hK9 _ (aJ ?_))))))
    refine⟨_,rfl,?_⟩
    refine dM ?_
    rw[iK (by omega) h2 (by assumption)]
   ·
    refine aL (hK6 _ (aB ?_))
    refine aF rfl (bJ rfl rfl (by omega) (by omega)) ?_
    refine aE aA 1 rfl (aD ?_)
    exact⟨k+1,⟨by omega,fun j hj hjk=>by
      by_cases e:j=k
      · subst e; simp_all
      · exact h2 j hj (by omega)⟩,by omega,dN rfl⟩
  ·
   simp only[bs] at hc1
   refine bA (hK2 _ (aC (fun K10 hK10=>(aB (aE aA 1 rfl (aD (hK10 _ (aJ ?_))))))))
   refine⟨_,rfl,?_⟩
   refine dM ?_
   rw[lQ (fun j hj=>h2 j hj (by omega))]
theorem aAj {g:Nat} {cap:List AV} (hent:∀ args w,(callFunc g args).run Tryz.prog w=.ok (.enter g args) w) (hcl:cleanL (fun _=>false) cap=true) (hcv:∀ m,convL m cap=cap) (p:En→Bool) (l:List En) (n:Nat) (hn:n=l.length) (hl:l.length≤9223372036854775807) (hp:∀ x∈l,Den Tryz.prog g (.agg (enC x)::cap) (·=.s (.bool (p x)))) :DenM Tryz.prog 165 [.own E0 4 0 n,.fn g cap] 4 ((l.map enC)) (fun r ys=>r=.own E0 4 0 (l.filter fun x=>!p x).length∧ys=((l.filter fun x=>!p x).map enC)):=by
 subst hn
 have hq0:∀ j,((l.take j).filter fun x=>!p x).length≤j:=fun j=>gT _ l j
 have hq1:∀ j,((l.take j).filter fun x=>!p x).length≤l.length:=fun j=>gG _ l j
 refine gI Tryz.func165 rfl (Nat.le_of_ble_eq_true rfl) (fun w0 x0 A hf=>?_)
 refine aC (fun K1 hK1=>(aB (aF rfl (bE) (aD (hK1 _ (aC (fun K2 hK2=>(aB (aE aA 2 rfl (aK hf rfl (pW rfl rfl (by show [AV.conv _ _,AV.fn g (convL _ cap)]=_; rw[hcv,bV (g:=E0) rfl (by simp)]) tK (pG hent hcl p l hl hp) rfl) ?_))))))))))
 refine aE aA 1 rfl (aD (hK2 _ (aC (fun K3 hK3=>(aC (fun K4 hK4=>(aB (aE aA 2 rfl (aD (hK4 _ (aI rfl (fun hc1=>?_) (fun hc1=>?_))))))))))))
 ·
  simp only[bs] at hc1
  refine aC (fun K5 hK5=>(aB (aE aA 2 rfl (aD (hK5 _ (aJ ?_))))))
  have hno:kZ p l=-1:=by simpa using hc1
  rcases dE p l with ⟨_,hn⟩ | ⟨k,hk,e,_⟩
  · exact⟨_,.own E0 4 0 l.length,(l.map enC),Le.refl _,rfl,rfl,by rw[fL p l hn],by rw[fL p l hn]⟩
  · exfalso; omega
 ·
  simp only[bs] at hc1
  refine aL (hK3 _ (aC (fun K6 hK6=>(aC (fun K7 hK7=>(aB ?_))))))
  rcases dE p l with ⟨e0,_⟩ | ⟨k0,hk0,ek0,hpk0,hbef⟩
  · exact absurd e0 (by simpa using hc1)
  have hst:=kP (fun x=>!p x) l k0 hk0 (fun j hj hjk=>by simp [hbef j hj hjk]) (by simp [hpk0])
  rw[ek0]
  refine aE aA 1 rfl ?_
  refine aF rfl (bJ rfl rfl (by omega) (by omega)) ?_
  refine aE aA 1 rfl (aD (hK7 _ (aO (bS (ι:=Nat) (fun j=>⟨42,[(0,.own E0 4 0 l.length),(1,.fn g cap),(5,.s (.int .i64 (((l.take j).filter fun x=>!p x).length:Nat))),(6,.s (.int .i64 (j:Nat)))],[(E0,.buf 4 ((iY (fun x=>!p x) l j).map enC))]⟩) (fun j=>j≤l.length) (fun j=>l.length - j) (k0+1) ?_ ?_ ?_))))
  · exact hk0
  · rw[hst.1,hst.2]; exact kX ⟨rfl,rfl,rfl,rfl,trivial⟩
  ·
   rintro j hC
   let q:=fun x=>!p x
   have hle:((l.take j).filter q).length≤j:=hq0 j
   have hle2:((l.take j).filter fun x=>!p x).length≤j:=hq0 j
   refine aC (fun K8 hK8=>(aC (fun K9 hK9=>(aB (aE aA 4 rfl (aD (hK9 _ (aI rfl (fun hc2=>?_) (fun hc2=>?_)))))))))
   ·
    simp only[bs] at hc2
    refine aL (hK8 _ (aC (fun K10 hK10=>(aO (aC (fun K11 hK11=>(aB (aE aA 2 rfl ?_))))))))
    refine aF rfl (bX rfl rfl fZ eR (by omega)) ?_
    refine aF rfl (bM rfl aQx eR rfl (pY (c:=4) (k:=j) (enc:=enC) (by omega) (by rw[eF]; omega) rfl) (cs':=enC l[j]) (by rw[nK (c:=4) (k:=j) (enc:=enC) (by omega) (by rw[eF]; omega) rfl,oM q l j j (by omega) hle])) ?_
    refine cH hf rfl oO rfl eR rfl rfl rfl rfl (lf rfl) (aD (hK11 _ (aC (fun K12 hK12=>(aB (aE aA 2 rfl (aK hf rfl (aR rfl rfl hent (by rw[fN,hcl]; rfl) (hp _ (List.getElem_mem _))) ?_)))))))
    refine aE aA 1 rfl (aD (hK12 _ (aI rfl (fun hc3=>?_) (fun hc3=>?_))))
    ·
     simp only[bs] at hc3
     refine aC (fun K13 hK13=>(aB (aE aA 3 rfl ?_)))
     refine aF rfl (bX rfl rfl fZ eR (by omega)) ?_
     refine aP hf rfl rfl eR rfl rfl (by simp [enC,AV.cells,AV.one,Value.oneCell',splice]) (by simp [enC,AV.cells,AV.leaf,Value.oneCell',splice]) (gD (c:=4) (k:=((l.take j).filter fun x=>!p x).length) (enc:=enC) (v:=l[j]) (by omega) (by rw[eF]; omega) rfl (Nat.le_refl _)) ?_
     refine aD (hK13 _ (aB ?_))
     rw[jQ (fun x=>!p x) l j (by omega) (by simp_all)]
     refine aE aA 1 rfl ?_
     refine aF rfl (bJ rfl rfl (by omega) (by omega)) ?_
     rw[lR (fun x=>!p x) l j (by omega) (by simp_all)]
     refine aE aA 1 rfl ?_
     refine bB ?_
     refine hK10 _ (aB (aE aA 1 rfl ?_))
     refine aF rfl (bJ rfl rfl (by omega) (by omega)) ?_
     refine aE aA 1 rfl (aD ?_)
     exact⟨j+1,(by omega),by omega,dN rfl⟩
    ·
     simp only[bs] at hc3
     rw[jR (fun x=>!p x) l j (by omega) (by simp_all),lS (fun x=>!p x) l j (by omega) (by simp_all)]
     refine aL (hK10 _ (aB (aE aA 1 rfl ?_)))
     refine aF rfl (bJ rfl rfl (by omega) (by omega)) ?_
     refine aE aA 1 rfl (aD ?_)
     exact⟨j+1,(by omega),by omega,dN rfl⟩
   ·
    simp only[bs] at hc2
    refine bA (hK6 _ (aC (fun K14 hK14=>(aB (aE aA 2 rfl ?_)))))
    refine aF rfl (eG rfl fZ eR rfl rfl (by omega) (by omega)) ?_
    refine tU hf lZ oO (by simp [Value.oneCell']) rfl rfl ?_
    refine aD (hK14 _ (aC (fun K15 hK15=>(aB (aE aA 2 rfl ?_)))))
    refine aF rfl (eG rfl fZ eR rfl rfl (by omega) (by omega)) ?_
    refine aE aA 1 rfl (aD (hK15 _ (aJ ?_)))
    have hjl:l.length≤j:=by omega
    have he:=mV (fun x=>!p x) l j hjl
    refine⟨_,_,_,Le.refl _,rfl,rfl,?_,?_⟩
    · rw[List.take_of_length_le hjl]; rfl
    · rw[List.take_of_length_le hjl,Nat.zero_add,Int.toNat_natCast,← List.map_take,he]
theorem pH (l:List En) (hl:l.length*48≤140737488355328) :DenO Tryz.prog 97 [.sl 4 (l.map enC)] 4 (·=(l.map enC)):=by
 refine fB Tryz.func97 rfl (Nat.le_of_ble_eq_true rfl) (fun w0 A hf=>?_)
 refine aC (fun K1 hK1=>(aB (aF rfl (bE) (aD (hK1 _ (aC (fun K2 hK2=>(aC (fun K3 hK3=>(aB (aE aA 1 rfl ?_)))))))))))
 refine lE rfl rfl rfl fZ (fun b hb1=>?_)
 refine aD (hK3 _ (aI rfl (fun hc2=>?_) (fun hc2=>?_)))
 ·
  have hl0:l=[]:=by simpa using hb1 (by assumption)
  refine aC (fun K4 hK4=>(aB (jK hf 4 rfl rfl rfl (aD (hK4 _ (aJ ?_))))))
  exact⟨2,[],by decide,rfl,rfl,by rw[hl0]; rfl⟩
 ·
  refine aL (hK2 _ (aC (fun K5 hK5=>(aB (cP hf rfl rfl rfl lZ rfl rfl rfl rfl (l2 rfl) ?_)))))
  refine aE aA 1 rfl (aT hf rfl lZ rfl rfl rfl (.inl rfl) rfl rfl (by first | rfl | simp [cV,bF]) (by first | (simp only[maxLen,List.length_map,List.length_append,List.length_cons,List.length_nil]; omega) | (simp [maxLen] <;> omega)) (by first | (simp only[List.length_map,List.length_append,List.length_cons,List.length_nil]; omega) | (simp <;> omega)) ?_)
  refine aQ (cD [7] rfl) (aE aA 1 rfl (aD (hK5 _ (aJ ?_))))
  refine⟨5,(l.map enC),by decide,rfl,?_,rfl⟩
  show some (AV.own 5 4 0 (0+(l.map enC).length))=_
  rw[Nat.zero_add]
theorem aP9 (n:Nat) (hn:n*48≤140737488355328) :DenO Tryz.prog 230 [.s (.slice none 0 0),.s (.int .i64 (n:Nat))] 4 (·=[]):=by
 refine fB Tryz.func230 rfl (Nat.le_of_ble_eq_true rfl) (fun w0 A hf=>?_)
 refine aC (fun K1 hK1=>(aB (aF rfl (bE) (aD (hK1 _ (aC (fun K2 hK2=>(aC (fun K3 hK3=>(aB (aE aA 2 rfl (aD (hK3 _ (aI rfl (fun hc1=>?_) (fun hc1=>?_)))))))))))))))
 ·
  simp only[bs] at hc1
  omega
 ·
  simp only[bs] at hc1
  refine aL (hK2 _ (aC (fun K4 hK4=>(aC (fun K5 hK5=>(aB (aE aA 2 rfl (aF rfl (lO rfl fZ) (aE aA 2 rfl ?_)))))))))
  refine aF rfl (fE rfl rfl (by omega) (by omega)) ?_
  refine aF rfl (fE rfl rfl (by omega) (by omega)) ?_
  refine aE aA 1 rfl (aD (hK5 _ (aC (fun K6 hK6=>(aB (aE aA 2 rfl (aD (hK6 _ (aI rfl (fun hc2=>?_) (fun hc2=>?_))))))))))
  ·
   simp only[bs] at hc2
   refine aB (aE aA 2 rfl (aF rfl (lO rfl fZ) ?_))
   refine aF rfl (pX rfl fZ eR rfl) ?_
   refine aE aA 1 rfl (tV hf rfl rfl rfl lZ Tryz.underlying3 rfl rfl (by omega) (by omega) (by simp only[maxLen]; omega) ?_)
   refine aE aA 2 rfl ?_
   refine aF rfl (eG rfl fZ eR rfl rfl (by omega) (by omega)) ?_
   refine aE aA 1 rfl (aD (hK4 _ (aC (fun K7 hK7=>(aB (aE aA 1 rfl ?_))))))
   refine aF rfl (sU rfl) ?_
   refine aD (hK7 _ (aJ ?_))
   exact⟨22,[],by decide,rfl,rfl,rfl⟩
  ·
   simp only[bs] at hc2
   refine aL (hK4 _ (aC (fun K8 hK8=>(aB (aE aA 1 rfl ?_)))))
   refine aFk hf 4 rfl rfl rfl rfl ?_
   refine aD (hK8 _ (aJ ?_))
   exact⟨4,[],by decide,rfl,rfl,rfl⟩
theorem yW (rows:List (List En)) (hl:rows.length≤9223372036854775807) (hb:rows.flatten.length*48≤140737488355328) :DenO Tryz.prog 202 [.sl 1 (rows.map fun r=>[AV.sl 4 (r.map enC)])] 4 (·=(rows.flatten.map enC)):=by
 refine fB Tryz.func202 rfl (Nat.le_of_ble_eq_true rfl) (fun w0 A hf=>?_)
 refine aC (fun K1 hK1=>(aB (aF rfl (bE) (aD (hK1 _ (aC (fun K2 hK2=>(aB (aE aA 1 rfl (aD (hK2 _ (aC (fun K3 hK3=>(aC (fun K4 hK4=>(aB ?_))))))))))))))))
 refine aE aA 3 rfl (aD (hK4 _ (aO (bS (ι:=Nat) (fun k=>⟨36,[(0,.sl 1 (rows.map fun r=>[AV.sl 4 (r.map enC)])),(3,.s (.int .i64 ((rows.take k).flatten.length:Nat))),(9,.sl 1 (rows.map fun r=>[AV.sl 4 (r.map enC)])),(10,.s (.int .i64 ((rows.map fun r=>[AV.sl 4 (r.map enC)]).length:Nat))),(11,.s (.int .i64 (k:Nat)))],[]⟩) (fun k=>k≤rows.length) (fun k=>rows.length - k) 0 ?_ ?_ ?_))))
 · exact Nat.zero_le _
 · exact dN rfl
 ·
  rintro k hC
  refine aC (fun K5 hK5=>(aB (aE aA 1 rfl (aD (hK5 _ (aC (fun K6 hK6=>(aI rfl (fun hc1=>?_) (fun hc1=>?_)))))))))
  ·
   simp only[bs] at hc1
   refine aL (hK6 _ (aC (fun K7 hK7=>(aO (aC (fun K8 hK8=>(aB ?_)))))))
   refine aF rfl (aW rfl rfl aFd pR (by first | exact ixm (by omega) | assumption | exact⟨by decide,rfl⟩)) ?_
   refine aE aA 2 rfl (aD (hK8 _ (aC (fun K9 hK9=>(aB ?_)))))
   have hk:k<rows.length:=by omega
   have e1:=congrArg List.length (gY rows k hk)
   rw[List.length_append] at e1
   have e2:=qB rows (k+1)
   have e3:(rows[k].map enC).length=rows[k].length:=List.length_map _
   refine aE aA 3 rfl ?_
   refine aF rfl (bJ rfl rfl (by omega) (by omega)) ?_
   rw[show ((((rows.take k).flatten.length:Nat):Int)+(((rows[k].map enC).length:Nat):Int))=(((rows.take (k+1)).flatten.length:Nat):Int) from by omega]
   refine aE aA 1 rfl (aD (hK9 _ (aC (fun K10 hK10=>(aB (aE aA 2 rfl (aD (hK10 _ (aI rfl (fun hc2=>?_) (fun hc2=>?_))))))))))
   ·
    simp only[bs] at hc2
    omega
   ·
    simp only[bs] at hc2
    refine aL (hK7 _ (aB ?_))
    refine aF rfl (bJ rfl rfl (by omega) (by omega)) ?_
    refine aE aA 1 rfl (aD ?_)
    exact⟨k+1,(by omega),by omega,dN rfl⟩
  ·
   simp only[bs] at hc1
   refine bA (hK3 _ (aC (fun K11 hK11=>(aB ?_))))
   rw[List.take_of_length_le (show rows.length≤k by omega)]
   refine aE aA 1 rfl (gW hf rfl rfl rfl rfl rfl aKc rfl (aP9 rows.flatten.length (by omega)) ?_)
   rintro _ rfl
   refine aE aA 1 rfl (aD (hK11 _ (aC (fun K12 hK12=>(aC (fun K13 hK13=>(aB (aE aA 3 rfl (aD (hK13 _ (aO (bS (ι:=Nat) (fun j=>⟨36,[(6,.own 24 4 0 (rows.take j).flatten.length),(25,.sl 1 (rows.map fun r=>[AV.sl 4 (r.map enC)])),(26,.s (.int .i64 ((rows.map fun r=>[AV.sl 4 (r.map enC)]).length:Nat))),(27,.s (.int .i64 (j:Nat)))],[(24,.buf 4 ((rows.take j).flatten.map enC))]⟩) (fun j=>j≤rows.length) (fun j=>rows.length - j) 0 ?_ ?_ ?_))))))))))))
   · exact Nat.zero_le _
   · exact dN rfl
   ·
    rintro j hC
    refine aC (fun K14 hK14=>(aB (aE aA 1 rfl (aD (hK14 _ (aC (fun K15 hK15=>(aI rfl (fun hc3=>?_) (fun hc3=>?_)))))))))
    ·
     simp only[bs] at hc3
     refine aL (hK15 _ (aC (fun K16 hK16=>(aO (aC (fun K17 hK17=>(aB ?_)))))))
     refine aF rfl (aW rfl rfl aFd pR (by first | exact ixm (by omega) | assumption | exact⟨by decide,rfl⟩)) ?_
     refine aE aA 2 rfl (aD (hK17 _ (aB ?_)))
     have hj:j<rows.length:=by omega
     have e1:=congrArg List.length (gY rows j hj)
     rw[List.length_append] at e1
     have e2:=qB rows (j+1)
     have e3:(rows[j].map enC).length=rows[j].length:=List.length_map _
     refine aE aA 2 rfl (aT hf rfl lZ rfl rfl rfl (.inl rfl) (by simp only[List.length_map]) rfl (by first | rfl | simp [cV,bF]) (by first | (simp only[maxLen,List.length_map,List.length_append,List.length_cons,List.length_nil]; omega) | (simp [maxLen] <;> omega)) (by first | (simp only[List.length_map,List.length_append,List.length_cons,List.length_nil]; omega) | (simp <;> omega)) ?_)
     refine aQ (cD [25,26,27,33] rfl) ?_
     rw[show (rows.take j).flatten.length+(rows[j].map enC).length=(rows.take (j+1)).flatten.length from by omega,← List.map_append,← gY rows j hj]
     refine aE aA 1 rfl ?_
     refine bB ?_
     refine hK16 _ (aB ?_)
     refine aF rfl (bJ rfl rfl (by omega) (by omega)) ?_
     refine aE aA 1 rfl (aD ?_)
     exact⟨j+1,(by omega),by omega,dN rfl⟩
    ·
     simp only[bs] at hc3
     refine bA (hK12 _ (aC (fun K18 hK18=>(aB (aE aA 2 rfl (aD (hK18 _ (aJ ?_))))))))
     refine⟨24,(rows.flatten.map enC),by decide,?_,?_,rfl⟩
     · rw[List.take_of_length_le (show rows.length≤j by omega)]; rfl
     · rw[List.take_of_length_le (show rows.length≤j by omega)]
       show some (AV.own 24 4 0 rows.flatten.length)=_
       rw[List.length_map]
theorem aMw (e:En) (p:Pr) :Den Tryz.prog 231 [.agg (enC e),.adr (prC p)]  (·=.s (.bool (dY p e))):=by
 refine aS Tryz.func231 rfl (Nat.le_of_ble_eq_true rfl) (fun w0 A hf=>(aC (fun K1 hK1=>(aB (aK hf rfl (cL rfl rfl (lf rfl)) (aE aA 1 rfl (aD (hK1 _ (aC (fun K2 hK2=>(aB (aE aA 3 rfl (aF rfl (iR rfl rfl aJ0 rfl) ?_)))))))))))))
 rw[aRj]
 refine aE aA 1 rfl (aY rfl rfl rfl (fun hg1=>?_) (fun hg1=>?_))
 ·
  simp only[bs] at hg1
  refine aF rfl (bZ rfl aGs eS rfl) ?_
  refine aE aA 5 rfl (aD (hK2 _ (aJ ?_)))
  refine⟨_,rfl,?_⟩
  refine aV ?_
  (simp_all[dY]; rfl)
 ·
  simp only[bs] at hg1
  refine aE aA 5 rfl (aD (hK2 _ (aJ ?_)))
  refine⟨_,rfl,?_⟩
  refine aV ?_
  (simp_all[dY]; done)
theorem aE7 (l:List En) (p:Pr) (hl:l.length≤9223372036854775807) :Den Tryz.prog 203 [.sl 4 (l.map enC),.agg (prC p)]  (·=.s (.int .i64 (kZ (dY p) l))):=by
 refine aS Tryz.func203 rfl (Nat.le_of_ble_eq_true rfl) (fun w0 A hf=>(aC (fun K1 hK1=>(aB (aK hf rfl (cL rfl rfl (lf rfl)) (aE aA 1 rfl (aD (hK1 _ (aC (fun K2 hK2=>(aB (aE aA 1 rfl (aF rfl (iJ rfl) (aK hf rfl (aR rfl rfl tK rfl (pG aKb rfl (dY p) l hl (fun x _=>aMw x p))) (aE aA 1 rfl ?_)))))))))))))))
 refine aD (hK2 _ (aJ ?_))
 refine⟨_,rfl,?_⟩
 rfl
theorem aIy (l:List En) (p:Pr) (hl:l.length≤9223372036854775807) :Den Tryz.prog 200 [.sl 4 (l.map enC),.agg (prC p)]  (·=.s (.bool (onB l p))):=by
 refine aS Tryz.func200 rfl (Nat.le_of_ble_eq_true rfl) (fun w0 A hf=>(aC (fun K1 hK1=>(aB (aK hf rfl (cL rfl rfl (lf rfl)) (aE aA 1 rfl (aD (hK1 _ (aC (fun K2 hK2=>(aB (aE aA 2 rfl (aK hf rfl (aR rfl rfl zH rfl (aE7 _ _ (by omega))) (aE aA 2 rfl (aD ?_)))))))))))))))
 refine hK2 _ (aJ ?_)
 refine⟨_,rfl,?_⟩
 refine aV ?_
 exact aCk _ _
theorem aPm (a b:En) :Den Tryz.prog 193 [.agg (enC a),.agg (enC b)]  (·=.s (.int .i64 (mG a b))):=by
 refine aS Tryz.func193 rfl (Nat.le_of_ble_eq_true rfl) (fun w0 A hf=>(aC (fun K1 hK1=>(aB (aK hf rfl (cL rfl rfl (lf rfl)) (aK hf rfl (cL rfl rfl (lf rfl)) (aE aA 1 rfl (aD (hK1 _ (aC (fun K2 hK2=>(eQ hf bN (by kernel_rfl) rfl (bL aA 4 rfl (cA [(6,_),(8,_)] rfl rfl ⟨⟨rfl,rfl⟩,⟨rfl,rfl⟩,trivial⟩ rfl (aR rfl rfl aKe rfl (Nm.pairCmp_den _ _ _ _)) (bL aA 6 rfl ?_)))))))))))))))
 refine cA [(12,_),(15,_)] rfl rfl ⟨⟨rfl,rfl⟩,⟨rfl,rfl⟩,trivial⟩ rfl (aR rfl rfl lL rfl (hZ _ _)) (cA [(9,_),(16,_)] rfl rfl ⟨⟨rfl,rfl⟩,⟨rfl,rfl⟩,trivial⟩ rfl (aN fC rfl rfl rfl rfl (l2 rfl)) (cA [(17,_)] rfl rfl ⟨⟨rfl,rfl⟩,trivial⟩ rfl (aR rfl rfl tL rfl (Nm.or_den [_,_] (by simp))) ?_))
 refine bL aA 1 rfl (gE [4] rfl rfl rfl (hK2 _ (aJ ?_)))
 refine⟨_,rfl,?_⟩
 rfl
theorem aMs (x e:En) :Den Tryz.prog 201 [.agg (enC x),.adr (enC e)]  (·=.s (.bool (decide (0<mG x e)))):=by
 refine aS Tryz.func201 rfl (Nat.le_of_ble_eq_true rfl) (fun w0 A hf=>(aC (fun K1 hK1=>(aB (aK hf rfl (cL rfl rfl (lf rfl)) (aE aA 1 rfl (aD (hK1 _ (aC (fun K2 hK2=>(aB (aE aA 2 rfl (aK hf rfl (aR rfl rfl aKv rfl (aPm _ _)) (aE aA 2 rfl (aD ?_)))))))))))))))
 refine hK2 _ (aJ ?_)
 refine⟨_,rfl,?_⟩
 rfl
theorem aFo (e:En) (u:ByteArray) :Den Tryz.prog 186 [.agg (enC e),.adr [.s (.string u)]]  (·=.s (.bool (mQ u e))):=by
 refine aS Tryz.func186 rfl (Nat.le_of_ble_eq_true rfl) (fun w0 A hf=>(aC (fun K1 hK1=>(aB (aK hf rfl (cL rfl rfl (lf rfl)) (aE aA 1 rfl (aD (hK1 _ (aC (fun K2 hK2=>(aB (aE aA 3 rfl (aK hf rfl (aR rfl rfl aKx rfl (Nm.pairHas_den _ _ _)) (aE aA 1 rfl (aD ?_)))))))))))))))
 refine hK2 _ (aJ ?_)
 refine⟨_,rfl,?_⟩
 rfl
end Go.Proofs.YtijnkglkchhomaaGreat
set_option linter.unusedVariables false
set_option linter.unusedSimpArgs false
namespace Go.Abs
theorem aPy {l:List En} {p:Pr} {t:Int}:(gN l p t).length=l.length+1:=aIw _ _
theorem aHq (p:Pr) (t:Int):∀ l:List En,(jH l p t).length≤l.length
  | []=>Nat.le_refl _
  | e::l=>by
    rw[jH]; split
    · have:(nI e t).length≤1:=by unfold nI; split <;> simp
      simp only[List.length_append,List.length_cons]; omega
    · have:=aHq p t l
      simp only[List.length_cons]; omega
theorem aIm (l:List En) (p:Pr) (t:Int):(if onB l p=true then [] else gN l p t).length≤l.length+1:=by
  split
  · simp
  · rw[aPy]; omega
theorem aIl (l:List En) (p:Pr) (t:Int):(if onB l p=true then jH l p t else []).length≤l.length:=by
  split
  · exact aHq p t l
  · simp
end Go.Abs
set_option linter.unusedVariables false
set_option linter.unusedSimpArgs false
namespace Go.Abs
abbrev Us:=ByteArray×List bP
abbrev Tm:=ByteArray×Int
def usC (x:Us):List AV:=[.s (.string x.1),.sl 4 (x.2.map stC)]
def tmC (x:Tm):List AV:=[.s (.string x.1),.s (.int .i64 x.2)]
structure Sta where
  now:Int
  hor:Int
  opn:List Se
  usr:List Us
  sub:List En
  tmb:List Tm
  deriving DecidableEq
def cU:Sta:=⟨0,0,[],[],[],[]⟩
def bU (s:Sta):List AV:=[.s (.int .i64 s.now),.s (.int .i64 s.hor),.sl 4 (s.opn.map seC),.sl 2 (s.usr.map usC),.sl 4 (s.sub.map enC),.sl 2 (s.tmb.map tmC)]
def eK (s:Sta) (a b:Nat):List AV:=[.s (.int .i64 s.now),.s (.int .i64 s.hor),.sl 4 (s.opn.map seC),.own a 2 0 (s.usr.map usC).length,.sl 4 (s.sub.map enC),.own b 2 0 (s.tmb.map tmC).length]
structure SzS (n:Nat) (s:Sta):Prop where
  o:s.opn.length*40≤n
  u:s.usr.length*40≤n
  b:s.sub.length*48≤n
  t:s.tmb.length*24≤n
  y:∀ x∈s.usr,x.2.length*32≤n
theorem SzS.mono {n m:Nat} {s:Sta} (h:SzS n s) (hm:n≤m):SzS m s:=⟨Nat.le_trans h.o hm,Nat.le_trans h.u hm,Nat.le_trans h.b hm,Nat.le_trans h.t hm,fun x hx=>Nat.le_trans (h.y x hx) hm⟩
section
variable {α:Type} (key:α→ByteArray)
def isK (u:ByteArray) (x:α):Bool:=decide (key x=u)
def loK (u:ByteArray) (x:α):Bool:=decide (eA (key x) u<0)
def hiK (u:ByteArray) (x:α):Bool:=decide (0<eA (key x) u)
def cQ (l:List α):Prop:=l.Pairwise fun a b=>eA (key a) (key b)<0
def vZ (l:List α) (u:ByteArray) (ys:List α):List α:=l.filter (loK key u)++(ys++l.filter (hiK key u))
def dI (l:List α) (u:ByteArray):Nat:=(l.filter (loK key u)).length
def mB (l:List α) (u:ByteArray):Bool:=l.any (isK key u)
end
section
variable {α:Type} {key:α→ByteArray}
theorem mM (u:ByteArray):eA u u=0:=(kQ u u).2 rfl
theorem aE8 (x u:ByteArray):(eA x u<0∧x≠u)∨x=u∨(0<eA x u∧x≠u):=by
  by_cases h:x=u
  · exact .inr (.inl h)
  · have h0:eA x u≠0:=fun e=>h ((kQ x u).1 e)
    by_cases h1:eA x u<0
    · exact .inl ⟨h1,h⟩
    · exact .inr (.inr ⟨by omega,h⟩)
theorem qT {u:ByteArray}:∀ {l:List α},cQ key l→l=l.filter (loK key u)++(l.filter (isK key u)++l.filter (hiK key u))∧(l.filter (isK key u)).length≤1
  | [],_=>⟨rfl,by simp⟩
  | x::l,h=>by
    obtain ⟨h1,h2⟩:=List.pairwise_cons.1 h
    obtain ⟨e1,e2⟩:=qT (u:=u) h2
    rcases aE8 (key x) u with ⟨a,b⟩ | a | ⟨a,b⟩
    · have c1:loK key u x=true:=by simp [loK,a]
      have c2:isK key u x=false:=by simp [isK,b]
      have c3:hiK key u x=false:=by simp only[hiK,decide_eq_false_iff_not]; omega
      simp only[List.filter_cons,c1,c2,c3,if_true,Bool.false_eq_true,if_false,List.cons_append]
      exact⟨by rw[← e1],e2⟩
    · have hlo:l.filter (loK key u)=[]:=List.filter_eq_nil_iff.2 fun y hy=>by
        have:=h1 y hy
        have:=mW (key x) (key y)
        rw[a] at *
        simp only[loK,decide_eq_true_eq]; omega
      have hm:l.filter (isK key u)=[]:=List.filter_eq_nil_iff.2 fun y hy=>by
        have:=h1 y hy
        rw[a] at this
        simp only[isK,decide_eq_true_eq]
        intro e
        rw[e,mM] at this
        omega
      have c1:loK key u x=false:=by simp [loK,a,mM]
      have c2:isK key u x=true:=by simp [isK,a]
      have c3:hiK key u x=false:=by simp [hiK,a,mM]
      simp only[List.filter_cons,c1,c2,c3,if_true,Bool.false_eq_true,if_false,hlo,hm] at e1 ⊢
      exact⟨by simpa using e1,by simp⟩
    · have hlo:l.filter (loK key u)=[]:=List.filter_eq_nil_iff.2 fun y hy=>by
        have:=h1 y hy
        have h3:=mW u (key x)
        have h4:=mW u (key y)
        have:=fV (a:=u) (b:=key x) (c:=key y) (by omega) this
        simp only[loK,decide_eq_true_eq]; omega
      have hm:l.filter (isK key u)=[]:=List.filter_eq_nil_iff.2 fun y hy=>by
        have:=h1 y hy
        have h3:=mW u (key x)
        have h5:=fV (a:=u) (b:=key x) (c:=key y) (by omega) this
        simp only[isK,decide_eq_true_eq]
        intro e
        rw[e,mM] at h5
        omega
      have c1:loK key u x=false:=by simp only[loK,decide_eq_false_iff_not]; omega
      have c2:isK key u x=false:=by simp [isK,b]
      have c3:hiK key u x=true:=by simp [hiK,a]
      simp only[List.filter_cons,c1,c2,c3,if_true,Bool.false_eq_true,if_false,hlo,hm] at e1 ⊢
      exact⟨by simp only[List.nil_append] at e1 ⊢; rw[← e1],by simp⟩
theorem lH {l:List α} (h:cQ key l) (q:α→Bool):cQ key (l.filter q):=h.filter q
theorem uA {l:List α} {u:ByteArray} {ys:List α} (h:cQ key l) (hy:∀ y∈ys,key y=u) (h1:ys.length≤1):cQ key (vZ key l u ys):=by
  have hb:∀ x∈l.filter (loK key u),eA (key x) u<0:=fun x hx=>by have:=(List.mem_filter.1 hx).2; simpa [loK] using this
  have ha:∀ x∈l.filter (hiK key u),eA u (key x)<0:=fun x hx=>by
    have:=(List.mem_filter.1 hx).2
    have h2:=mW u (key x)
    simp only[hiK,decide_eq_true_eq] at this; omega
  refine List.pairwise_append.2 ⟨lH h _,List.pairwise_append.2 ⟨?_,lH h _,fun y hm z hz=>by rw[hy y hm]; exact ha z hz⟩,fun x hx z hz=>?_⟩
  · match ys,h1 with
    | [],_=>exact List.Pairwise.nil
    | [y],_=>exact List.pairwise_singleton _ _
  · rcases List.mem_append.1 hz with hz | hz
    · rw[hy z hz]; exact hb x hx
    · exact fV (hb x hx) (ha z hz)
theorem lB {l:List α} {u:ByteArray} {ys:List α} {x:α}:x∈vZ key l u ys↔(x∈l∧key x≠u)∨x∈ys:=by
  simp only[vZ,List.mem_append,List.mem_filter,loK,hiK,decide_eq_true_eq]
  constructor
  · rintro (⟨h,h1⟩ | h | ⟨h,h1⟩)
    · exact .inl ⟨h,fun e=>by rw[e,mM] at h1; omega⟩
    · exact .inr h
    · exact .inl ⟨h,fun e=>by rw[e,mM] at h1; omega⟩
  · rintro (⟨h,h1⟩ | h)
    · rcases aE8 (key x) u with ⟨a,_⟩ | a | ⟨a,_⟩
      · exact .inl ⟨h,a⟩
      · exact absurd a h1
      · exact .inr (.inr ⟨h,a⟩)
    · exact .inr (.inl h)
theorem rR:∀ {a b:List α},cQ key a→cQ key b→(∀ x,x∈a↔x∈b)→a=b
  | [],[],_,_,_=>rfl
  | [],y::b,_,_,h=>absurd ((h y).2 (by simp)) (by simp)
  | x::a,[],_,_,h=>absurd ((h x).1 (by simp)) (by simp)
  | x::a,y::b,ha,hb,h=>by
    obtain ⟨a1,a2⟩:=List.pairwise_cons.1 ha
    obtain ⟨b1,b2⟩:=List.pairwise_cons.1 hb
    have irr:∀ z:α,¬ eA (key z) (key z)<0:=fun z=>by rw[mM]; omega
    have hxy:x=y:=by
      rcases List.mem_cons.1 ((h x).1 (by simp)) with e | e
      · exact e
      · rcases List.mem_cons.1 ((h y).2 (by simp)) with e' | e'
        · exact e'.symm
        · exact absurd (fV (b1 x e) (a1 y e')) (irr y)
    subst hxy
    rw[rR a2 b2 fun z=>?_]
    have:=h z
    simp only[List.mem_cons] at this
    constructor
    · intro hz
      rcases this.1 (.inr hz) with e | e
      · subst e; exact absurd (a1 z hz) (irr z)
      · exact e
    · intro hz
      rcases this.2 (.inr hz) with e | e
      · subst e; exact absurd (b1 z hz) (irr z)
      · exact e
theorem wJ (l:List α) (u:ByteArray):dI key l u≤l.length:=List.length_filter_le _ _
theorem oY {l:List α} (h:cQ key l) (u:ByteArray):l.take (dI key l u)=l.filter (loK key u)∧l.drop (dI key l u)=l.filter (isK key u)++l.filter (hiK key u):=by
  have e:=(qT (u:=u) h).1
  constructor
  · have:l.take (dI key l u)=(l.filter (loK key u)++(l.filter (isK key u)++l.filter (hiK key u))).take (l.filter (loK key u)).length:=by rw[← e]; rfl
    rw[this,List.take_left]
  · have:l.drop (dI key l u)=(l.filter (loK key u)++(l.filter (isK key u)++l.filter (hiK key u))).drop (l.filter (loK key u)).length:=by rw[← e]; rfl
    rw[this,List.drop_left]
theorem aMq {l:List α} {u:ByteArray} (h:mB key l u=false):l.filter (isK key u)=[]:=by
  rw[mB,List.any_eq_false] at h
  exact List.filter_eq_nil_iff.2 h
theorem aMr {l:List α} (h:cQ key l) {u:ByteArray} (hh:mB key l u=true):∃ hk:dI key l u<l.length,key (l[dI key l u])=u∧l.filter (isK key u)=[l[dI key l u]]:=by
  obtain ⟨x,hx,hxu⟩:=List.any_eq_true.1 hh
  have h1:x∈l.filter (isK key u):=List.mem_filter.2 ⟨hx,hxu⟩
  obtain ⟨e1,e2⟩:=qT (u:=u) h
  have e3:l.filter (isK key u)=[x]:=by
    match hl:l.filter (isK key u),h1,e2 with
    | [],h1,_=>cases h1
    | [y],h1,_=>rw[List.mem_singleton.1 h1]
    | y::z::r,_,e2=>simp at e2
  have hd:=(oY h u).2
  rw[e3] at hd
  have hlt:dI key l u<l.length:=by
    have:=congrArg List.length hd
    simp only[List.length_drop,List.length_append,List.length_cons,List.length_nil] at this
    omega
  have hg:l[dI key l u]=x:=by
    have:=congrArg (fun r=>r[0]?) hd
    simp only[List.getElem?_drop,Nat.add_zero,List.cons_append,List.getElem?_cons_zero] at this
    rw[List.getElem?_eq_getElem hlt] at this
    exact Option.some.inj this
  refine⟨hlt,?_,?_⟩
  · rw[hg]; simpa [isK] using hxu
  · rw[e3,hg]
theorem aH3 {l:List α} (h:cQ key l) {u:ByteArray} (hh:mB key l u=true):l.drop (dI key l u+1)=l.filter (hiK key u):=by
  obtain ⟨hk,_,e⟩:=aMr h hh
  have hd:=(oY h u).2
  rw[e] at hd
  rw[← List.drop_drop,hd]; rfl
theorem aFq {l:List α} (h:cQ key l) {u:ByteArray} (hh:mB key l u=true) (y:α):l.set (dI key l u) y=vZ key l u [y]:=by
  obtain ⟨hk,_,_⟩:=aMr h hh
  rw[List.set_eq_take_append_cons_drop,if_pos hk,(oY h u).1,aH3 h hh]; rfl
theorem aOf {l:List α} (h:cQ key l) {u:ByteArray} (hh:mB key l u=false) (y:α):l.take (dI key l u)++y::l.drop (dI key l u)=vZ key l u [y]:=by
  rw[(oY h u).1,(oY h u).2,aMq hh]; rfl
theorem aBl {l:List α} (h:cQ key l) (u:ByteArray):l.filter (fun x=>!isK key u x)=vZ key l u []:=by
  refine rR (key:=key) (lH h _) (uA h (by simp) (by simp)) fun x=>?_
  rw[lB,List.mem_filter]
  simp [isK]
theorem has_set {l:List α} {u v:ByteArray} {ys:List α} (hy:∀ y∈ys,key y=u):mB key (vZ key l u ys) v=if v=u then !ys.isEmpty else mB key l v:=by
  rw[Bool.eq_iff_iff]
  simp only[mB,List.any_eq_true,lB,isK,decide_eq_true_eq]
  by_cases hv:v=u
  · subst hv
    rw[if_pos rfl]
    constructor
    · rintro ⟨x,⟨_,h⟩ | h,e⟩
      · exact absurd e h
      · cases ys with
        | nil=>cases h
        | cons y r=>rfl
    · intro h
      cases ys with
      | nil=>cases h
      | cons y r=>exact⟨y,.inr (by simp),hy y (by simp)⟩
  · rw[if_neg hv,List.any_eq_true]
    constructor
    · rintro ⟨x,⟨h,_⟩ | h,e⟩
      · exact⟨x,h,by simp [isK,e]⟩
      · exact absurd ((hy x h).symm.trans e).symm hv
    · rintro ⟨x,h,e⟩
      have e':key x=v:=by simpa [isK] using e
      exact⟨x,.inl ⟨h,by rw[e']; exact hv⟩,e'⟩
end
abbrev cR:Us→ByteArray:=Prod.fst
abbrev dZ:Tm→ByteArray:=Prod.fst
def ofU (l:List Us) (u:ByteArray):List bP:=((l.find? (isK cR u)).map Prod.snd).getD []
def sH (u:ByteArray) (ys:List bP):List Us:=if ys=[] then [] else [(u,ys)]
def nW (l:List Us) (u:ByteArray) (ys:List bP):List Us:=vZ cR l u (sH u ys)
theorem aBr {u:ByteArray} {ys:List bP}:∀ y∈sH u ys,cR y=u:=by
  intro y hy; unfold sH at hy; split at hy
  · cases hy
  · rw[List.mem_singleton.1 hy]
theorem aHk {u:ByteArray} {ys:List bP}:(sH u ys).length≤1:=by unfold sH; split <;> simp
theorem sM {l:List Us} {u:ByteArray} {ys:List bP} (h:cQ cR l):cQ cR (nW l u ys):=uA h aBr aHk
theorem rA {l:List Us} {u:ByteArray} (h:mB cR l u=false):ofU l u=[]:=by
  rw[mB,List.any_eq_false] at h
  rw[ofU,List.find?_eq_none.2 h]; rfl
theorem aOn {l:List Us} (h:cQ cR l) {x:Us} (hx:x∈l):ofU l x.1=x.2:=by
  have:l.find? (isK cR x.1)=some x:=by
    have hs:(l.find? (isK cR x.1)).isSome=true:=List.find?_isSome.2 ⟨x,hx,by simp [isK]⟩
    obtain ⟨y,hy⟩:=Option.isSome_iff_exists.1 hs
    have h1:=List.mem_of_find?_eq_some hy
    have h2:=List.find?_some hy
    simp only[isK,decide_eq_true_eq] at h2
    rw[hy]
    have e:=(qT (u:=x.1) h).2
    have m1:x∈l.filter (isK cR x.1):=List.mem_filter.2 ⟨hx,by simp [isK]⟩
    have m2:y∈l.filter (isK cR x.1):=List.mem_filter.2 ⟨h1,by simp [isK,h2]⟩
    match hl:l.filter (isK cR x.1),m1,m2,e with
    | [z],m1,m2,_=>rw[List.mem_singleton.1 m1,List.mem_singleton.1 m2]
    | z::z'::r,_,_,e=>simp at e
  rw[ofU,this]; rfl
theorem aB9 {l:List Us} (h:cQ cR l) {u:ByteArray} (hh:mB cR l u=true):∃ hk:dI cR l u<l.length,l[dI cR l u]=(u,ofU l u):=by
  obtain ⟨hk,e,_⟩:=aMr h hh
  have:=aOn h (List.getElem_mem hk)
  have e':l[dI cR l u].1=u:=e
  rw[e'] at this
  exact⟨hk,Prod.ext e' this.symm⟩
theorem setU_of {l:List Us} (h:cQ cR l) {u v:ByteArray} {ys:List bP}:ofU (nW l u ys) v=if v=u then ys else ofU l v:=by
  by_cases hh:mB cR (nW l u ys) v=true
  · obtain ⟨hk,e⟩:=aB9 (sM h) hh
    have hm:=List.getElem_mem hk
    rw[e,nW,lB] at hm
    by_cases hv:v=u
    · subst hv
      rw[if_pos rfl]
      rcases hm with ⟨_,h2⟩ | hm
      · exact absurd rfl h2
      · unfold sH at hm
        split at hm
        · cases hm
        · have:=(Prod.ext_iff.1 (List.mem_singleton.1 hm)).2
          simpa [nW,sH, *] using this
    · rw[if_neg hv]
      rcases hm with ⟨h1,_⟩ | hm
      · exact(aOn h h1).symm
      · exact absurd (aBr _ hm) hv
  · have hf:=Bool.eq_false_iff.2 hh
    rw[rA hf]
    rw[nW,has_set aBr] at hf
    by_cases hv:v=u
    · rw[if_pos hv] at hf ⊢
      unfold sH at hf
      split at hf
      · rename_i e; exact e.symm
      · simp at hf
    · rw[if_neg hv] at hf ⊢
      exact(rA hf).symm
def mO (l:List Us) (u:ByteArray) (x:bP):List Us:=if x.1.2≤x.1.1 then l else nW l u (iC (ofU l u) x)
def pT (l:List Tm) (u:ByteArray) (t:Int):List Tm:=vZ dZ l u [(u,t)]
def qJ (s:Sta) (x:bP):Bool:=!(s.opn.any fun e=>decide (e.1.1=x.2.1)&&decide (e.2.2<x.1.2))&&(decide (0≤x.1.1)&&(decide (x.1.2≤s.now)&&(decide (1≤x.2.1)&&(decide (x.2.1≤999)&&(decide (1≤x.2.2)&&decide (x.2.2≤4))))))
def aPp (s:Sta) (x:Us):Bool:=!x.2.isEmpty&&(aDq x.2&&x.2.all (qJ s))
def aEx (s:Sta) (e:En):Bool:=decide (0≤e.2.1)&&(decide (e.2.1≤s.now)&&(decide (e.2.2≤s.now)||decide (e.2.2=1099511627776)))
def okTm (s:Sta) (x:Tm):Bool:=decide (0≤x.2)&&decide (x.2≤s.now)
def nxK {α:Type} (key:α→ByteArray) (a b:α):Bool:=decide (eA (key a) (key b)<0)
def risN {α:Type} (key:α→ByteArray) (l:List α):Bool:=aDr (fun x=>dD (key x)) (nxK key) none l
def aHo (s:Sta):Bool:=decide (0≤s.now)&&(decide (s.now<1099511627776)&&(decide (0≤s.hor)&&(decide (s.hor<1099511627776)&&(uP s.opn&&(s.opn.all (fun e=>decide (e.2.2≤s.now))&&(risN cR s.usr&&(s.usr.all (aPp s)&&(aFs s.sub&&(s.sub.all (aEx s)&&(risN dZ s.tmb&&s.tmb.all (okTm s)))))))))))
theorem aRe {α:Type} {key:α→ByteArray} (l:List α):risN key l=true↔(∀ x∈l,dD (key x)=true)∧cQ key l:=by
  rw[risN,qU (fun a b=>eA (key a) (key b)<0) (fun x y=>by simp [nxK]) (fun x y z _ h1 h2=>fV h1 h2)]
  simp [cQ]
structure RightP (s:Sta):Prop where
  n0:0≤s.now
  n1:s.now<1099511627776
  h0:0≤s.hor
  h1:s.hor<1099511627776
  opn:uP s.opn=true
  late:∀ e∈s.opn,e.2.2≤s.now
  unm:∀ x∈s.usr,dD x.1=true
  usr:cQ cR s.usr
  uok:∀ x∈s.usr,aPp s x=true
  sub:aFs s.sub=true
  sok:∀ e∈s.sub,aEx s e=true
  tnm:∀ x∈s.tmb,dD x.1=true
  tmb:cQ dZ s.tmb
  tok:∀ x∈s.tmb,okTm s x=true
theorem aEs {s:Sta}:aHo s=true↔RightP s:=by
  simp only[aHo,Bool.and_eq_true,decide_eq_true_eq,List.all_eq_true,aRe]
  constructor
  · rintro ⟨a,b,c,d,e,f,⟨g,g'⟩,h,i,j,⟨k,k'⟩,l⟩
    exact⟨a,b,c,d,e,f,g,g',h,i,j,k,k',l⟩
  · rintro ⟨a,b,c,d,e,f,g,g',h,i,j,k,k',l⟩
    exact⟨a,b,c,d,e,f,⟨g,g'⟩,h,i,j,⟨k,k'⟩,l⟩
structure Ev where
  kind:Int
  at':Int
  user:ByteArray
  other:ByteArray
  n:Int
  st:Int
  deriving DecidableEq
def evC (e:Ev):List AV:=[.s (.int .i64 e.kind),.s (.int .i64 e.at'),.s (.string e.user),.s (.string e.other),.s (.int .i64 e.n),.s (.int .i64 e.st)]
abbrev bs0:ByteArray:=⟨#[]⟩
def dV (e:Ev):Bool:=decide (1≤e.n)&&(decide (e.n≤999)&&(dD e.user&&decide (e.other=bs0)))
def bH (e:Ev):Bool:=decide (0≤e.at')&&(decide (e.at'<1099511627776)&&(
  if e.kind=1∨e.kind=2 then dV e&&(decide (1≤e.st)&&decide (e.st≤4))
  else if e.kind=3 then dV e&&decide (e.st=0)
  else if e.kind=4∨e.kind=5 then dD e.user&&(dD e.other&&(decide (e.n=0)&&decide (e.st=0)))
  else if e.kind=6 then decide (e.user=bs0)&&(decide (e.other=bs0)&&(decide (e.st=0)&&(decide (0≤e.n)&&decide (e.n<1099511627776))))
  else if e.kind=7 then dD e.user&&(decide (e.other=bs0)&&(decide (e.n=0)&&decide (e.st=0)))
  else false))
def gH (s:Sta) (u:ByteArray) (t:Int):Sta:=⟨s.now,s.hor,s.opn.filter (fun e=>!qM u e),nW s.usr u [],s.sub.filter (fun e=>!mQ u e),pT s.tmb u t⟩
def bG (s:Sta) (e:Ev):Sta×Int :=
  if e.kind=1 then ({ s with opn:=lG s.opn ((e.n,e.user),(e.st,e.at')) },nZ s.opn ((e.n,e.user),(e.st,e.at')))
  else if e.kind=2 then ({ s with opn:=mD s.opn e.n e.user e.st e.at',usr:=mO s.usr e.user (stR s.opn e.n e.user e.at') },fM s.opn e.n e.user)
  else if e.kind=3 then ({ s with opn:=mC s.opn e.n e.user,usr:=mO s.usr e.user (stR s.opn e.n e.user e.at') },fM s.opn e.n e.user)
  else if e.kind=4 then ({ s with sub:=if onB s.sub (e.user,e.other)=true then [] else gN s.sub (e.user,e.other) e.at' },if onB s.sub (e.user,e.other)=true then 90 else 0)
  else if e.kind=5 then ({ s with sub:=if onB s.sub (e.user,e.other)=true then jH s.sub (e.user,e.other) e.at' else [] },if onB s.sub (e.user,e.other)=true then 0 else 91)
  else if e.kind=6 then ({ s with hor:=max s.hor e.n },0)
  else (gH s e.user e.at',0)
def bI (s:Sta) (e:Ev):Sta×Int :=
  if bH e=true then (if e.at'<s.now then (cU,111) else (if (bG s e).2=0 then ({ (bG s e).1 with now:=e.at' },0) else (cU,(bG s e).2))) else (cU,110)
def aHc (s:Sta) (u:ByteArray) (t:Int):List bP:=(gQ s.opn u t).foldl iC (ofU s.usr u)
section
variable {α:Type} {key:α→ByteArray}
def BsI (l:List α) (key:α→ByteArray) (u:ByteArray) (i j:Nat):Prop:=i≤j∧j≤l.length∧(∀ (q:Nat) (hq:q<l.length),q<i→eA (key l[q]) u<0)∧(∀ (q:Nat) (hq:q<l.length),j≤q→¬ eA (key l[q]) u<0)
theorem BsI.start (l:List α) (u:ByteArray):BsI l key u 0 l.length:=⟨Nat.zero_le _,Nat.le_refl _,fun _ _ h=>absurd h (Nat.not_lt_zero _),fun q hq h=>absurd hq (by omega)⟩
theorem BsI.lo {l:List α} {u:ByteArray} {i j m:Nat} (h:BsI l key u i j) (hr:cQ key l) (h1:i≤m) (h2:m<j) (hm:m<l.length) (hc:eA (key l[m]) u<0):BsI l key u (m+1) j:=by
  refine⟨h2,h.2.1,fun q hq hqm=>?_,h.2.2.2⟩
  by_cases e:q=m
  · subst e; exact hc
  · exact fV (List.pairwise_iff_getElem.1 hr q m hq hm (by omega)) hc
theorem BsI.hi {l:List α} {u:ByteArray} {i j m:Nat} (h:BsI l key u i j) (hr:cQ key l) (h1:i≤m) (h2:m<j) (hm:m<l.length) (hc:¬ eA (key l[m]) u<0):BsI l key u i m:=by
  refine⟨h1,by have:=h.2.1; omega,h.2.2.1,fun q hq hqm=>?_⟩
  by_cases e:q=m
  · subst e; exact hc
  · have h3:=List.pairwise_iff_getElem.1 hr m q hm hq (by omega)
    intro h4
    exact hc (fV h3 h4)
theorem BsI.fin {l:List α} {u:ByteArray} {i j:Nat} (h:BsI l key u i j) (hr:cQ key l) (hij:j≤i):dI key l u=i∧mB key l u=(decide (i<l.length)&&decide (∃ hi:i<l.length,eA (key l[i]) u=0)):=by
  have e:i=j:=by have:=h.1; omega
  subst e
  obtain ⟨_,h1,h2,h3⟩:=h
  have hp:l.filter (loK key u)=l.take i:=by
    conv=>lhs; rw[← List.take_append_drop i l]
    rw[List.filter_append]
    have a:(l.take i).filter (loK key u)=l.take i:=List.filter_eq_self.2 fun x hx=>by
      obtain ⟨q,hq,rfl⟩:=List.getElem_of_mem hx
      rw[List.length_take] at hq
      rw[List.getElem_take]
      simp only[loK,decide_eq_true_eq]
      exact h2 q (by omega) (by omega)
    have b:(l.drop i).filter (loK key u)=[]:=List.filter_eq_nil_iff.2 fun x hx=>by
      obtain ⟨q,hq,rfl⟩:=List.getElem_of_mem hx
      rw[List.length_drop] at hq
      rw[List.getElem_drop]
      simp only[loK,decide_eq_true_eq]
      exact h3 (i+q) (by omega) (by omega)
    rw[a,b,List.append_nil]
  refine⟨by rw[dI,hp,List.length_take]; omega,?_⟩
  rw[Bool.eq_iff_iff]
  simp only[mB,List.any_eq_true,isK,decide_eq_true_eq,Bool.and_eq_true]
  constructor
  · rintro ⟨x,hx,e⟩
    obtain ⟨q,hq,rfl⟩:=List.getElem_of_mem hx
    have hc:eA (key l[q]) u=0:=(kQ _ _).2 e
    have hqi:i≤q:=by
      rcases Nat.lt_or_ge q i with h | h
      · have:=h2 q hq h; omega
      · exact h
    have hil:i<l.length:=by omega
    refine⟨hil,hil,?_⟩
    by_cases e2:q=i
    · subst e2; exact hc
    · exfalso
      have h4:=List.pairwise_iff_getElem.1 hr i q hil hq (by omega)
      have h5:=h3 i hil (Nat.le_refl _)
      have h6:=uQ h4 (show eA (key l[q]) u≤0 by omega)
      exact h5 h6
  · rintro ⟨_,hi,e⟩
    exact⟨l[i],List.getElem_mem _,(kQ _ _).1 e⟩
theorem BsI.fin_t {l:List α} {u:ByteArray} {i j:Nat} (h:BsI l key u i j) (hr:cQ key l) (hij:j≤i) (hi:i<l.length):mB key l u=(eA (key l[i]) u == 0):=by
  rw[(h.fin hr hij).2,Bool.eq_iff_iff]
  simp only[Bool.and_eq_true,decide_eq_true_eq,beq_iff_eq]
  exact⟨fun⟨_,_,e⟩=>e,fun e=>⟨hi,hi,e⟩⟩
theorem BsI.fin_f {l:List α} {u:ByteArray} {i j:Nat} (h:BsI l key u i j) (hr:cQ key l) (hij:j≤i) (hi:¬ i<l.length):mB key l u=false:=by
  rw[(h.fin hr hij).2]
  simp [hi]
end
def dQ (s:Sta) (u:ByteArray) (x:bP):Sta:={ s with usr:=mO s.usr u x }
theorem iB {s:Sta} {u:ByteArray} {x:bP} (h:x.1.2≤x.1.1):dQ s u x=s:=by rw[dQ,mO,if_pos h]
theorem aOz {l:List bP} {x:bP} (h:¬ x.1.2≤x.1.1):iC l x≠[]:=fun e=>by
  have h1:=aCh l x
  rw[iC,if_neg h] at e
  rw[e] at h1; simp at h1
theorem aOy {l:List Us} {u:ByteArray} {x:bP} (hr:cQ cR l) (hh:mB cR l u=true) (h:¬ x.1.2≤x.1.1) (hk:dI cR l u<l.length):l.set (dI cR l u) (l[dI cR l u].1,iC l[dI cR l u].2 x)=mO l u x:=by
  obtain ⟨_,e⟩:=aB9 hr hh
  rw[e,mO,if_neg h,nW,sH,if_neg (aOz h),aFq hr hh]
theorem aSt {x:bP} (h:¬ x.1.2≤x.1.1):iC [] x=[x]:=by
  rw[iC,if_neg h]
  have h1:=gZ x []
  exact List.perm_singleton.1 h1
theorem aSq {l:List Us} {u:ByteArray} {x:bP} (hr:cQ cR l) (hh:mB cR l u=false) (h:¬ x.1.2≤x.1.1):List.flatten [l.take (dI cR l u),[(u,[x])],l.drop (dI cR l u)]=mO l u x:=by
  rw[mO,if_neg h,nW,sH,if_neg (aOz h),rA hh,aSt h,← aOf hr hh]
  simp
end Go.Abs
set_option linter.unusedVariables false
set_option linter.unusedSimpArgs false
namespace Go.Proofs.YtijnkglkchhomaaGreat
open Go Go.Abs
theorem aBa {g:Nat} {cap:List AV} (hent:∀ args w,(callFunc g args).run Tryz.prog w=.ok (.enter g args) w) (hcl:cleanL (fun _=>false) cap=true) (p:Tm→Bool) (l:List Tm) (hl:l.length≤9223372036854775807) (hp:∀ x∈l,Den Tryz.prog g (.agg (tmC x)::cap) (·=.s (.bool (p x)))) :Den Tryz.prog 195 [.sl 2 (l.map tmC),.fn g cap]  (·=.s (.int .i64 (kZ p l))):=by
 refine aS Tryz.func195 rfl (Nat.le_of_ble_eq_true rfl) (fun w0 A hf=>(aC (fun K1 hK1=>(aB (aE aA 1 rfl (aD (hK1 _ (aC (fun K2 hK2=>(aC (fun K3 hK3=>(aB (aE aA 3 rfl (aD (hK3 _ (aO ?_))))))))))))))))
 refine bS (ι:=Nat) (fun k=>⟨19,[(0,.sl 2 (l.map tmC)),(1,.fn g cap),(7,.s (.int .i64 ((l.map tmC).length:Nat))),(8,.s (.int .i64 (k:Nat)))],[]⟩) (fun k=>k≤l.length∧∀ (j:Nat) (hj:j<l.length),j<k→p l[j]=false) (fun k=>l.length - k) 0 ?_ ?_ ?_
 · exact⟨by omega,by omega⟩
 · exact dN rfl
 ·
  rintro k hC
  obtain ⟨h1,h2⟩:=hC
  refine aC (fun K4 hK4=>(aB (aE aA 1 rfl (aD (hK4 _ (aC (fun K5 hK5=>(aI rfl (fun hc1=>?_) (fun hc1=>?_)))))))))
  ·
   simp only[bs] at hc1
   refine aL (hK5 _ (aC (fun K6 hK6=>(aO (aC (fun K7 hK7=>(aB (aE aA 2 rfl (aD (hK7 _ (aC (fun K8 hK8=>(aB (aE aA 3 rfl ?_))))))))))))))
   refine aF rfl (aW rfl rfl kI gP (by first | exact ixm (by omega) | assumption | exact⟨by decide,rfl⟩)) ?_
   refine aE aA 1 rfl (aK hf rfl (aR rfl rfl hent (by rw[fN,hcl]; rfl) (hp _ (List.getElem_mem _))) ?_)
   refine aD (hK8 _ (aI rfl (fun hc2=>?_) (fun hc2=>?_)))
   ·
    refine aC (fun K9 hK9=>(aB (aE aA 2 rfl (aD (hK9 _ (aJ ?_))))))
    refine⟨_,rfl,?_⟩
    refine dM ?_
    rw[iK (by omega) h2 (by assumption)]
   ·
    refine aL (hK6 _ (aB ?_))
    refine aF rfl (bJ rfl rfl (by omega) (by omega)) ?_
    refine aE aA 1 rfl (aD ?_)
    exact⟨k+1,⟨by omega,fun j hj hjk=>by
      by_cases e:j=k
      · subst e; simp_all
      · exact h2 j hj (by omega)⟩,by omega,dN rfl⟩
  ·
   simp only[bs] at hc1
   refine bA (hK2 _ (aC (fun K10 hK10=>(aB (aE aA 1 rfl (aD (hK10 _ (aJ ?_))))))))
   refine⟨_,rfl,?_⟩
   refine dM ?_
   rw[lQ (fun j hj=>h2 j hj (by omega))]
theorem zY {g:Nat} {cap:List AV} (hent:∀ args w,(callFunc g args).run Tryz.prog w=.ok (.enter g args) w) (hcl:cleanL (fun _=>false) cap=true) (hcv:∀ m,convL m cap=cap) (p:Tm→Bool) (l:List Tm) (n:Nat) (hn:n=l.length) (hl:l.length≤9223372036854775807) (hp:∀ x∈l,Den Tryz.prog g (.agg (tmC x)::cap) (·=.s (.bool (p x)))) :DenM Tryz.prog 207 [.own E0 2 0 n,.fn g cap] 2 ((l.map tmC)) (fun r ys=>r=.own E0 2 0 (l.filter fun x=>!p x).length∧ys=((l.filter fun x=>!p x).map tmC)):=by
 subst hn
 have hq0:∀ j,((l.take j).filter fun x=>!p x).length≤j:=fun j=>gT _ l j
 have hq1:∀ j,((l.take j).filter fun x=>!p x).length≤l.length:=fun j=>gG _ l j
 refine gI Tryz.func207 rfl (Nat.le_of_ble_eq_true rfl) (fun w0 x0 A hf=>?_)
 refine aC (fun K1 hK1=>(aB (aF rfl (bE) (aD (hK1 _ (aC (fun K2 hK2=>(aB (aE aA 2 rfl (aK hf rfl (pW rfl rfl (by show [AV.conv _ _,AV.fn g (convL _ cap)]=_; rw[hcv,bV (g:=E0) rfl (by simp)]) aKu (aBa hent hcl p l hl hp) rfl) ?_))))))))))
 refine aE aA 1 rfl (aD (hK2 _ (aC (fun K3 hK3=>(aC (fun K4 hK4=>(aB (aE aA 2 rfl (aD (hK4 _ (aI rfl (fun hc1=>?_) (fun hc1=>?_))))))))))))
 ·
  simp only[bs] at hc1
  refine aC (fun K5 hK5=>(aB (aE aA 2 rfl (aD (hK5 _ (aJ ?_))))))
  have hno:kZ p l=-1:=by simpa using hc1
  rcases dE p l with ⟨_,hn⟩ | ⟨k,hk,e,_⟩
  · exact⟨_,.own E0 2 0 l.length,(l.map tmC),Le.refl _,rfl,rfl,by rw[fL p l hn],by rw[fL p l hn]⟩
  · exfalso; omega
 ·
  simp only[bs] at hc1
  refine aL (hK3 _ (aC (fun K6 hK6=>(aC (fun K7 hK7=>(aB ?_))))))
  rcases dE p l with ⟨e0,_⟩ | ⟨k0,hk0,ek0,hpk0,hbef⟩
  · exact absurd e0 (by simpa using hc1)
  have hst:=kP (fun x=>!p x) l k0 hk0 (fun j hj hjk=>by simp [hbef j hj hjk]) (by simp [hpk0])
  rw[ek0]
  refine aE aA 1 rfl ?_
  refine aF rfl (bJ rfl rfl (by omega) (by omega)) ?_
  refine aE aA 1 rfl (aD (hK7 _ (aO (bS (ι:=Nat) (fun j=>⟨42,[(0,.own E0 2 0 l.length),(1,.fn g cap),(5,.s (.int .i64 (((l.take j).filter fun x=>!p x).length:Nat))),(6,.s (.int .i64 (j:Nat)))],[(E0,.buf 2 ((iY (fun x=>!p x) l j).map tmC))]⟩) (fun j=>j≤l.length) (fun j=>l.length - j) (k0+1) ?_ ?_ ?_))))
  · exact hk0
  · rw[hst.1,hst.2]; exact kX ⟨rfl,rfl,rfl,rfl,trivial⟩
  ·
   rintro j hC
   let q:=fun x=>!p x
   have hle:((l.take j).filter q).length≤j:=hq0 j
   have hle2:((l.take j).filter fun x=>!p x).length≤j:=hq0 j
   refine aC (fun K8 hK8=>(aC (fun K9 hK9=>(aB (aE aA 4 rfl (aD (hK9 _ (aI rfl (fun hc2=>?_) (fun hc2=>?_)))))))))
   ·
    simp only[bs] at hc2
    refine aL (hK8 _ (aC (fun K10 hK10=>(aO (aC (fun K11 hK11=>(aB (aE aA 2 rfl ?_))))))))
    refine aF rfl (bX rfl rfl kI gP (by omega)) ?_
    refine aF rfl (bM rfl aQy gP rfl (pY (c:=2) (k:=j) (enc:=tmC) (by omega) (by rw[eF]; omega) rfl) (cs':=tmC l[j]) (by rw[nK (c:=2) (k:=j) (enc:=tmC) (by omega) (by rw[eF]; omega) rfl,oM q l j j (by omega) hle])) ?_
    refine cH hf rfl yG rfl gP rfl rfl rfl rfl (lf rfl) (aD (hK11 _ (aC (fun K12 hK12=>(aB (aE aA 2 rfl (aK hf rfl (aR rfl rfl hent (by rw[fN,hcl]; rfl) (hp _ (List.getElem_mem _))) ?_)))))))
    refine aE aA 1 rfl (aD (hK12 _ (aI rfl (fun hc3=>?_) (fun hc3=>?_))))
    ·
     simp only[bs] at hc3
     refine aC (fun K13 hK13=>(aB (aE aA 3 rfl ?_)))
     refine aF rfl (bX rfl rfl kI gP (by omega)) ?_
     refine aP hf rfl rfl gP rfl rfl (by simp [tmC,AV.cells,AV.one,Value.oneCell',splice]) (by simp [tmC,AV.cells,AV.leaf,Value.oneCell',splice]) (gD (c:=2) (k:=((l.take j).filter fun x=>!p x).length) (enc:=tmC) (v:=l[j]) (by omega) (by rw[eF]; omega) rfl (Nat.le_refl _)) ?_
     refine aD (hK13 _ (aB ?_))
     rw[jQ (fun x=>!p x) l j (by omega) (by simp_all)]
     refine aE aA 1 rfl ?_
     refine aF rfl (bJ rfl rfl (by omega) (by omega)) ?_
     rw[lR (fun x=>!p x) l j (by omega) (by simp_all)]
     refine aE aA 1 rfl ?_
     refine bB ?_
     refine hK10 _ (aB (aE aA 1 rfl ?_))
     refine aF rfl (bJ rfl rfl (by omega) (by omega)) ?_
     refine aE aA 1 rfl (aD ?_)
     exact⟨j+1,(by omega),by omega,dN rfl⟩
    ·
     simp only[bs] at hc3
     rw[jR (fun x=>!p x) l j (by omega) (by simp_all),lS (fun x=>!p x) l j (by omega) (by simp_all)]
     refine aL (hK10 _ (aB (aE aA 1 rfl ?_)))
     refine aF rfl (bJ rfl rfl (by omega) (by omega)) ?_
     refine aE aA 1 rfl (aD ?_)
     exact⟨j+1,(by omega),by omega,dN rfl⟩
   ·
    simp only[bs] at hc2
    refine bA (hK6 _ (aC (fun K14 hK14=>(aB (aE aA 2 rfl ?_)))))
    refine aF rfl (eG rfl kI gP rfl rfl (by omega) (by omega)) ?_
    refine tU hf nB yG (by simp [Value.oneCell']) rfl rfl ?_
    refine aD (hK14 _ (aC (fun K15 hK15=>(aB (aE aA 2 rfl ?_)))))
    refine aF rfl (eG rfl kI gP rfl rfl (by omega) (by omega)) ?_
    refine aE aA 1 rfl (aD (hK15 _ (aJ ?_)))
    have hjl:l.length≤j:=by omega
    have he:=mV (fun x=>!p x) l j hjl
    refine⟨_,_,_,Le.refl _,rfl,rfl,?_,?_⟩
    · rw[List.take_of_length_le hjl]; rfl
    · rw[List.take_of_length_le hjl,Nat.zero_add,Int.toNat_natCast,← List.map_take,he]
theorem aBb (l:List Tm) (hl:l.length*24≤140737488355328) :DenO Tryz.prog 98 [.sl 2 (l.map tmC)] 2 (·=(l.map tmC)):=by
 refine fB Tryz.func98 rfl (Nat.le_of_ble_eq_true rfl) (fun w0 A hf=>?_)
 refine aC (fun K1 hK1=>(aB (aF rfl (bE) (aD (hK1 _ (aC (fun K2 hK2=>(aC (fun K3 hK3=>(aB (aE aA 1 rfl ?_)))))))))))
 refine lE rfl rfl rfl kI (fun b hb1=>?_)
 refine aD (hK3 _ (aI rfl (fun hc2=>?_) (fun hc2=>?_)))
 ·
  have hl0:l=[]:=by simpa using hb1 (by assumption)
  refine aC (fun K4 hK4=>(aB (jK hf 2 rfl rfl rfl (aD (hK4 _ (aJ ?_))))))
  exact⟨2,[],by decide,rfl,rfl,by rw[hl0]; rfl⟩
 ·
  refine aL (hK2 _ (aC (fun K5 hK5=>(aB (cP hf rfl rfl rfl nB rfl rfl rfl rfl (l2 rfl) ?_)))))
  refine aE aA 1 rfl (aT hf rfl nB rfl rfl rfl (.inl rfl) rfl rfl (by first | rfl | simp [cV,bF]) (by first | (simp only[maxLen,List.length_map,List.length_append,List.length_cons,List.length_nil]; omega) | (simp [maxLen] <;> omega)) (by first | (simp only[List.length_map,List.length_append,List.length_cons,List.length_nil]; omega) | (simp <;> omega)) ?_)
  refine aQ (cD [7] rfl) (aE aA 1 rfl (aD (hK5 _ (aJ ?_))))
  refine⟨5,(l.map tmC),by decide,rfl,?_,rfl⟩
  show some (AV.own 5 2 0 (0+(l.map tmC).length))=_
  rw[Nat.zero_add]
end Go.Proofs.YtijnkglkchhomaaGreat
set_option linter.unusedVariables false
set_option linter.unusedSimpArgs false
namespace Go.Proofs.YtijnkglkchhomaaGreat
open Go Go.Abs
end Go.Proofs.YtijnkglkchhomaaGreat
set_option linter.unusedVariables false
set_option linter.unusedSimpArgs false
namespace Go.Proofs.YtijnkglkchhomaaGreat
open Go Go.Abs
theorem jZ (n a b:Int) :Den Tryz.prog 152 [.s (.int .i64 n),.s (.int .i64 a),.s (.int .i64 b)]  (·=.s (.bool (decide (a≤n)&&decide (n≤b)))):=by
 refine aS Tryz.func152 rfl (Nat.le_of_ble_eq_true rfl) (fun w0 A hf=>(aC (fun K1 hK1=>(aB (aE aA 1 rfl (aD (hK1 _ (aC (fun K2 hK2=>(aB (aE aA 4 rfl (aY rfl rfl rfl (fun hg1=>?_) (fun hg1=>?_)))))))))))))
 ·
  simp only[bs] at hg1
  refine aF rfl (fA rfl) (aE aA 4 rfl (aD (hK2 _ (aJ ?_))))
  refine⟨_,rfl,?_⟩
  refine aV ?_
  rw[Bool.eq_iff_iff]
  simp only[Bool.and_eq_true,decide_eq_true_eq,true_iff,Bool.false_eq_true,false_iff]
  omega
 ·
  simp only[bs] at hg1
  refine aE aA 4 rfl (aD (hK2 _ (aJ ?_)))
  refine⟨_,rfl,?_⟩
  refine aV ?_
  rw[Bool.eq_iff_iff]
  simp only[Bool.and_eq_true,decide_eq_true_eq,true_iff,Bool.false_eq_true,false_iff]
  omega
theorem aM6 (x:Us) :Den Tryz.prog 68 [.agg (usC x)]  (·=.s (.string x.1)):=by
 refine aS Tryz.func68 rfl (Nat.le_of_ble_eq_true rfl) (fun w0 A hf=>(aC (fun K1 hK1=>(aB (aK hf rfl (cL rfl rfl (lf rfl)) (aE aA 1 rfl (aD (hK1 _ (aC (fun K2 hK2=>(aB (aE aA 3 rfl (aD (hK2 _ (aJ ?_)))))))))))))))
 refine⟨_,rfl,?_⟩
 rfl
theorem aL4 (x:Tm) :Den Tryz.prog 132 [.agg (tmC x)]  (·=.s (.string x.1)):=by
 refine aS Tryz.func132 rfl (Nat.le_of_ble_eq_true rfl) (fun w0 A hf=>(aC (fun K1 hK1=>(aB (aK hf rfl (cL rfl rfl (lf rfl)) (aE aA 1 rfl (aD (hK1 _ (aC (fun K2 hK2=>(aB (aE aA 3 rfl (aD (hK2 _ (aJ ?_)))))))))))))))
 refine⟨_,rfl,?_⟩
 rfl
end Go.Proofs.YtijnkglkchhomaaGreat
set_option linter.unusedVariables false
set_option linter.unusedSimpArgs false
namespace Go.Proofs.YtijnkglkchhomaaGreat
open Go Go.Abs
theorem aG2 {g:Nat} {cap:List AV} (hent:∀ args w,(callFunc g args).run Tryz.prog w=.ok (.enter g args) w) (hcl:cleanL (fun _=>false) cap=true) (l:List Us) (u:ByteArray) (hl:l.length≤4611686018427387903) (hr:cQ cR l) (hp:∀ x∈l,Den Tryz.prog g (.agg (usC x)::.s (.string u)::cap) (·=.s (.int .i64 (eA x.1 u)))) :Den Tryz.prog 111 [.sl 2 (l.map usC),.s (.string u),.fn g cap]  (·=.tup [.s (.int .i64 (dI cR l u:Nat)),.s (.bool (mB cR l u))]):=by
 refine aS Tryz.func111 rfl (Nat.le_of_ble_eq_true rfl) (fun w0 A hf=>(aC (fun K1 hK1=>(aB (aE aA 2 rfl (aD (hK1 _ (aC (fun K2 hK2=>(aB (aE aA 3 rfl (aD (hK2 _ (aC (fun K3 hK3=>(aB ?_))))))))))))))))
 refine aE aA 3 rfl (aD (hK3 _ (aC (fun K4 hK4=>(aO (bS (ι:=Nat×Nat) (fun(⟨i,j⟩:Nat×Nat)=>⟨49,[(0,.sl 2 (l.map usC)),(1,.s (.string u)),(2,.fn g cap),(8,.s (.int .i64 (((l.map usC)).length:Nat))),(9,.s (.int .i64 (i:Nat))),(10,.s (.int .i64 (j:Nat)))],[]⟩) (fun(⟨i,j⟩:Nat×Nat)=>BsI l cR u i j) (fun(⟨i,j⟩:Nat×Nat)=>j - i) (0,l.length) ?_ ?_ ?_))))))
 · exact BsI.start l u
 · exact kX ⟨rfl,rfl,rfl,rfl,rfl,(by rw[List.length_map]; rfl),trivial⟩
 ·
  rintro ⟨i,j⟩ hC
  have hi1:=hC.1
  have hi2:=hC.2.1
  refine aC (fun K5 hK5=>(aC (fun K6 hK6=>(aB (aE aA 3 rfl (aD (hK6 _ (aI rfl (fun hc1=>?_) (fun hc1=>?_)))))))))
  ·
   simp only[bs] at hc1
   refine aL (hK5 _ (aO (aC (fun K7 hK7=>(aB ?_)))))
   have hz:=yB (a:=((i:Nat):Int)+((j:Nat):Int)) (b:=(((i+j) / 2:Nat):Int)) (by omega) (by omega) (by omega)
   have hm1:i≤(i+j) / 2:=by omega
   have hm2:(i+j) / 2<j:=by omega
   have hml:(i+j) / 2<l.length:=by omega
   refine aE aA 2 rfl (aF rfl (bJ rfl rfl (by omega) (by omega)) (aF rfl (nY rfl Tryz.underlying3 Tryz.underlying234 hz.1) (aF rfl (xT rfl hz.2.1 (by decide)) (aF rfl (nY rfl Tryz.underlying234 Tryz.underlying3 hz.2.2) (aE aA 1 rfl (aD (hK7 _ (aC (fun K8 hK8=>(aB (aE aA 3 rfl (aF rfl (aW rfl rfl fH eT (hP (k:=(i+j) / 2) (by omega) (by omega))) (aE aA 2 rfl ?_)))))))))))))
   refine aK hf rfl (aR rfl rfl hent (by show (true&&(true&&cleanL (fun _=>false) cap))=true; rw[hcl]; rfl) (hp _ (List.getElem_mem hml))) ?_
   refine aE aA 1 rfl (aD (hK8 _ (aI rfl (fun hc2=>?_) (fun hc2=>?_))))
   ·
    simp only[bs] at hc2
    refine aB (aE aA 1 rfl ?_)
    refine aF rfl (bJ rfl rfl (by omega) (by omega)) ?_
    refine aE aA 1 rfl ?_
    refine bB ?_
    exact⟨((i+j) / 2+1,j),hC.lo hr hm1 hm2 hml (by show eA l[(i+j) / 2].1 u<0; omega),by simp only; omega,kX ⟨rfl,rfl,rfl,rfl,rfl,rfl,trivial⟩⟩
   ·
    simp only[bs] at hc2
    refine aB (aE aA 2 rfl ?_)
    refine bB ?_
    exact⟨(i,(i+j) / 2),hC.hi hr hm1 hm2 hml (by show ¬ eA l[(i+j) / 2].1 u<0; omega),by simp only; omega,kX ⟨rfl,rfl,rfl,rfl,rfl,rfl,trivial⟩⟩
  ·
   simp only[bs] at hc1
   refine bA (hK4 _ (aC (fun K9 hK9=>(aB (aE aA 5 rfl (aY rfl rfl rfl (fun hg3=>?_) (fun hg3=>?_)))))))
   ·
    simp only[bs] at hg3
    refine aF rfl (fA rfl) (aE aA 2 rfl (bK rfl rfl rfl ?_))
    refine aF rfl (aW rfl rfl fH eT (by first | exact ixm (by omega) | assumption | exact⟨by decide,rfl⟩)) ?_
    refine aE aA 2 rfl (bK rfl rfl rfl (aK hf rfl (aR rfl rfl hent (by show (true&&(true&&cleanL (fun _=>false) cap))=true; rw[hcl]; rfl) (hp _ (List.getElem_mem (by omega)))) ?_))
    refine aE aA 4 rfl (aD (hK9 _ (aJ ?_)))
    refine⟨_,rfl,?_⟩
    (rw[(hC.fin hr (by omega)).1,hC.fin_t hr (by omega) (show i<l.length by omega)]; rfl)
   ·
    simp only[bs] at hg3
    refine aE aA 10 rfl (aD (hK9 _ (aJ ?_)))
    refine⟨_,rfl,?_⟩
    (rw[(hC.fin hr (by omega)).1,hC.fin_f hr (by omega) (by omega)]; rfl)
theorem aG3 (x:Us) (u:ByteArray) :Den Tryz.prog 112 [.agg (usC x),.s (.string u),.adr [.fn 68 []]]  (·=.s (.int .i64 (eA x.1 u))):=by
 refine aS Tryz.func112 rfl (Nat.le_of_ble_eq_true rfl) (fun w0 A hf=>(aC (fun K1 hK1=>(aB (aK hf rfl (cL rfl rfl (lf rfl)) (aE aA 1 rfl (aD (hK1 _ (aC (fun K2 hK2=>(aB (aE aA 2 rfl (aK hf rfl (aR rfl rfl aNo rfl (aM6 x)) (aE aA 1 rfl (aK hf rfl (aR rfl rfl qH rfl (Nm.cmp_den x.1 u)) ?_)))))))))))))))
 refine aE aA 1 rfl (aD (hK2 _ (aJ ?_)))
 refine⟨_,rfl,?_⟩
 rfl
theorem aA5 (l:List Us) (u:ByteArray) (hl:l.length≤4611686018427387903) (hr:cQ cR l) :Den Tryz.prog 67 [.sl 2 (l.map usC),.s (.string u),.fn 68 []]  (·=.tup [.s (.int .i64 (dI cR l u:Nat)),.s (.bool (mB cR l u))]):=by
 refine aS Tryz.func67 rfl (Nat.le_of_ble_eq_true rfl) (fun w0 A hf=>(aC (fun K1 hK1=>(aB (aK hf rfl (cL rfl rfl (lf rfl)) (aE aA 2 rfl (aD (hK1 _ (aC (fun K2 hK2=>(aB (aE aA 2 rfl (aF rfl (iJ rfl) (aK hf rfl (aR rfl rfl aLu rfl (aG2 aLt rfl l u hl hr (fun x _=>aG3 x u))) (aE aA 4 rfl ?_)))))))))))))))
 refine aD (hK2 _ (aJ ?_))
 refine⟨_,rfl,?_⟩
 rfl
theorem aG8 {g:Nat} {cap:List AV} (hent:∀ args w,(callFunc g args).run Tryz.prog w=.ok (.enter g args) w) (hcl:cleanL (fun _=>false) cap=true) (l:List Tm) (u:ByteArray) (hl:l.length≤4611686018427387903) (hr:cQ dZ l) (hp:∀ x∈l,Den Tryz.prog g (.agg (tmC x)::.s (.string u)::cap) (·=.s (.int .i64 (eA x.1 u)))) :Den Tryz.prog 182 [.sl 2 (l.map tmC),.s (.string u),.fn g cap]  (·=.tup [.s (.int .i64 (dI dZ l u:Nat)),.s (.bool (mB dZ l u))]):=by
 refine aS Tryz.func182 rfl (Nat.le_of_ble_eq_true rfl) (fun w0 A hf=>(aC (fun K1 hK1=>(aB (aE aA 2 rfl (aD (hK1 _ (aC (fun K2 hK2=>(aB (aE aA 3 rfl (aD (hK2 _ (aC (fun K3 hK3=>(aB ?_))))))))))))))))
 refine aE aA 3 rfl (aD (hK3 _ (aC (fun K4 hK4=>(aO (bS (ι:=Nat×Nat) (fun(⟨i,j⟩:Nat×Nat)=>⟨49,[(0,.sl 2 (l.map tmC)),(1,.s (.string u)),(2,.fn g cap),(8,.s (.int .i64 (((l.map tmC)).length:Nat))),(9,.s (.int .i64 (i:Nat))),(10,.s (.int .i64 (j:Nat)))],[]⟩) (fun(⟨i,j⟩:Nat×Nat)=>BsI l dZ u i j) (fun(⟨i,j⟩:Nat×Nat)=>j - i) (0,l.length) ?_ ?_ ?_))))))
 · exact BsI.start l u
 · exact kX ⟨rfl,rfl,rfl,rfl,rfl,(by rw[List.length_map]; rfl),trivial⟩
 ·
  rintro ⟨i,j⟩ hC
  have hi1:=hC.1
  have hi2:=hC.2.1
  refine aC (fun K5 hK5=>(aC (fun K6 hK6=>(aB (aE aA 3 rfl (aD (hK6 _ (aI rfl (fun hc1=>?_) (fun hc1=>?_)))))))))
  ·
   simp only[bs] at hc1
   refine aL (hK5 _ (aO (aC (fun K7 hK7=>(aB ?_)))))
   have hz:=yB (a:=((i:Nat):Int)+((j:Nat):Int)) (b:=(((i+j) / 2:Nat):Int)) (by omega) (by omega) (by omega)
   have hm1:i≤(i+j) / 2:=by omega
   have hm2:(i+j) / 2<j:=by omega
   have hml:(i+j) / 2<l.length:=by omega
   refine aE aA 2 rfl (aF rfl (bJ rfl rfl (by omega) (by omega)) (aF rfl (nY rfl Tryz.underlying3 Tryz.underlying234 hz.1) (aF rfl (xT rfl hz.2.1 (by decide)) (aF rfl (nY rfl Tryz.underlying234 Tryz.underlying3 hz.2.2) (aE aA 1 rfl (aD (hK7 _ (aC (fun K8 hK8=>(aB (aE aA 3 rfl (aF rfl (aW rfl rfl kI gP (hP (k:=(i+j) / 2) (by omega) (by omega))) (aE aA 2 rfl ?_)))))))))))))
   refine aK hf rfl (aR rfl rfl hent (by show (true&&(true&&cleanL (fun _=>false) cap))=true; rw[hcl]; rfl) (hp _ (List.getElem_mem hml))) ?_
   refine aE aA 1 rfl (aD (hK8 _ (aI rfl (fun hc2=>?_) (fun hc2=>?_))))
   ·
    simp only[bs] at hc2
    refine aB (aE aA 1 rfl ?_)
    refine aF rfl (bJ rfl rfl (by omega) (by omega)) ?_
    refine aE aA 1 rfl ?_
    refine bB ?_
    exact⟨((i+j) / 2+1,j),hC.lo hr hm1 hm2 hml (by show eA l[(i+j) / 2].1 u<0; omega),by simp only; omega,kX ⟨rfl,rfl,rfl,rfl,rfl,rfl,trivial⟩⟩
   ·
    simp only[bs] at hc2
    refine aB (aE aA 2 rfl ?_)
    refine bB ?_
    exact⟨(i,(i+j) / 2),hC.hi hr hm1 hm2 hml (by show ¬ eA l[(i+j) / 2].1 u<0; omega),by simp only; omega,kX ⟨rfl,rfl,rfl,rfl,rfl,rfl,trivial⟩⟩
  ·
   simp only[bs] at hc1
   refine bA (hK4 _ (aC (fun K9 hK9=>(aB (aE aA 5 rfl (aY rfl rfl rfl (fun hg3=>?_) (fun hg3=>?_)))))))
   ·
    simp only[bs] at hg3
    refine aF rfl (fA rfl) (aE aA 2 rfl (bK rfl rfl rfl ?_))
    refine aF rfl (aW rfl rfl kI gP (by first | exact ixm (by omega) | assumption | exact⟨by decide,rfl⟩)) ?_
    refine aE aA 2 rfl (bK rfl rfl rfl (aK hf rfl (aR rfl rfl hent (by show (true&&(true&&cleanL (fun _=>false) cap))=true; rw[hcl]; rfl) (hp _ (List.getElem_mem (by omega)))) ?_))
    refine aE aA 4 rfl (aD (hK9 _ (aJ ?_)))
    refine⟨_,rfl,?_⟩
    (rw[(hC.fin hr (by omega)).1,hC.fin_t hr (by omega) (show i<l.length by omega)]; rfl)
   ·
    simp only[bs] at hg3
    refine aE aA 10 rfl (aD (hK9 _ (aJ ?_)))
    refine⟨_,rfl,?_⟩
    (rw[(hC.fin hr (by omega)).1,hC.fin_f hr (by omega) (by omega)]; rfl)
theorem aG9 (x:Tm) (u:ByteArray) :Den Tryz.prog 183 [.agg (tmC x),.s (.string u),.adr [.fn 132 []]]  (·=.s (.int .i64 (eA x.1 u))):=by
 refine aS Tryz.func183 rfl (Nat.le_of_ble_eq_true rfl) (fun w0 A hf=>(aC (fun K1 hK1=>(aB (aK hf rfl (cL rfl rfl (lf rfl)) (aE aA 1 rfl (aD (hK1 _ (aC (fun K2 hK2=>(aB (aE aA 2 rfl (aK hf rfl (aR rfl rfl aLi rfl (aL4 x)) (aE aA 1 rfl (aK hf rfl (aR rfl rfl qH rfl (Nm.cmp_den x.1 u)) ?_)))))))))))))))
 refine aE aA 1 rfl (aD (hK2 _ (aJ ?_)))
 refine⟨_,rfl,?_⟩
 rfl
theorem aL6 (l:List Tm) (u:ByteArray) (hl:l.length≤4611686018427387903) (hr:cQ dZ l) :Den Tryz.prog 131 [.sl 2 (l.map tmC),.s (.string u),.fn 132 []]  (·=.tup [.s (.int .i64 (dI dZ l u:Nat)),.s (.bool (mB dZ l u))]):=by
 refine aS Tryz.func131 rfl (Nat.le_of_ble_eq_true rfl) (fun w0 A hf=>(aC (fun K1 hK1=>(aB (aK hf rfl (cL rfl rfl (lf rfl)) (aE aA 2 rfl (aD (hK1 _ (aC (fun K2 hK2=>(aB (aE aA 2 rfl (aF rfl (iJ rfl) (aK hf rfl (aR rfl rfl aK2 rfl (aG8 aK1 rfl l u hl hr (fun x _=>aG9 x u))) (aE aA 4 rfl ?_)))))))))))))))
 refine aD (hK2 _ (aJ ?_))
 refine⟨_,rfl,?_⟩
 rfl
end Go.Proofs.YtijnkglkchhomaaGreat
set_option linter.unusedVariables false
set_option linter.unusedSimpArgs false
namespace Go.Proofs.YtijnkglkchhomaaGreat
open Go Go.Abs
theorem aA6 {g:Nat} {cap:List AV} (hent:∀ args w,(callFunc g args).run Tryz.prog w=.ok (.enter g args) w) (hcl:cleanL (fun _=>false) cap=true) (p:Us→Bool) (l:List Us) (hl:l.length≤9223372036854775807) (hp:∀ x∈l,Den Tryz.prog g (.agg (usC x)::cap) (·=.s (.bool (p x)))) :Den Tryz.prog 191 [.sl 2 (l.map usC),.fn g cap]  (·=.s (.int .i64 (kZ p l))):=by
 refine aS Tryz.func191 rfl (Nat.le_of_ble_eq_true rfl) (fun w0 A hf=>(aC (fun K1 hK1=>(aB (aE aA 1 rfl (aD (hK1 _ (aC (fun K2 hK2=>(aC (fun K3 hK3=>(aB (aE aA 3 rfl (aD (hK3 _ (aO ?_))))))))))))))))
 refine bS (ι:=Nat) (fun k=>⟨19,[(0,.sl 2 (l.map usC)),(1,.fn g cap),(7,.s (.int .i64 ((l.map usC).length:Nat))),(8,.s (.int .i64 (k:Nat)))],[]⟩) (fun k=>k≤l.length∧∀ (j:Nat) (hj:j<l.length),j<k→p l[j]=false) (fun k=>l.length - k) 0 ?_ ?_ ?_
 · exact⟨by omega,by omega⟩
 · exact dN rfl
 ·
  rintro k hC
  obtain ⟨h1,h2⟩:=hC
  refine aC (fun K4 hK4=>(aB (aE aA 1 rfl (aD (hK4 _ (aC (fun K5 hK5=>(aI rfl (fun hc1=>?_) (fun hc1=>?_)))))))))
  ·
   simp only[bs] at hc1
   refine aL (hK5 _ (aC (fun K6 hK6=>(aO (aC (fun K7 hK7=>(aB (aE aA 2 rfl (aD (hK7 _ (aC (fun K8 hK8=>(aB (aE aA 3 rfl ?_))))))))))))))
   refine aF rfl (aW rfl rfl fH eT (by first | exact ixm (by omega) | assumption | exact⟨by decide,rfl⟩)) ?_
   refine aE aA 1 rfl (aK hf rfl (aR rfl rfl hent (by rw[fN,hcl]; rfl) (hp _ (List.getElem_mem _))) ?_)
   refine aD (hK8 _ (aI rfl (fun hc2=>?_) (fun hc2=>?_)))
   ·
    refine aC (fun K9 hK9=>(aB (aE aA 2 rfl (aD (hK9 _ (aJ ?_))))))
    refine⟨_,rfl,?_⟩
    refine dM ?_
    rw[iK (by omega) h2 (by assumption)]
   ·
    refine aL (hK6 _ (aB ?_))
    refine aF rfl (bJ rfl rfl (by omega) (by omega)) ?_
    refine aE aA 1 rfl (aD ?_)
    exact⟨k+1,⟨by omega,fun j hj hjk=>by
      by_cases e:j=k
      · subst e; simp_all
      · exact h2 j hj (by omega)⟩,by omega,dN rfl⟩
  ·
   simp only[bs] at hc1
   refine bA (hK2 _ (aC (fun K10 hK10=>(aB (aE aA 1 rfl (aD (hK10 _ (aJ ?_))))))))
   refine⟨_,rfl,?_⟩
   refine dM ?_
   rw[lQ (fun j hj=>h2 j hj (by omega))]
theorem zX {g:Nat} {cap:List AV} (hent:∀ args w,(callFunc g args).run Tryz.prog w=.ok (.enter g args) w) (hcl:cleanL (fun _=>false) cap=true) (hcv:∀ m,convL m cap=cap) (p:Us→Bool) (l:List Us) (n:Nat) (hn:n=l.length) (hl:l.length≤9223372036854775807) (hp:∀ x∈l,Den Tryz.prog g (.agg (usC x)::cap) (·=.s (.bool (p x)))) :DenM Tryz.prog 205 [.own E0 2 0 n,.fn g cap] 2 ((l.map usC)) (fun r ys=>r=.own E0 2 0 (l.filter fun x=>!p x).length∧ys=((l.filter fun x=>!p x).map usC)):=by
 subst hn
 have hq0:∀ j,((l.take j).filter fun x=>!p x).length≤j:=fun j=>gT _ l j
 have hq1:∀ j,((l.take j).filter fun x=>!p x).length≤l.length:=fun j=>gG _ l j
 refine gI Tryz.func205 rfl (Nat.le_of_ble_eq_true rfl) (fun w0 x0 A hf=>?_)
 refine aC (fun K1 hK1=>(aB (aF rfl (bE) (aD (hK1 _ (aC (fun K2 hK2=>(aB (aE aA 2 rfl (aK hf rfl (pW rfl rfl (by show [AV.conv _ _,AV.fn g (convL _ cap)]=_; rw[hcv,bV (g:=E0) rfl (by simp)]) aKw (aA6 hent hcl p l hl hp) rfl) ?_))))))))))
 refine aE aA 1 rfl (aD (hK2 _ (aC (fun K3 hK3=>(aC (fun K4 hK4=>(aB (aE aA 2 rfl (aD (hK4 _ (aI rfl (fun hc1=>?_) (fun hc1=>?_))))))))))))
 ·
  simp only[bs] at hc1
  refine aC (fun K5 hK5=>(aB (aE aA 2 rfl (aD (hK5 _ (aJ ?_))))))
  have hno:kZ p l=-1:=by simpa using hc1
  rcases dE p l with ⟨_,hn⟩ | ⟨k,hk,e,_⟩
  · exact⟨_,.own E0 2 0 l.length,(l.map usC),Le.refl _,rfl,rfl,by rw[fL p l hn],by rw[fL p l hn]⟩
  · exfalso; omega
 ·
  simp only[bs] at hc1
  refine aL (hK3 _ (aC (fun K6 hK6=>(aC (fun K7 hK7=>(aB ?_))))))
  rcases dE p l with ⟨e0,_⟩ | ⟨k0,hk0,ek0,hpk0,hbef⟩
  · exact absurd e0 (by simpa using hc1)
  have hst:=kP (fun x=>!p x) l k0 hk0 (fun j hj hjk=>by simp [hbef j hj hjk]) (by simp [hpk0])
  rw[ek0]
  refine aE aA 1 rfl ?_
  refine aF rfl (bJ rfl rfl (by omega) (by omega)) ?_
  refine aE aA 1 rfl (aD (hK7 _ (aO (bS (ι:=Nat) (fun j=>⟨42,[(0,.own E0 2 0 l.length),(1,.fn g cap),(5,.s (.int .i64 (((l.take j).filter fun x=>!p x).length:Nat))),(6,.s (.int .i64 (j:Nat)))],[(E0,.buf 2 ((iY (fun x=>!p x) l j).map usC))]⟩) (fun j=>j≤l.length) (fun j=>l.length - j) (k0+1) ?_ ?_ ?_))))
  · exact hk0
  · rw[hst.1,hst.2]; exact kX ⟨rfl,rfl,rfl,rfl,trivial⟩
  ·
   rintro j hC
   let q:=fun x=>!p x
   have hle:((l.take j).filter q).length≤j:=hq0 j
   have hle2:((l.take j).filter fun x=>!p x).length≤j:=hq0 j
   refine aC (fun K8 hK8=>(aC (fun K9 hK9=>(aB (aE aA 4 rfl (aD (hK9 _ (aI rfl (fun hc2=>?_) (fun hc2=>?_)))))))))
   ·
    simp only[bs] at hc2
    refine aL (hK8 _ (aC (fun K10 hK10=>(aO (aC (fun K11 hK11=>(aB (aE aA 2 rfl ?_))))))))
    refine aF rfl (bX rfl rfl fH eT (by omega)) ?_
    refine aF rfl (bM rfl aQz eT rfl (pY (c:=2) (k:=j) (enc:=usC) (by omega) (by rw[eF]; omega) rfl) (cs':=usC l[j]) (by rw[nK (c:=2) (k:=j) (enc:=usC) (by omega) (by rw[eF]; omega) rfl,oM q l j j (by omega) hle])) ?_
    refine cH hf rfl yH rfl eT rfl rfl rfl rfl (lf rfl) (aD (hK11 _ (aC (fun K12 hK12=>(aB (aE aA 2 rfl (aK hf rfl (aR rfl rfl hent (by rw[fN,hcl]; rfl) (hp _ (List.getElem_mem _))) ?_)))))))
    refine aE aA 1 rfl (aD (hK12 _ (aI rfl (fun hc3=>?_) (fun hc3=>?_))))
    ·
     simp only[bs] at hc3
     refine aC (fun K13 hK13=>(aB (aE aA 3 rfl ?_)))
     refine aF rfl (bX rfl rfl fH eT (by omega)) ?_
     refine aP hf rfl rfl eT rfl rfl (by simp [usC,AV.cells,AV.one,Value.oneCell',splice]) (by simp [usC,AV.cells,AV.leaf,Value.oneCell',splice]) (gD (c:=2) (k:=((l.take j).filter fun x=>!p x).length) (enc:=usC) (v:=l[j]) (by omega) (by rw[eF]; omega) rfl (Nat.le_refl _)) ?_
     refine aD (hK13 _ (aB ?_))
     rw[jQ (fun x=>!p x) l j (by omega) (by simp_all)]
     refine aE aA 1 rfl ?_
     refine aF rfl (bJ rfl rfl (by omega) (by omega)) ?_
     rw[lR (fun x=>!p x) l j (by omega) (by simp_all)]
     refine aE aA 1 rfl ?_
     refine bB ?_
     refine hK10 _ (aB (aE aA 1 rfl ?_))
     refine aF rfl (bJ rfl rfl (by omega) (by omega)) ?_
     refine aE aA 1 rfl (aD ?_)
     exact⟨j+1,(by omega),by omega,dN rfl⟩
    ·
     simp only[bs] at hc3
     rw[jR (fun x=>!p x) l j (by omega) (by simp_all),lS (fun x=>!p x) l j (by omega) (by simp_all)]
     refine aL (hK10 _ (aB (aE aA 1 rfl ?_)))
     refine aF rfl (bJ rfl rfl (by omega) (by omega)) ?_
     refine aE aA 1 rfl (aD ?_)
     exact⟨j+1,(by omega),by omega,dN rfl⟩
   ·
    simp only[bs] at hc2
    refine bA (hK6 _ (aC (fun K14 hK14=>(aB (aE aA 2 rfl ?_)))))
    refine aF rfl (eG rfl fH eT rfl rfl (by omega) (by omega)) ?_
    refine tU hf oR yH (by simp [Value.oneCell']) rfl rfl ?_
    refine aD (hK14 _ (aC (fun K15 hK15=>(aB (aE aA 2 rfl ?_)))))
    refine aF rfl (eG rfl fH eT rfl rfl (by omega) (by omega)) ?_
    refine aE aA 1 rfl (aD (hK15 _ (aJ ?_)))
    have hjl:l.length≤j:=by omega
    have he:=mV (fun x=>!p x) l j hjl
    refine⟨_,_,_,Le.refl _,rfl,rfl,?_,?_⟩
    · rw[List.take_of_length_le hjl]; rfl
    · rw[List.take_of_length_le hjl,Nat.zero_add,Int.toNat_natCast,← List.map_take,he]
theorem oS (l:List Us) (hl:l.length*40≤140737488355328) :DenO Tryz.prog 96 [.sl 2 (l.map usC)] 2 (·=(l.map usC)):=by
 refine fB Tryz.func96 rfl (Nat.le_of_ble_eq_true rfl) (fun w0 A hf=>?_)
 refine aC (fun K1 hK1=>(aB (aF rfl (bE) (aD (hK1 _ (aC (fun K2 hK2=>(aC (fun K3 hK3=>(aB (aE aA 1 rfl ?_)))))))))))
 refine lE rfl rfl rfl fH (fun b hb1=>?_)
 refine aD (hK3 _ (aI rfl (fun hc2=>?_) (fun hc2=>?_)))
 ·
  have hl0:l=[]:=by simpa using hb1 (by assumption)
  refine aC (fun K4 hK4=>(aB (jK hf 2 rfl rfl rfl (aD (hK4 _ (aJ ?_))))))
  exact⟨2,[],by decide,rfl,rfl,by rw[hl0]; rfl⟩
 ·
  refine aL (hK2 _ (aC (fun K5 hK5=>(aB (cP hf rfl rfl rfl oR rfl rfl rfl rfl (l2 rfl) ?_)))))
  refine aE aA 1 rfl (aT hf rfl oR rfl rfl rfl (.inl rfl) rfl rfl (by first | rfl | simp [cV,bF]) (by first | (simp only[maxLen,List.length_map,List.length_append,List.length_cons,List.length_nil]; omega) | (simp [maxLen] <;> omega)) (by first | (simp only[List.length_map,List.length_append,List.length_cons,List.length_nil]; omega) | (simp <;> omega)) ?_)
  refine aQ (cD [7] rfl) (aE aA 1 rfl (aD (hK5 _ (aJ ?_))))
  refine⟨5,(l.map usC),by decide,rfl,?_,rfl⟩
  show some (AV.own 5 2 0 (0+(l.map usC).length))=_
  rw[Nat.zero_add]
theorem aO2 (n:Nat) (hn:n*40≤140737488355328) :DenO Tryz.prog 211 [.s (.slice none 0 0),.s (.int .i64 (n:Nat))] 2 (·=[]):=by
 refine fB Tryz.func211 rfl (Nat.le_of_ble_eq_true rfl) (fun w0 A hf=>?_)
 refine aC (fun K1 hK1=>(aB (aF rfl (bE) (aD (hK1 _ (aC (fun K2 hK2=>(aC (fun K3 hK3=>(aB (aE aA 2 rfl (aD (hK3 _ (aI rfl (fun hc1=>?_) (fun hc1=>?_)))))))))))))))
 ·
  simp only[bs] at hc1
  omega
 ·
  simp only[bs] at hc1
  refine aL (hK2 _ (aC (fun K4 hK4=>(aC (fun K5 hK5=>(aB (aE aA 2 rfl (aF rfl (lO rfl fH) (aE aA 2 rfl ?_)))))))))
  refine aF rfl (fE rfl rfl (by omega) (by omega)) ?_
  refine aF rfl (fE rfl rfl (by omega) (by omega)) ?_
  refine aE aA 1 rfl (aD (hK5 _ (aC (fun K6 hK6=>(aB (aE aA 2 rfl (aD (hK6 _ (aI rfl (fun hc2=>?_) (fun hc2=>?_))))))))))
  ·
   simp only[bs] at hc2
   refine aB (aE aA 2 rfl (aF rfl (lO rfl fH) ?_))
   refine aF rfl (pX rfl fH eT rfl) ?_
   refine aE aA 1 rfl (tV hf rfl rfl rfl oR Tryz.underlying3 rfl rfl (by omega) (by omega) (by simp only[maxLen]; omega) ?_)
   refine aE aA 2 rfl ?_
   refine aF rfl (eG rfl fH eT rfl rfl (by omega) (by omega)) ?_
   refine aE aA 1 rfl (aD (hK4 _ (aC (fun K7 hK7=>(aB (aE aA 1 rfl ?_))))))
   refine aF rfl (sU rfl) ?_
   refine aD (hK7 _ (aJ ?_))
   exact⟨22,[],by decide,rfl,rfl,rfl⟩
  ·
   simp only[bs] at hc2
   refine aL (hK4 _ (aC (fun K8 hK8=>(aB (aE aA 1 rfl ?_)))))
   refine aFk hf 2 rfl rfl rfl rfl ?_
   refine aD (hK8 _ (aJ ?_))
   exact⟨4,[],by decide,rfl,rfl,rfl⟩
theorem aG4 (rows:List (List Us)) (hl:rows.length≤9223372036854775807) (hb:rows.flatten.length*40≤140737488355328) :DenO Tryz.prog 162 [.sl 1 (rows.map fun r=>[AV.sl 2 (r.map usC)])] 2 (·=(rows.flatten.map usC)):=by
 refine fB Tryz.func162 rfl (Nat.le_of_ble_eq_true rfl) (fun w0 A hf=>?_)
 refine aC (fun K1 hK1=>(aB (aF rfl (bE) (aD (hK1 _ (aC (fun K2 hK2=>(aB (aE aA 1 rfl (aD (hK2 _ (aC (fun K3 hK3=>(aC (fun K4 hK4=>(aB ?_))))))))))))))))
 refine aE aA 3 rfl (aD (hK4 _ (aO (bS (ι:=Nat) (fun k=>⟨36,[(0,.sl 1 (rows.map fun r=>[AV.sl 2 (r.map usC)])),(3,.s (.int .i64 ((rows.take k).flatten.length:Nat))),(9,.sl 1 (rows.map fun r=>[AV.sl 2 (r.map usC)])),(10,.s (.int .i64 ((rows.map fun r=>[AV.sl 2 (r.map usC)]).length:Nat))),(11,.s (.int .i64 (k:Nat)))],[]⟩) (fun k=>k≤rows.length) (fun k=>rows.length - k) 0 ?_ ?_ ?_))))
 · exact Nat.zero_le _
 · exact dN rfl
 ·
  rintro k hC
  refine aC (fun K5 hK5=>(aB (aE aA 1 rfl (aD (hK5 _ (aC (fun K6 hK6=>(aI rfl (fun hc1=>?_) (fun hc1=>?_)))))))))
  ·
   simp only[bs] at hc1
   refine aL (hK6 _ (aC (fun K7 hK7=>(aO (aC (fun K8 hK8=>(aB ?_)))))))
   refine aF rfl (aW rfl rfl aFe rI (by first | exact ixm (by omega) | assumption | exact⟨by decide,rfl⟩)) ?_
   refine aE aA 2 rfl (aD (hK8 _ (aC (fun K9 hK9=>(aB ?_)))))
   have hk:k<rows.length:=by omega
   have e1:=congrArg List.length (gY rows k hk)
   rw[List.length_append] at e1
   have e2:=qB rows (k+1)
   have e3:(rows[k].map usC).length=rows[k].length:=List.length_map _
   refine aE aA 3 rfl ?_
   refine aF rfl (bJ rfl rfl (by omega) (by omega)) ?_
   rw[show ((((rows.take k).flatten.length:Nat):Int)+(((rows[k].map usC).length:Nat):Int))=(((rows.take (k+1)).flatten.length:Nat):Int) from by omega]
   refine aE aA 1 rfl (aD (hK9 _ (aC (fun K10 hK10=>(aB (aE aA 2 rfl (aD (hK10 _ (aI rfl (fun hc2=>?_) (fun hc2=>?_))))))))))
   ·
    simp only[bs] at hc2
    omega
   ·
    simp only[bs] at hc2
    refine aL (hK7 _ (aB ?_))
    refine aF rfl (bJ rfl rfl (by omega) (by omega)) ?_
    refine aE aA 1 rfl (aD ?_)
    exact⟨k+1,(by omega),by omega,dN rfl⟩
  ·
   simp only[bs] at hc1
   refine bA (hK3 _ (aC (fun K11 hK11=>(aB ?_))))
   rw[List.take_of_length_le (show rows.length≤k by omega)]
   refine aE aA 1 rfl (gW hf rfl rfl rfl rfl rfl aKg rfl (aO2 rows.flatten.length (by omega)) ?_)
   rintro _ rfl
   refine aE aA 1 rfl (aD (hK11 _ (aC (fun K12 hK12=>(aC (fun K13 hK13=>(aB (aE aA 3 rfl (aD (hK13 _ (aO (bS (ι:=Nat) (fun j=>⟨36,[(6,.own 24 2 0 (rows.take j).flatten.length),(25,.sl 1 (rows.map fun r=>[AV.sl 2 (r.map usC)])),(26,.s (.int .i64 ((rows.map fun r=>[AV.sl 2 (r.map usC)]).length:Nat))),(27,.s (.int .i64 (j:Nat)))],[(24,.buf 2 ((rows.take j).flatten.map usC))]⟩) (fun j=>j≤rows.length) (fun j=>rows.length - j) 0 ?_ ?_ ?_))))))))))))
   · exact Nat.zero_le _
   · exact dN rfl
   ·
    rintro j hC
    refine aC (fun K14 hK14=>(aB (aE aA 1 rfl (aD (hK14 _ (aC (fun K15 hK15=>(aI rfl (fun hc3=>?_) (fun hc3=>?_)))))))))
    ·
     simp only[bs] at hc3
     refine aL (hK15 _ (aC (fun K16 hK16=>(aO (aC (fun K17 hK17=>(aB ?_)))))))
     refine aF rfl (aW rfl rfl aFe rI (by first | exact ixm (by omega) | assumption | exact⟨by decide,rfl⟩)) ?_
     refine aE aA 2 rfl (aD (hK17 _ (aB ?_)))
     have hj:j<rows.length:=by omega
     have e1:=congrArg List.length (gY rows j hj)
     rw[List.length_append] at e1
     have e2:=qB rows (j+1)
     have e3:(rows[j].map usC).length=rows[j].length:=List.length_map _
     refine aE aA 2 rfl (aT hf rfl oR rfl rfl rfl (.inl rfl) (by simp only[List.length_map]) rfl (by first | rfl | simp [cV,bF]) (by first | (simp only[maxLen,List.length_map,List.length_append,List.length_cons,List.length_nil]; omega) | (simp [maxLen] <;> omega)) (by first | (simp only[List.length_map,List.length_append,List.length_cons,List.length_nil]; omega) | (simp <;> omega)) ?_)
     refine aQ (cD [25,26,27,33] rfl) ?_
     rw[show (rows.take j).flatten.length+(rows[j].map usC).length=(rows.take (j+1)).flatten.length from by omega,← List.map_append,← gY rows j hj]
     refine aE aA 1 rfl ?_
     refine bB ?_
     refine hK16 _ (aB ?_)
     refine aF rfl (bJ rfl rfl (by omega) (by omega)) ?_
     refine aE aA 1 rfl (aD ?_)
     exact⟨j+1,(by omega),by omega,dN rfl⟩
    ·
     simp only[bs] at hc3
     refine bA (hK12 _ (aC (fun K18 hK18=>(aB (aE aA 2 rfl (aD (hK18 _ (aJ ?_))))))))
     refine⟨24,(rows.flatten.map usC),by decide,?_,?_,rfl⟩
     · rw[List.take_of_length_le (show rows.length≤j by omega)]; rfl
     · rw[List.take_of_length_le (show rows.length≤j by omega)]
       show some (AV.own 24 2 0 rows.flatten.length)=_
       rw[List.length_map]
end Go.Proofs.YtijnkglkchhomaaGreat
set_option linter.unusedVariables false
set_option linter.unusedSimpArgs false
namespace Go.Proofs.YtijnkglkchhomaaGreat
open Go Go.Abs
theorem nR (s:Sta) (hz:SzS 140737488355328 s) :DenX Tryz.prog 50 [.agg (bU s)] [] (fun r m=>r=.agg (eK s E0 E1)∧m=[(E0,.buf 2 (s.usr.map usC)),(E1,.buf 2 (s.tmb.map tmC))]):=by
 have z1:=hz.o
 have z2:=hz.u
 have z3:=hz.b
 have z4:=hz.t
 refine iL [] Tryz.func50 rfl (Nat.le_of_ble_eq_true rfl) (args':=[.agg (bU s)]) (m':=[]) rfl rfl (by decide) (by decide) rfl (fun w0 o0 A hf=>?_)
 refine aC (fun K1 hK1=>(aB (jL hf rfl rfl rfl rfl (l1 rfl) ?_)))
 refine bQ hf rfl rfl rfl cK (aD (hK1 _ (aC (fun K2 hK2=>(eY bN ?_)))))
 refine bR (listed':=#[true,false,false,false,false,false,false,false,false,false,false,false,false,false,false,false,false,false,false,false]) 0 rfl (by kernel_rfl) (by kernel_rfl) (by kernel_rfl) rfl (fun _ _ h=>h) (qO rfl aJ9 nV rfl) ?_
 refine bR (listed':=#[true,false,false,true,false,false,false,false,false,false,false,false,false,false,false,false,false,false,false,false]) 3 rfl (by kernel_rfl) (by kernel_rfl) (by kernel_rfl) rfl (fun _ _ h=>h) (qO rfl aJ8 rI rfl) ?_
 refine bR (listed':=#[true,false,false,true,false,false,true,false,false,false,false,false,false,false,false,false,false,false,false,false]) 6 rfl (by kernel_rfl) (by kernel_rfl) (by kernel_rfl) rfl (fun _ _ h=>h) (qO rfl aJ7 pR rfl) ?_
 refine bR (listed':=#[true,false,false,true,false,false,true,false,false,true,false,false,false,false,false,false,false,false,false,false]) 9 rfl (by kernel_rfl) (by kernel_rfl) (by kernel_rfl) rfl (fun _ _ h=>h) (qO rfl aJ6 xF rfl) ?_
 refine bC 7 #[true,true,true,true,true,true,true,true,true,true,true,true,true,false,false,false,false,false,false,false] ⟨40,[(1,.ref 1 0 0 0),(2,.ref 2 0 0 0),(6,.sl 4 (s.opn.map seC)),(9,.own 9 2 0 (s.usr.map usC).length),(12,.sl 4 (s.sub.map enC)),(15,.own 15 2 0 (s.tmb.map tmC).length),(16,.ref 1 0 0 2)],[(15,.buf 2 (s.tmb.map tmC)),(9,.buf 2 (s.usr.map usC)),(2,.box [.s (.int .i64 0),.s (.int .i64 0),.s (.slice none 0 0),.s (.slice none 0 0),.s (.slice none 0 0),.s (.slice none 0 0)]),(1,.box (bU s))]⟩ ?_ (fun hD0=>?_)
 ·
  refine aH 13 [] (by kernel_rfl) ⟨?_,trivial⟩
  ·
   refine⟨_,rfl,rfl,(ao rfl (aP hf rfl rfl nV rfl rfl (l1 rfl) (l4 rfl) rfl (aG (aH 14 [] (by kernel_rfl) ⟨?_,trivial⟩))))⟩
   ·
    refine⟨_,rfl,rfl,(ao rfl (aE aA 1 rfl (aG (aH 15 [] (by kernel_rfl) ⟨?_,trivial⟩))))⟩
    ·
     refine⟨_,rfl,rfl,(ao rfl (aP hf rfl rfl rI rfl rfl (l1 rfl) (l4 rfl) rfl (aG (aH 16 [] (by kernel_rfl) ⟨?_,trivial⟩))))⟩
     ·
      refine⟨_,rfl,rfl,(ao rfl (aE aA 1 rfl (aG (aH 17 [] (by kernel_rfl) ⟨?_,trivial⟩))))⟩
      ·
       refine⟨_,rfl,rfl,(ao rfl (aP hf rfl rfl pR rfl rfl (l1 rfl) (l4 rfl) rfl (aG (aH 18 [] (by kernel_rfl) ⟨?_,trivial⟩))))⟩
       ·
        refine⟨_,rfl,rfl,(ao rfl (aE aA 1 rfl (aG (aH 19 [] (by kernel_rfl) ⟨?_,trivial⟩))))⟩
        ·
         refine⟨_,rfl,rfl,(ao rfl (aP hf rfl rfl xF rfl rfl (l1 rfl) (l4 rfl) rfl (aG (bW (by kernel_rfl) ?_))))⟩
         refine hK2 _ (aC (fun K3 hK3=>(aC (fun K4 hK4=>(aB (aE aA 4 rfl (aD (hK4 _ (aO (bS (ι:=Nat) (fun k=>⟨40,[(1,.ref 1 0 0 0),(2,.ref 2 0 0 0),(22,.s (.int .i64 ((s.usr.map usC).length:Nat))),(23,.s (.int .i64 (k:Nat)))],[(15,.buf 2 (s.tmb.map tmC)),(9,.buf 2 (s.usr.map usC)),(2,.box [.s (.int .i64 0),.s (.int .i64 0),.s (.slice none 0 0),.s (.slice none 0 0),.s (.slice none 0 0),.s (.slice none 0 0)]),(1,.box (eK s 9 15))]⟩) (fun k=>k≤s.usr.length) (fun k=>s.usr.length - k) 0 ?_ ?_ ?_))))))))))
         · exact Nat.zero_le _
         · exact dN rfl
         ·
          rintro k hC
          refine aC (fun K5 hK5=>(aB (aE aA 1 rfl (aD (hK5 _ (aC (fun K6 hK6=>(aI rfl (fun hc1=>?_) (fun hc1=>?_)))))))))
          ·
           simp only[bs] at hc1
           refine aL (hK6 _ (aC (fun K7 hK7=>(aO (aC (fun K8 hK8=>(aB ?_)))))))
           have hk:k<s.usr.length:=by omega
           have hlm:(s.usr.map usC).length=s.usr.length:=List.length_map _
           refine aE aA 2 rfl (aD (hK8 _ (iA hf (L:=#[true,true,true,true,true,true,true,true,true,true,true,true,false]) 12 1 bN (by kernel_rfl) rfl (by kernel_rfl) rfl ?_)))
           refine bL aA 6 rfl ?_
           refine bY [(30,_),(31,_)] rfl rfl ⟨⟨rfl,rfl⟩,⟨rfl,rfl⟩,trivial⟩ rfl (bX rfl rfl fH eT (by omega)) ?_
           refine bL aA 1 rfl (bY [(33,_)] rfl rfl ⟨⟨rfl,rfl⟩,trivial⟩ rfl (gR rfl aJ1 rfl ((hJ (by omega) hk 1).trans rfl)) (cA [(34,_)] rfl rfl ⟨⟨rfl,rfl⟩,trivial⟩ rfl (aR rfl rfl vT rfl (cX (vI s.usr[k].2 (hz.y _ (List.getElem_mem hk))))) ?_))
           refine bY [(27,_),(28,_)] rfl rfl ⟨⟨rfl,rfl⟩,⟨rfl,rfl⟩,trivial⟩ rfl (bX rfl rfl fH eT (by omega)) ?_
           refine bL aA 1 rfl (tC [1,2,22,23,35,37] rfl rfl rfl ?_)
           refine aH 12 [] (by kernel_rfl) ⟨?_,trivial⟩
           ·
            refine⟨_,rfl,rfl,(ao rfl (aP hf rfl rfl xE rfl rfl (by simp [AV.cells,AV.one,Value.oneCell']) (by simp [AV.cells,AV.leaf,Value.oneCell']) (gD (c:=2) (k:=k) (f:=1) (enc:=usC) (v:=s.usr[k]) (by omega) (by omega) rfl (Nat.le_of_ble_eq_true rfl)) ?_))⟩
            refine aG (bW (by kernel_rfl) ?_)
            refine hK7 _ (aB ?_)
            refine aF rfl (bJ rfl rfl (by omega) (by omega)) ?_
            refine aE aA 1 rfl (aD ?_)
            exact⟨k+1,by omega,by omega,bT ⟨rfl,rfl,rfl,rfl,trivial⟩ (by rw[List.set_getElem_self]; rfl)⟩
          ·
           simp only[bs] at hc1
           refine bA (hK3 _ (aC (fun K9 hK9=>(aB (aF rfl (bM (cs':=eK s 9 15) rfl pL cW rfl rfl rfl) (aP hf rfl rfl cW rfl rfl (l1 rfl) (l4 rfl) rfl (aD (hK9 _ (aJ ?_)))))))))
           exact⟨_,[(E0,9),(E1,15)],_,Le.refl _,by decide,rfl,rfl,⟨rfl,rfl⟩⟩
 refine bC 8 #[true,true,true,true,true,true,true,true,true,true,true,true,false,false,false,false,false,false,false,false] ⟨40,[(1,.ref 1 0 0 0),(2,.ref 2 0 0 0),(6,.sl 4 (s.opn.map seC)),(9,.own 9 2 0 (s.usr.map usC).length),(12,.sl 4 (s.sub.map enC)),(15,.own 15 2 0 (s.tmb.map tmC).length)],[(15,.buf 2 (s.tmb.map tmC)),(9,.buf 2 (s.usr.map usC)),(2,.box [.s (.int .i64 0),.s (.int .i64 0),.s (.slice none 0 0),.s (.slice none 0 0),.s (.slice none 0 0),.s (.slice none 0 0)]),(1,.box (bU s))]⟩ ?_ (fun hD1=>?_)
 ·
  refine aH 12 [] (by kernel_rfl) ⟨?_,trivial⟩
  ·
   refine⟨_,rfl,rfl,(ao rfl (aE aA 1 rfl (aG (ag hD0 rfl rfl rfl))))⟩
 refine bC 8 #[true,true,true,true,true,true,true,true,true,true,true,false,true,false,false,false,false,false,false,false] ⟨40,[(1,.ref 1 0 0 0),(2,.ref 2 0 0 0),(6,.sl 4 (s.opn.map seC)),(9,.own 9 2 0 (s.usr.map usC).length),(12,.sl 4 (s.sub.map enC)),(14,.sl 2 (s.tmb.map tmC)),(16,.ref 1 0 0 2)],[(9,.buf 2 (s.usr.map usC)),(2,.box [.s (.int .i64 0),.s (.int .i64 0),.s (.slice none 0 0),.s (.slice none 0 0),.s (.slice none 0 0),.s (.slice none 0 0)]),(1,.box (bU s))]⟩ ?_ (fun hD2=>?_)
 ·
  refine aH 11 [] (by kernel_rfl) ⟨?_,trivial⟩
  ·
   refine⟨_,rfl,rfl,(ao rfl (gW hf rfl rfl rfl rfl rfl aDa rfl (aBb s.tmb (by omega)) ?_))⟩
   rintro _ rfl
   refine aG (ag hD0 rfl rfl rfl)
 refine bC 9 #[true,true,true,true,true,true,true,true,true,true,true,false,false,false,false,false,false,false,false,false] ⟨40,[(1,.ref 1 0 0 0),(2,.ref 2 0 0 0),(6,.sl 4 (s.opn.map seC)),(9,.own 9 2 0 (s.usr.map usC).length),(12,.sl 4 (s.sub.map enC)),(14,.sl 2 (s.tmb.map tmC))],[(9,.buf 2 (s.usr.map usC)),(2,.box [.s (.int .i64 0),.s (.int .i64 0),.s (.slice none 0 0),.s (.slice none 0 0),.s (.slice none 0 0),.s (.slice none 0 0)]),(1,.box (bU s))]⟩ ?_ (fun hD3=>?_)
 ·
  refine aH 11 [12] (by kernel_rfl) ⟨?_,?_,trivial⟩
  ·
   refine⟨_,rfl,rfl,(ao rfl (gW hf rfl rfl rfl rfl rfl aDa rfl (aBb s.tmb (by omega)) ?_))⟩
   rintro _ rfl
   refine aG (ag hD1 rfl rfl rfl)
  ·
   refine⟨_,rfl,rfl,(ao rfl (aE aA 1 rfl (aG (ag hD2 rfl rfl rfl))))⟩
 refine bC 9 #[true,true,true,true,true,true,true,true,false,true,true,false,true,false,false,false,false,false,false,false] ⟨40,[(1,.ref 1 0 0 0),(2,.ref 2 0 0 0),(6,.sl 4 (s.opn.map seC)),(9,.own 9 2 0 (s.usr.map usC).length),(11,.sl 4 (s.sub.map enC)),(14,.sl 2 (s.tmb.map tmC)),(16,.ref 1 0 0 2)],[(9,.buf 2 (s.usr.map usC)),(2,.box [.s (.int .i64 0),.s (.int .i64 0),.s (.slice none 0 0),.s (.slice none 0 0),.s (.slice none 0 0),.s (.slice none 0 0)]),(1,.box (bU s))]⟩ ?_ (fun hD4=>?_)
 ·
  refine aH 8 [] (by kernel_rfl) ⟨?_,trivial⟩
  ·
   refine⟨_,rfl,rfl,(ao rfl (aK hf rfl (aR rfl rfl pM rfl (cX (pH s.sub (by omega)))) (aG (ag hD2 rfl rfl rfl))))⟩
 refine bC 10 #[true,true,true,true,true,true,true,true,true,true,false,false,false,false,false,false,false,false,false,false] ⟨40,[(1,.ref 1 0 0 0),(2,.ref 2 0 0 0),(6,.sl 4 (s.opn.map seC)),(9,.own 9 2 0 (s.usr.map usC).length),(12,.sl 4 (s.sub.map enC)),(13,.ref 1 0 0 5)],[(9,.buf 2 (s.usr.map usC)),(2,.box [.s (.int .i64 0),.s (.int .i64 0),.s (.slice none 0 0),.s (.slice none 0 0),.s (.slice none 0 0),.s (.slice none 0 0)]),(1,.box (bU s))]⟩ ?_ (fun hD5=>?_)
 ·
  refine aH 10 [] (by kernel_rfl) ⟨?_,trivial⟩
  ·
   refine⟨_,rfl,rfl,(ao rfl (aE aA 1 rfl (aG (ag hD3 rfl rfl rfl))))⟩
 refine bC 10 #[true,true,true,true,true,true,true,true,false,true,true,false,false,false,false,false,false,false,false,false] ⟨40,[(1,.ref 1 0 0 0),(2,.ref 2 0 0 0),(6,.sl 4 (s.opn.map seC)),(9,.own 9 2 0 (s.usr.map usC).length),(11,.sl 4 (s.sub.map enC)),(14,.sl 2 (s.tmb.map tmC))],[(9,.buf 2 (s.usr.map usC)),(2,.box [.s (.int .i64 0),.s (.int .i64 0),.s (.slice none 0 0),.s (.slice none 0 0),.s (.slice none 0 0),.s (.slice none 0 0)]),(1,.box (bU s))]⟩ ?_ (fun hD6=>?_)
 ·
  refine aH 8 [12] (by kernel_rfl) ⟨?_,?_,trivial⟩
  ·
   refine⟨_,rfl,rfl,(ao rfl (aK hf rfl (aR rfl rfl pM rfl (cX (pH s.sub (by omega)))) (aG (ag hD3 rfl rfl rfl))))⟩
  ·
   refine⟨_,rfl,rfl,(ao rfl (aE aA 1 rfl (aG (ag hD4 rfl rfl rfl))))⟩
 refine bC 10 #[true,true,true,true,true,false,true,true,false,true,true,false,true,false,false,false,false,false,false,false] ⟨40,[(1,.ref 1 0 0 0),(2,.ref 2 0 0 0),(6,.sl 4 (s.opn.map seC)),(8,.sl 2 (s.usr.map usC)),(11,.sl 4 (s.sub.map enC)),(14,.sl 2 (s.tmb.map tmC)),(16,.ref 1 0 0 2)],[(2,.box [.s (.int .i64 0),.s (.int .i64 0),.s (.slice none 0 0),.s (.slice none 0 0),.s (.slice none 0 0),.s (.slice none 0 0)]),(1,.box (bU s))]⟩ ?_ (fun hD7=>?_)
 ·
  refine aH 5 [] (by kernel_rfl) ⟨?_,trivial⟩
  ·
   refine⟨_,rfl,rfl,(ao rfl (gW hf rfl rfl rfl rfl rfl pN rfl (oS s.usr (by omega)) ?_))⟩
   rintro _ rfl
   refine aG (ag hD4 rfl rfl rfl)
 refine bC 11 #[true,true,true,true,true,true,true,true,false,true,false,false,false,false,false,false,false,false,false,false] ⟨40,[(1,.ref 1 0 0 0),(2,.ref 2 0 0 0),(6,.sl 4 (s.opn.map seC)),(9,.own 9 2 0 (s.usr.map usC).length),(11,.sl 4 (s.sub.map enC)),(13,.ref 1 0 0 5)],[(9,.buf 2 (s.usr.map usC)),(2,.box [.s (.int .i64 0),.s (.int .i64 0),.s (.slice none 0 0),.s (.slice none 0 0),.s (.slice none 0 0),.s (.slice none 0 0)]),(1,.box (bU s))]⟩ ?_ (fun hD8=>?_)
 ·
  refine aH 8 [10] (by kernel_rfl) ⟨?_,?_,trivial⟩
  ·
   refine⟨_,rfl,rfl,(ao rfl (aK hf rfl (aR rfl rfl pM rfl (cX (pH s.sub (by omega)))) (aG (ag hD5 rfl rfl rfl))))⟩
  ·
   refine⟨_,rfl,rfl,(ao rfl (aE aA 1 rfl (aG (ag hD6 rfl rfl rfl))))⟩
 refine bC 11 #[true,true,true,true,true,true,true,false,false,true,true,false,false,false,false,false,false,false,false,false] ⟨40,[(1,.ref 1 0 0 0),(2,.ref 2 0 0 0),(6,.sl 4 (s.opn.map seC)),(9,.own 9 2 0 (s.usr.map usC).length),(10,.ref 1 0 0 4),(14,.sl 2 (s.tmb.map tmC))],[(9,.buf 2 (s.usr.map usC)),(2,.box [.s (.int .i64 0),.s (.int .i64 0),.s (.slice none 0 0),.s (.slice none 0 0),.s (.slice none 0 0),.s (.slice none 0 0)]),(1,.box (bU s))]⟩ ?_ (fun hD9=>?_)
 ·
  refine aH 7 [] (by kernel_rfl) ⟨?_,trivial⟩
  ·
   refine⟨_,rfl,rfl,(ao rfl (aE aA 1 rfl (aG (ag hD6 rfl rfl rfl))))⟩
 refine bC 11 #[true,true,true,true,true,false,true,true,false,true,true,false,false,false,false,false,false,false,false,false] ⟨40,[(1,.ref 1 0 0 0),(2,.ref 2 0 0 0),(6,.sl 4 (s.opn.map seC)),(8,.sl 2 (s.usr.map usC)),(11,.sl 4 (s.sub.map enC)),(14,.sl 2 (s.tmb.map tmC))],[(2,.box [.s (.int .i64 0),.s (.int .i64 0),.s (.slice none 0 0),.s (.slice none 0 0),.s (.slice none 0 0),.s (.slice none 0 0)]),(1,.box (bU s))]⟩ ?_ (fun hD10=>?_)
 ·
  refine aH 5 [12] (by kernel_rfl) ⟨?_,?_,trivial⟩
  ·
   refine⟨_,rfl,rfl,(ao rfl (gW hf rfl rfl rfl rfl rfl pN rfl (oS s.usr (by omega)) ?_))⟩
   rintro _ rfl
   refine aG (ag hD6 rfl rfl rfl)
  ·
   refine⟨_,rfl,rfl,(ao rfl (aE aA 1 rfl (aG (ag hD7 rfl rfl rfl))))⟩
 refine bC 12 #[true,true,true,true,true,true,true,false,false,true,false,false,false,false,false,false,false,false,false,false] ⟨40,[(1,.ref 1 0 0 0),(2,.ref 2 0 0 0),(6,.sl 4 (s.opn.map seC)),(9,.own 9 2 0 (s.usr.map usC).length),(10,.ref 1 0 0 4),(13,.ref 1 0 0 5)],[(9,.buf 2 (s.usr.map usC)),(2,.box [.s (.int .i64 0),.s (.int .i64 0),.s (.slice none 0 0),.s (.slice none 0 0),.s (.slice none 0 0),.s (.slice none 0 0)]),(1,.box (bU s))]⟩ ?_ (fun hD11=>?_)
 ·
  refine aH 7 [10] (by kernel_rfl) ⟨?_,?_,trivial⟩
  ·
   refine⟨_,rfl,rfl,(ao rfl (aE aA 1 rfl (aG (ag hD8 rfl rfl rfl))))⟩
  ·
   refine⟨_,rfl,rfl,(ao rfl (aE aA 1 rfl (aG (ag hD9 rfl rfl rfl))))⟩
 refine bC 12 #[true,true,true,true,true,false,true,true,false,true,false,false,false,false,false,false,false,false,false,false] ⟨40,[(1,.ref 1 0 0 0),(2,.ref 2 0 0 0),(6,.sl 4 (s.opn.map seC)),(8,.sl 2 (s.usr.map usC)),(11,.sl 4 (s.sub.map enC)),(13,.ref 1 0 0 5)],[(2,.box [.s (.int .i64 0),.s (.int .i64 0),.s (.slice none 0 0),.s (.slice none 0 0),.s (.slice none 0 0),.s (.slice none 0 0)]),(1,.box (bU s))]⟩ ?_ (fun hD12=>?_)
 ·
  refine aH 5 [10] (by kernel_rfl) ⟨?_,?_,trivial⟩
  ·
   refine⟨_,rfl,rfl,(ao rfl (gW hf rfl rfl rfl rfl rfl pN rfl (oS s.usr (by omega)) ?_))⟩
   rintro _ rfl
   refine aG (ag hD8 rfl rfl rfl)
  ·
   refine⟨_,rfl,rfl,(ao rfl (aE aA 1 rfl (aG (ag hD10 rfl rfl rfl))))⟩
 refine bC 12 #[true,true,true,true,true,false,true,false,false,true,true,false,false,false,false,false,false,false,false,false] ⟨40,[(1,.ref 1 0 0 0),(2,.ref 2 0 0 0),(6,.sl 4 (s.opn.map seC)),(8,.sl 2 (s.usr.map usC)),(10,.ref 1 0 0 4),(14,.sl 2 (s.tmb.map tmC))],[(2,.box [.s (.int .i64 0),.s (.int .i64 0),.s (.slice none 0 0),.s (.slice none 0 0),.s (.slice none 0 0),.s (.slice none 0 0)]),(1,.box (bU s))]⟩ ?_ (fun hD13=>?_)
 ·
  refine aH 5 [7] (by kernel_rfl) ⟨?_,?_,trivial⟩
  ·
   refine⟨_,rfl,rfl,(ao rfl (gW hf rfl rfl rfl rfl rfl pN rfl (oS s.usr (by omega)) ?_))⟩
   rintro _ rfl
   refine aG (ag hD9 rfl rfl rfl)
  ·
   refine⟨_,rfl,rfl,(ao rfl (aE aA 1 rfl (aG (ag hD10 rfl rfl rfl))))⟩
 refine bC 12 #[true,true,true,true,false,false,true,true,false,true,true,false,false,false,false,false,false,false,false,false] ⟨40,[(1,.ref 1 0 0 0),(2,.ref 2 0 0 0),(6,.sl 4 (s.opn.map seC)),(7,.ref 1 0 0 3),(11,.sl 4 (s.sub.map enC)),(14,.sl 2 (s.tmb.map tmC))],[(2,.box [.s (.int .i64 0),.s (.int .i64 0),.s (.slice none 0 0),.s (.slice none 0 0),.s (.slice none 0 0),.s (.slice none 0 0)]),(1,.box (bU s))]⟩ ?_ (fun hD14=>?_)
 ·
  refine aH 4 [] (by kernel_rfl) ⟨?_,trivial⟩
  ·
   refine⟨_,rfl,rfl,(ao rfl (aE aA 1 rfl (aG (ag hD10 rfl rfl rfl))))⟩
 refine bC 12 #[true,true,false,true,true,false,true,true,false,true,true,false,false,false,false,false,false,false,false,false] ⟨40,[(1,.ref 1 0 0 0),(2,.ref 2 0 0 0),(5,.sl 4 (s.opn.map seC)),(8,.sl 2 (s.usr.map usC)),(11,.sl 4 (s.sub.map enC)),(14,.sl 2 (s.tmb.map tmC))],[(2,.box [.s (.int .i64 0),.s (.int .i64 0),.s (.slice none 0 0),.s (.slice none 0 0),.s (.slice none 0 0),.s (.slice none 0 0)]),(1,.box (bU s))]⟩ ?_ (fun hD15=>?_)
 ·
  refine aH 2 [] (by kernel_rfl) ⟨?_,trivial⟩
  ·
   refine⟨_,rfl,rfl,(ao rfl (aK hf rfl (aR rfl rfl iO rfl (cX (iI s.opn (by omega)))) (aG (ag hD10 rfl rfl rfl))))⟩
 refine bC 13 #[true,true,true,true,true,false,true,false,false,true,false,false,false,false,false,false,false,false,false,false] ⟨40,[(1,.ref 1 0 0 0),(2,.ref 2 0 0 0),(6,.sl 4 (s.opn.map seC)),(8,.sl 2 (s.usr.map usC)),(10,.ref 1 0 0 4),(13,.ref 1 0 0 5)],[(2,.box [.s (.int .i64 0),.s (.int .i64 0),.s (.slice none 0 0),.s (.slice none 0 0),.s (.slice none 0 0),.s (.slice none 0 0)]),(1,.box (bU s))]⟩ ?_ (fun hD16=>?_)
 ·
  refine aH 5 [7,10] (by kernel_rfl) ⟨?_,?_,?_,trivial⟩
  ·
   refine⟨_,rfl,rfl,(ao rfl (gW hf rfl rfl rfl rfl rfl pN rfl (oS s.usr (by omega)) ?_))⟩
   rintro _ rfl
   refine aG (ag hD11 rfl rfl rfl)
  ·
   refine⟨_,rfl,rfl,(ao rfl (aE aA 1 rfl (aG (ag hD12 rfl rfl rfl))))⟩
  ·
   refine⟨_,rfl,rfl,(ao rfl (aE aA 1 rfl (aG (ag hD13 rfl rfl rfl))))⟩
 refine bC 13 #[true,true,true,true,false,false,true,true,false,true,false,false,false,false,false,false,false,false,false,false] ⟨40,[(1,.ref 1 0 0 0),(2,.ref 2 0 0 0),(6,.sl 4 (s.opn.map seC)),(7,.ref 1 0 0 3),(11,.sl 4 (s.sub.map enC)),(13,.ref 1 0 0 5)],[(2,.box [.s (.int .i64 0),.s (.int .i64 0),.s (.slice none 0 0),.s (.slice none 0 0),.s (.slice none 0 0),.s (.slice none 0 0)]),(1,.box (bU s))]⟩ ?_ (fun hD17=>?_)
 ·
  refine aH 4 [10] (by kernel_rfl) ⟨?_,?_,trivial⟩
  ·
   refine⟨_,rfl,rfl,(ao rfl (aE aA 1 rfl (aG (ag hD12 rfl rfl rfl))))⟩
  ·
   refine⟨_,rfl,rfl,(ao rfl (aE aA 1 rfl (aG (ag hD14 rfl rfl rfl))))⟩
 refine bC 13 #[true,true,true,true,false,false,true,false,false,true,true,false,false,false,false,false,false,false,false,false] ⟨40,[(1,.ref 1 0 0 0),(2,.ref 2 0 0 0),(6,.sl 4 (s.opn.map seC)),(7,.ref 1 0 0 3),(10,.ref 1 0 0 4),(14,.sl 2 (s.tmb.map tmC))],[(2,.box [.s (.int .i64 0),.s (.int .i64 0),.s (.slice none 0 0),.s (.slice none 0 0),.s (.slice none 0 0),.s (.slice none 0 0)]),(1,.box (bU s))]⟩ ?_ (fun hD18=>?_)
 ·
  refine aH 4 [7] (by kernel_rfl) ⟨?_,?_,trivial⟩
  ·
   refine⟨_,rfl,rfl,(ao rfl (aE aA 1 rfl (aG (ag hD13 rfl rfl rfl))))⟩
  ·
   refine⟨_,rfl,rfl,(ao rfl (aE aA 1 rfl (aG (ag hD14 rfl rfl rfl))))⟩
 refine bC 13 #[true,true,false,true,true,false,true,true,false,true,false,false,false,false,false,false,false,false,false,false] ⟨40,[(1,.ref 1 0 0 0),(2,.ref 2 0 0 0),(5,.sl 4 (s.opn.map seC)),(8,.sl 2 (s.usr.map usC)),(11,.sl 4 (s.sub.map enC)),(13,.ref 1 0 0 5)],[(2,.box [.s (.int .i64 0),.s (.int .i64 0),.s (.slice none 0 0),.s (.slice none 0 0),.s (.slice none 0 0),.s (.slice none 0 0)]),(1,.box (bU s))]⟩ ?_ (fun hD19=>?_)
 ·
  refine aH 2 [10] (by kernel_rfl) ⟨?_,?_,trivial⟩
  ·
   refine⟨_,rfl,rfl,(ao rfl (aK hf rfl (aR rfl rfl iO rfl (cX (iI s.opn (by omega)))) (aG (ag hD12 rfl rfl rfl))))⟩
  ·
   refine⟨_,rfl,rfl,(ao rfl (aE aA 1 rfl (aG (ag hD15 rfl rfl rfl))))⟩
 refine bC 13 #[true,true,false,true,true,false,true,false,false,true,true,false,false,false,false,false,false,false,false,false] ⟨40,[(1,.ref 1 0 0 0),(2,.ref 2 0 0 0),(5,.sl 4 (s.opn.map seC)),(8,.sl 2 (s.usr.map usC)),(10,.ref 1 0 0 4),(14,.sl 2 (s.tmb.map tmC))],[(2,.box [.s (.int .i64 0),.s (.int .i64 0),.s (.slice none 0 0),.s (.slice none 0 0),.s (.slice none 0 0),.s (.slice none 0 0)]),(1,.box (bU s))]⟩ ?_ (fun hD20=>?_)
 ·
  refine aH 2 [7] (by kernel_rfl) ⟨?_,?_,trivial⟩
  ·
   refine⟨_,rfl,rfl,(ao rfl (aK hf rfl (aR rfl rfl iO rfl (cX (iI s.opn (by omega)))) (aG (ag hD13 rfl rfl rfl))))⟩
  ·
   refine⟨_,rfl,rfl,(ao rfl (aE aA 1 rfl (aG (ag hD15 rfl rfl rfl))))⟩
 refine bC 13 #[true,true,false,true,false,false,true,true,false,true,true,false,false,false,false,false,false,false,false,false] ⟨40,[(1,.ref 1 0 0 0),(2,.ref 2 0 0 0),(5,.sl 4 (s.opn.map seC)),(7,.ref 1 0 0 3),(11,.sl 4 (s.sub.map enC)),(14,.sl 2 (s.tmb.map tmC))],[(2,.box [.s (.int .i64 0),.s (.int .i64 0),.s (.slice none 0 0),.s (.slice none 0 0),.s (.slice none 0 0),.s (.slice none 0 0)]),(1,.box (bU s))]⟩ ?_ (fun hD21=>?_)
 ·
  refine aH 2 [4] (by kernel_rfl) ⟨?_,?_,trivial⟩
  ·
   refine⟨_,rfl,rfl,(ao rfl (aK hf rfl (aR rfl rfl iO rfl (cX (iI s.opn (by omega)))) (aG (ag hD14 rfl rfl rfl))))⟩
  ·
   refine⟨_,rfl,rfl,(ao rfl (aE aA 1 rfl (aG (ag hD15 rfl rfl rfl))))⟩
 refine bC 13 #[true,false,false,true,true,false,true,true,false,true,true,false,false,false,false,false,false,false,false,false] ⟨40,[(1,.ref 1 0 0 0),(2,.ref 2 0 0 0),(4,.ref 1 0 0 2),(8,.sl 2 (s.usr.map usC)),(11,.sl 4 (s.sub.map enC)),(14,.sl 2 (s.tmb.map tmC))],[(2,.box [.s (.int .i64 0),.s (.int .i64 0),.s (.slice none 0 0),.s (.slice none 0 0),.s (.slice none 0 0),.s (.slice none 0 0)]),(1,.box (bU s))]⟩ ?_ (fun hD22=>?_)
 ·
  refine aH 1 [] (by kernel_rfl) ⟨?_,trivial⟩
  ·
   refine⟨_,rfl,rfl,(ao rfl (aE aA 1 rfl (aG (ag hD15 rfl rfl rfl))))⟩
 refine bC 14 #[true,true,true,true,false,false,true,false,false,true,false,false,false,false,false,false,false,false,false,false] ⟨40,[(1,.ref 1 0 0 0),(2,.ref 2 0 0 0),(6,.sl 4 (s.opn.map seC)),(7,.ref 1 0 0 3),(10,.ref 1 0 0 4),(13,.ref 1 0 0 5)],[(2,.box [.s (.int .i64 0),.s (.int .i64 0),.s (.slice none 0 0),.s (.slice none 0 0),.s (.slice none 0 0),.s (.slice none 0 0)]),(1,.box (bU s))]⟩ ?_ (fun hD23=>?_)
 ·
  refine aH 4 [7,10] (by kernel_rfl) ⟨?_,?_,?_,trivial⟩
  ·
   refine⟨_,rfl,rfl,(ao rfl (aE aA 1 rfl (aG (ag hD16 rfl rfl rfl))))⟩
  ·
   refine⟨_,rfl,rfl,(ao rfl (aE aA 1 rfl (aG (ag hD17 rfl rfl rfl))))⟩
  ·
   refine⟨_,rfl,rfl,(ao rfl (aE aA 1 rfl (aG (ag hD18 rfl rfl rfl))))⟩
 refine bC 14 #[true,true,false,true,true,false,true,false,false,true,false,false,false,false,false,false,false,false,false,false] ⟨40,[(1,.ref 1 0 0 0),(2,.ref 2 0 0 0),(5,.sl 4 (s.opn.map seC)),(8,.sl 2 (s.usr.map usC)),(10,.ref 1 0 0 4),(13,.ref 1 0 0 5)],[(2,.box [.s (.int .i64 0),.s (.int .i64 0),.s (.slice none 0 0),.s (.slice none 0 0),.s (.slice none 0 0),.s (.slice none 0 0)]),(1,.box (bU s))]⟩ ?_ (fun hD24=>?_)
 ·
  refine aH 2 [7,10] (by kernel_rfl) ⟨?_,?_,?_,trivial⟩
  ·
   refine⟨_,rfl,rfl,(ao rfl (aK hf rfl (aR rfl rfl iO rfl (cX (iI s.opn (by omega)))) (aG (ag hD16 rfl rfl rfl))))⟩
  ·
   refine⟨_,rfl,rfl,(ao rfl (aE aA 1 rfl (aG (ag hD19 rfl rfl rfl))))⟩
  ·
   refine⟨_,rfl,rfl,(ao rfl (aE aA 1 rfl (aG (ag hD20 rfl rfl rfl))))⟩
 refine bC 14 #[true,true,false,true,false,false,true,true,false,true,false,false,false,false,false,false,false,false,false,false] ⟨40,[(1,.ref 1 0 0 0),(2,.ref 2 0 0 0),(5,.sl 4 (s.opn.map seC)),(7,.ref 1 0 0 3),(11,.sl 4 (s.sub.map enC)),(13,.ref 1 0 0 5)],[(2,.box [.s (.int .i64 0),.s (.int .i64 0),.s (.slice none 0 0),.s (.slice none 0 0),.s (.slice none 0 0),.s (.slice none 0 0)]),(1,.box (bU s))]⟩ ?_ (fun hD25=>?_)
 ·
  refine aH 2 [4,10] (by kernel_rfl) ⟨?_,?_,?_,trivial⟩
  ·
   refine⟨_,rfl,rfl,(ao rfl (aK hf rfl (aR rfl rfl iO rfl (cX (iI s.opn (by omega)))) (aG (ag hD17 rfl rfl rfl))))⟩
  ·
   refine⟨_,rfl,rfl,(ao rfl (aE aA 1 rfl (aG (ag hD19 rfl rfl rfl))))⟩
  ·
   refine⟨_,rfl,rfl,(ao rfl (aE aA 1 rfl (aG (ag hD21 rfl rfl rfl))))⟩
 refine bC 14 #[true,true,false,true,false,false,true,false,false,true,true,false,false,false,false,false,false,false,false,false] ⟨40,[(1,.ref 1 0 0 0),(2,.ref 2 0 0 0),(5,.sl 4 (s.opn.map seC)),(7,.ref 1 0 0 3),(10,.ref 1 0 0 4),(14,.sl 2 (s.tmb.map tmC))],[(2,.box [.s (.int .i64 0),.s (.int .i64 0),.s (.slice none 0 0),.s (.slice none 0 0),.s (.slice none 0 0),.s (.slice none 0 0)]),(1,.box (bU s))]⟩ ?_ (fun hD26=>?_)
 ·
  refine aH 2 [4,7] (by kernel_rfl) ⟨?_,?_,?_,trivial⟩
  ·
   refine⟨_,rfl,rfl,(ao rfl (aK hf rfl (aR rfl rfl iO rfl (cX (iI s.opn (by omega)))) (aG (ag hD18 rfl rfl rfl))))⟩
  ·
   refine⟨_,rfl,rfl,(ao rfl (aE aA 1 rfl (aG (ag hD20 rfl rfl rfl))))⟩
  ·
   refine⟨_,rfl,rfl,(ao rfl (aE aA 1 rfl (aG (ag hD21 rfl rfl rfl))))⟩
 refine bC 14 #[true,false,false,true,true,false,true,true,false,true,false,false,false,false,false,false,false,false,false,false] ⟨40,[(1,.ref 1 0 0 0),(2,.ref 2 0 0 0),(4,.ref 1 0 0 2),(8,.sl 2 (s.usr.map usC)),(11,.sl 4 (s.sub.map enC)),(13,.ref 1 0 0 5)],[(2,.box [.s (.int .i64 0),.s (.int .i64 0),.s (.slice none 0 0),.s (.slice none 0 0),.s (.slice none 0 0),.s (.slice none 0 0)]),(1,.box (bU s))]⟩ ?_ (fun hD27=>?_)
 ·
  refine aH 1 [10] (by kernel_rfl) ⟨?_,?_,trivial⟩
  ·
   refine⟨_,rfl,rfl,(ao rfl (aE aA 1 rfl (aG (ag hD19 rfl rfl rfl))))⟩
  ·
   refine⟨_,rfl,rfl,(ao rfl (aE aA 1 rfl (aG (ag hD22 rfl rfl rfl))))⟩
 refine bC 14 #[true,false,false,true,true,false,true,false,false,true,true,false,false,false,false,false,false,false,false,false] ⟨40,[(1,.ref 1 0 0 0),(2,.ref 2 0 0 0),(4,.ref 1 0 0 2),(8,.sl 2 (s.usr.map usC)),(10,.ref 1 0 0 4),(14,.sl 2 (s.tmb.map tmC))],[(2,.box [.s (.int .i64 0),.s (.int .i64 0),.s (.slice none 0 0),.s (.slice none 0 0),.s (.slice none 0 0),.s (.slice none 0 0)]),(1,.box (bU s))]⟩ ?_ (fun hD28=>?_)
 ·
  refine aH 1 [7] (by kernel_rfl) ⟨?_,?_,trivial⟩
  ·
   refine⟨_,rfl,rfl,(ao rfl (aE aA 1 rfl (aG (ag hD20 rfl rfl rfl))))⟩
  ·
   refine⟨_,rfl,rfl,(ao rfl (aE aA 1 rfl (aG (ag hD22 rfl rfl rfl))))⟩
 refine bC 14 #[true,false,false,true,false,false,true,true,false,true,true,false,false,false,false,false,false,false,false,false] ⟨40,[(1,.ref 1 0 0 0),(2,.ref 2 0 0 0),(4,.ref 1 0 0 2),(7,.ref 1 0 0 3),(11,.sl 4 (s.sub.map enC)),(14,.sl 2 (s.tmb.map tmC))],[(2,.box [.s (.int .i64 0),.s (.int .i64 0),.s (.slice none 0 0),.s (.slice none 0 0),.s (.slice none 0 0),.s (.slice none 0 0)]),(1,.box (bU s))]⟩ ?_ (fun hD29=>?_)
 ·
  refine aH 1 [4] (by kernel_rfl) ⟨?_,?_,trivial⟩
  ·
   refine⟨_,rfl,rfl,(ao rfl (aE aA 1 rfl (aG (ag hD21 rfl rfl rfl))))⟩
  ·
   refine⟨_,rfl,rfl,(ao rfl (aE aA 1 rfl (aG (ag hD22 rfl rfl rfl))))⟩
 refine bC 15 #[true,true,false,true,false,false,true,false,false,true,false,false,false,false,false,false,false,false,false,false] ⟨40,[(1,.ref 1 0 0 0),(2,.ref 2 0 0 0),(5,.sl 4 (s.opn.map seC)),(7,.ref 1 0 0 3),(10,.ref 1 0 0 4),(13,.ref 1 0 0 5)],[(2,.box [.s (.int .i64 0),.s (.int .i64 0),.s (.slice none 0 0),.s (.slice none 0 0),.s (.slice none 0 0),.s (.slice none 0 0)]),(1,.box (bU s))]⟩ ?_ (fun hD30=>?_)
 ·
  refine aH 2 [4,7,10] (by kernel_rfl) ⟨?_,?_,?_,?_,trivial⟩
  ·
   refine⟨_,rfl,rfl,(ao rfl (aK hf rfl (aR rfl rfl iO rfl (cX (iI s.opn (by omega)))) (aG (ag hD23 rfl rfl rfl))))⟩
  ·
   refine⟨_,rfl,rfl,(ao rfl (aE aA 1 rfl (aG (ag hD24 rfl rfl rfl))))⟩
  ·
   refine⟨_,rfl,rfl,(ao rfl (aE aA 1 rfl (aG (ag hD25 rfl rfl rfl))))⟩
  ·
   refine⟨_,rfl,rfl,(ao rfl (aE aA 1 rfl (aG (ag hD26 rfl rfl rfl))))⟩
 refine bC 15 #[true,false,false,true,true,false,true,false,false,true,false,false,false,false,false,false,false,false,false,false] ⟨40,[(1,.ref 1 0 0 0),(2,.ref 2 0 0 0),(4,.ref 1 0 0 2),(8,.sl 2 (s.usr.map usC)),(10,.ref 1 0 0 4),(13,.ref 1 0 0 5)],[(2,.box [.s (.int .i64 0),.s (.int .i64 0),.s (.slice none 0 0),.s (.slice none 0 0),.s (.slice none 0 0),.s (.slice none 0 0)]),(1,.box (bU s))]⟩ ?_ (fun hD31=>?_)
 ·
  refine aH 1 [7,10] (by kernel_rfl) ⟨?_,?_,?_,trivial⟩
  ·
   refine⟨_,rfl,rfl,(ao rfl (aE aA 1 rfl (aG (ag hD24 rfl rfl rfl))))⟩
  ·
   refine⟨_,rfl,rfl,(ao rfl (aE aA 1 rfl (aG (ag hD27 rfl rfl rfl))))⟩
  ·
   refine⟨_,rfl,rfl,(ao rfl (aE aA 1 rfl (aG (ag hD28 rfl rfl rfl))))⟩
 refine bC 15 #[true,false,false,true,false,false,true,true,false,true,false,false,false,false,false,false,false,false,false,false] ⟨40,[(1,.ref 1 0 0 0),(2,.ref 2 0 0 0),(4,.ref 1 0 0 2),(7,.ref 1 0 0 3),(11,.sl 4 (s.sub.map enC)),(13,.ref 1 0 0 5)],[(2,.box [.s (.int .i64 0),.s (.int .i64 0),.s (.slice none 0 0),.s (.slice none 0 0),.s (.slice none 0 0),.s (.slice none 0 0)]),(1,.box (bU s))]⟩ ?_ (fun hD32=>?_)
 ·
  refine aH 1 [4,10] (by kernel_rfl) ⟨?_,?_,?_,trivial⟩
  ·
   refine⟨_,rfl,rfl,(ao rfl (aE aA 1 rfl (aG (ag hD25 rfl rfl rfl))))⟩
  ·
   refine⟨_,rfl,rfl,(ao rfl (aE aA 1 rfl (aG (ag hD27 rfl rfl rfl))))⟩
  ·
   refine⟨_,rfl,rfl,(ao rfl (aE aA 1 rfl (aG (ag hD29 rfl rfl rfl))))⟩
 refine bC 15 #[true,false,false,true,false,false,true,false,false,true,true,false,false,false,false,false,false,false,false,false] ⟨40,[(1,.ref 1 0 0 0),(2,.ref 2 0 0 0),(4,.ref 1 0 0 2),(7,.ref 1 0 0 3),(10,.ref 1 0 0 4),(14,.sl 2 (s.tmb.map tmC))],[(2,.box [.s (.int .i64 0),.s (.int .i64 0),.s (.slice none 0 0),.s (.slice none 0 0),.s (.slice none 0 0),.s (.slice none 0 0)]),(1,.box (bU s))]⟩ ?_ (fun hD33=>?_)
 ·
  refine aH 1 [4,7] (by kernel_rfl) ⟨?_,?_,?_,trivial⟩
  ·
   refine⟨_,rfl,rfl,(ao rfl (aE aA 1 rfl (aG (ag hD26 rfl rfl rfl))))⟩
  ·
   refine⟨_,rfl,rfl,(ao rfl (aE aA 1 rfl (aG (ag hD28 rfl rfl rfl))))⟩
  ·
   refine⟨_,rfl,rfl,(ao rfl (aE aA 1 rfl (aG (ag hD29 rfl rfl rfl))))⟩
 refine lD (aCc (sl':=[(1,.ref 1 0 0 0),(2,.ref 2 0 0 0),(4,.ref 1 0 0 2),(7,.ref 1 0 0 3),(10,.ref 1 0 0 4),(13,.ref 1 0 0 5)]) (m':=[(2,.box [.s (.int .i64 0),.s (.int .i64 0),.s (.slice none 0 0),.s (.slice none 0 0),.s (.slice none 0 0),.s (.slice none 0 0)]),(1,.box (bU s))]) rfl rfl rfl) (aH 1 [4,7,10] (by kernel_rfl) ⟨?_,?_,?_,?_,trivial⟩)
 ·
  refine⟨_,rfl,rfl,(ao rfl (aE aA 1 rfl (aG (ag hD30 rfl rfl rfl))))⟩
 ·
  refine⟨_,rfl,rfl,(ao rfl (aE aA 1 rfl (aG (ag hD31 rfl rfl rfl))))⟩
 ·
  refine⟨_,rfl,rfl,(ao rfl (aE aA 1 rfl (aG (ag hD32 rfl rfl rfl))))⟩
 ·
  refine⟨_,rfl,rfl,(ao rfl (aE aA 1 rfl (aG (ag hD33 rfl rfl rfl))))⟩
end Go.Proofs.YtijnkglkchhomaaGreat
set_option linter.unusedVariables false
set_option linter.unusedSimpArgs false
namespace Go.Proofs.YtijnkglkchhomaaGreat
open Go Go.Abs
theorem aC6 (l:List bP) (s:bP) (hl:l.length*32+32≤140737488355328) :Den Tryz.prog 71 [.sl 4 (l.map stC),.agg (stC s)]  (·=.sl 4 ((iC l s).map stC)):=by
 refine aS Tryz.func71 rfl (Nat.le_of_ble_eq_true rfl) (fun w0 A hf=>(aC (fun K1 hK1=>(aB (aK hf rfl (cL rfl rfl (lf rfl)) (aF rfl (bE) (aD (hK1 _ (aC (fun K2 hK2=>(aC (fun K3 hK3=>(aB (aE aA 2 rfl (aK hf rfl (aR rfl rfl nU rfl (sX s.1)) (aD ?_))))))))))))))))
 refine hK3 _ (aI rfl (fun hc1=>?_) (fun hc1=>?_))
 ·
  simp only[bs] at hc1
  refine aC (fun K4 hK4=>(aB (aE aA 1 rfl (aK hf rfl (aR rfl rfl vT rfl (cX (vI _ (by omega)))) (aE aA 1 rfl (aD (hK4 _ (aJ ?_))))))))
  refine⟨_,rfl,?_⟩
  rw[iC,if_pos (by assumption)]; rfl
 ·
  simp only[bs] at hc1
  refine aL (hK2 _ (aC (fun K5 hK5=>(aB (aE aA 3 rfl (aD (hK5 _ (aC (fun K6 hK6=>(aO (bS (ι:=Nat) (fun k=>⟨37,[(0,.sl 4 (l.map stC)),(3,.adr (stC s)),(5,.s (.int .i64 (k:Nat)))],[]⟩) (fun k=>k≤l.length∧∀ (j:Nat) (hj:j<l.length),k≤j→0<iP l[j] s) (fun k=>k) l.length ?_ ?_ ?_)))))))))))
  · exact⟨Nat.le_refl _,by omega⟩
  · exact bT ⟨rfl,rfl,aM (by rw[List.length_map]),trivial⟩ rfl
  ·
   rintro k hC
   obtain ⟨h1,h2⟩:=hC
   refine aC (fun K7 hK7=>(aC (fun K8 hK8=>(eQ hf bN (by kernel_rfl) rfl (bL aA 3 rfl (rZ 15 true rfl (fun hg2=>?_) (fun hg2=>?_)))))))
   ·
    simp only[bs] at hg2
    refine bL aA 2 rfl ?_
    refine bY [(17,_)] rfl rfl ⟨⟨rfl,rfl⟩,trivial⟩ rfl (fE rfl rfl (by omega) (by omega)) ?_
    refine bY [(16,_),(18,_)] rfl rfl ⟨⟨rfl,rfl⟩,⟨rfl,rfl⟩,trivial⟩ rfl (aW rfl rfl cG aX (hP (k:=k - 1) (by omega) (by omega))) (bL aA 2 rfl (cA [(20,_),(21,_)] rfl rfl ⟨⟨rfl,rfl⟩,⟨rfl,rfl⟩,trivial⟩ rfl (aR rfl rfl zQ rfl (aJo l[k - 1] s)) (bL aA 2 rfl (gE [0,3,5,24] rfl rfl rfl (hK8 _ (aI rfl (fun hc3=>?_) (fun hc3=>?_)))))))
    ·
     simp only[bs] at hc3
     refine aL (hK7 _ (aO (aB (aE aA 1 rfl ?_))))
     refine aF rfl (fE rfl rfl (by omega) (by omega)) ?_
     refine aE aA 1 rfl ?_
     refine bB ?_
     exact⟨k - 1,⟨by omega,fun j hj hkj=>by
      by_cases e:j=k - 1
      · subst e; assumption
      · exact h2 j hj (by omega)⟩,by omega,bT ⟨rfl,rfl,aM (by omega),trivial⟩ rfl⟩
    ·
     simp only[bs] at hc3
     refine bA (hK6 _ (aC (fun K9 hK9=>(eQ hf bN (by kernel_rfl) rfl ?_))))
     have hins:=aAw s l k (by omega) h2 (fun h0 h=>by omega)
     refine bL aA 2 rfl (bY [(27,_),(28,_)] rfl rfl ⟨⟨rfl,rfl⟩,⟨rfl,rfl⟩,trivial⟩ rfl (cY rfl cG aX rfl (iZ rfl (by omega)) (by omega) (by simp only[List.length_map,Int.toNat_natCast] <;> omega) (iW (k:=k) (by omega))) ?_)
     refine bL aA 1 rfl (cA [(30,_)] rfl rfl ⟨⟨rfl,rfl⟩,trivial⟩ rfl (aN kV rfl rfl rfl rfl (l2 rfl)) (bL aA 2 rfl (bY [(32,_),(33,_)] rfl rfl ⟨⟨rfl,rfl⟩,⟨rfl,rfl⟩,trivial⟩ rfl (cY rfl cG aX (iZ rfl (by omega)) rfl (by simp only[List.length_map,Int.toNat_natCast] <;> omega) (by omega) (fT (k:=k) (by omega))) ?_)))
     refine cA [(29,_),(31,_),(34,_)] rfl rfl ⟨⟨rfl,rfl⟩,⟨rfl,rfl⟩,⟨rfl,rfl⟩,trivial⟩ rfl (aN aDl rfl rfl rfl rfl (l2 rfl)) (cA [(35,_)] rfl rfl ⟨⟨rfl,rfl⟩,trivial⟩ rfl (aR rfl rfl zP rfl ((show Den Tryz.prog _ _ (·=.sl 4 ((l.take k++s::l.drop k).map stC)) from (cX (yM [l.take k,[s],l.drop k] (by simp) (by simp only[List.flatten_cons,List.flatten_nil,List.length_append,List.length_take,List.length_drop,List.length_cons,List.length_nil]; omega))).mono fun r h=>h.trans (by simp)))) ?_)
     refine bL aA 1 rfl (gE [4] rfl rfl rfl (hK9 _ (aJ ?_)))
     refine⟨_,rfl,?_⟩
     rw[iC,if_neg (by omega),hins]; rfl
   ·
    simp only[bs] at hg2
    refine bL aA 9 rfl (gE [0,3,5,24] rfl rfl rfl (hK8 _ (bD rfl (bA (hK6 _ (aC (fun K10 hK10=>(eQ hf bN (by kernel_rfl) rfl ?_))))))))
    have hins:=aAw s l k (by omega) h2 (fun h0 h=>by omega)
    refine bL aA 2 rfl (bY [(27,_),(28,_)] rfl rfl ⟨⟨rfl,rfl⟩,⟨rfl,rfl⟩,trivial⟩ rfl (cY rfl cG aX rfl (iZ rfl (by omega)) (by omega) (by simp only[List.length_map,Int.toNat_natCast] <;> omega) (iW (k:=k) (by omega))) ?_)
    refine bL aA 1 rfl (cA [(30,_)] rfl rfl ⟨⟨rfl,rfl⟩,trivial⟩ rfl (aN kV rfl rfl rfl rfl (l2 rfl)) (bL aA 2 rfl (bY [(32,_),(33,_)] rfl rfl ⟨⟨rfl,rfl⟩,⟨rfl,rfl⟩,trivial⟩ rfl (cY rfl cG aX (iZ rfl (by omega)) rfl (by simp only[List.length_map,Int.toNat_natCast] <;> omega) (by omega) (fT (k:=k) (by omega))) ?_)))
    refine cA [(29,_),(31,_),(34,_)] rfl rfl ⟨⟨rfl,rfl⟩,⟨rfl,rfl⟩,⟨rfl,rfl⟩,trivial⟩ rfl (aN aDl rfl rfl rfl rfl (l2 rfl)) (cA [(35,_)] rfl rfl ⟨⟨rfl,rfl⟩,trivial⟩ rfl (aR rfl rfl zP rfl ((show Den Tryz.prog _ _ (·=.sl 4 ((l.take k++s::l.drop k).map stC)) from (cX (yM [l.take k,[s],l.drop k] (by simp) (by simp only[List.flatten_cons,List.flatten_nil,List.length_append,List.length_take,List.length_drop,List.length_cons,List.length_nil]; omega))).mono fun r h=>h.trans (by simp)))) ?_)
    refine bL aA 1 rfl (gE [4] rfl rfl rfl (hK10 _ (aJ ?_)))
    refine⟨_,rfl,?_⟩
    rw[iC,if_neg (by omega),hins]; rfl
theorem aHy (l:List bP) (s:bP) (hl:l.length*32+32≤140737488355328) :Den Tryz.prog 73 [.sl 4 (l.map stC),.agg (stC s)]  (·=.sl 4 ((iC l s).map stC)):=by
 refine aS Tryz.func73 rfl (Nat.le_of_ble_eq_true rfl) (fun w0 A hf=>(aC (fun K1 hK1=>(aB (aK hf rfl (cL rfl rfl (lf rfl)) (aF rfl (bE) (aD (hK1 _ (aC (fun K2 hK2=>(aC (fun K3 hK3=>(aB (aE aA 5 rfl (aD (hK3 _ ?_))))))))))))))))
 refine aI rfl (fun hc1=>?_) (fun hc1=>?_)
 ·
  simp only[bs] at hc1
  refine aC (fun K4 hK4=>(aB (aE aA 2 rfl (aD (hK4 _ (aJ ?_))))))
  refine⟨_,rfl,?_⟩
  rw[iC,if_pos (by assumption)]; rfl
 ·
  simp only[bs] at hc1
  refine aL (hK2 _ (aC (fun K5 hK5=>(aB (aE aA 1 rfl (aD (hK5 _ (aC (fun K6 hK6=>(aC (fun K7 hK7=>(aB (aE aA 1 rfl (aD (hK7 _ ?_)))))))))))))))
  refine aO (bS (ι:=Nat×Nat) (fun(⟨k,a⟩:Nat×Nat)=>⟨43,[(0,.sl 4 (l.map stC)),(3,.adr (stC s)),(5,.s (.int .i64 (a:Nat))),(6,.s (.int .i64 (k:Nat)))],[]⟩) (fun(⟨k,a⟩:Nat×Nat)=>k≤l.length∧a≤k∧(∀ (j:Nat) (hj:j<l.length),a≤j→j<k→0<iP l[j] s)∧(∀ z,l[a - 1]?=some z→0<a→iP z s≤0)) (fun(⟨k,a⟩:Nat×Nat)=>l.length - k) (0,0) ?_ ?_ ?_)
  · exact⟨Nat.zero_le _,Nat.le_refl _,by omega,by omega⟩
  · exact dN rfl
  ·
   rintro ⟨k,a⟩ hC
   obtain ⟨h1,h2,h3,h4⟩:=hC
   refine aC (fun K8 hK8=>(aC (fun K9 hK9=>(aB (aE aA 4 rfl (aD (hK9 _ (aI rfl (fun hc2=>?_) (fun hc2=>?_)))))))))
   ·
    simp only[bs] at hc2
    refine aL (hK8 _ (aC (fun K10 hK10=>(aO (aC (fun K11 hK11=>(eQ hf bN (by kernel_rfl) rfl (bL aA 3 rfl ?_))))))))
    refine bY [(21,_),(22,_)] rfl rfl ⟨⟨rfl,rfl⟩,⟨rfl,rfl⟩,trivial⟩ rfl (aW rfl rfl aDi jC (by first | exact ixm (by omega) | assumption | exact⟨by decide,rfl⟩)) ?_
    refine bL aA 1 rfl (cA [(20,_),(24,_)] rfl rfl ⟨⟨rfl,rfl⟩,⟨rfl,rfl⟩,trivial⟩ rfl (aR rfl rfl aLr rfl (aNa s l[k])) (bL aA 1 rfl (gE [0,3,5,6,26] rfl rfl rfl (hK11 _ (aI rfl (fun hc3=>?_) (fun hc3=>?_))))))
    ·
     simp only[bs] at hc3
     refine aB (aE aA 1 rfl ?_)
     refine aF rfl (bJ rfl rfl (by omega) (by omega)) ?_
     refine aE aA 1 rfl ?_
     refine bB ?_
     refine hK10 _ (aB (aE aA 1 rfl ?_))
     refine aF rfl (bJ rfl rfl (by omega) (by omega)) ?_
     refine aE aA 1 rfl (aD ?_)
     exact⟨(k+1,k+1),⟨by omega,Nat.le_refl _,by omega,fun z hz _=>by rw[Nat.add_sub_cancel,List.getElem?_eq_getElem (by omega)] at hz; cases hz; have:=cmpS_tri.swap l[k] s; omega⟩,by simp only; omega,kX ⟨rfl,rfl,rfl,rfl,trivial⟩⟩
    ·
     simp only[bs] at hc3
     refine aL (hK10 _ (aB (aE aA 1 rfl ?_)))
     refine aF rfl (bJ rfl rfl (by omega) (by omega)) ?_
     refine aE aA 1 rfl (aD ?_)
     exact⟨(k+1,a),⟨by omega,by omega,fun j hj h5 h6=>by
      by_cases e:j=k
      · subst e; have:=cmpS_tri.swap l[j] s; omega
      · exact h3 j hj h5 (by omega),h4⟩,by simp only; omega,kX ⟨rfl,rfl,rfl,rfl,trivial⟩⟩
   ·
    simp only[bs] at hc2
    refine bA (hK6 _ (aC (fun K12 hK12=>(aB ?_))))
    have hins:=aAw s l a (by omega) (fun j hj h5=>h3 j hj h5 (by omega)) (fun h0 h=>h4 _ (List.getElem?_eq_getElem h) h0)
    refine cP hf rfl rfl rfl rJ rfl rfl rfl rfl (l2 rfl) ?_
    refine aE aA 2 rfl (aF rfl (cY rfl aDi jC rfl (iZ rfl (by omega)) (by omega) (by simp only[List.length_map,Int.toNat_natCast] <;> omega) (iW (k:=a) (by omega))) ?_)
    refine aT hf rfl rJ rfl rfl rfl (.inl rfl) (by first | rfl | (simp only[List.length_append,List.length_map,List.length_cons,List.length_nil,List.length_take] <;> omega)) rfl (by first | rfl | simp [cV,bF]) (by first | (simp only[maxLen,List.length_map,List.length_append,List.length_cons,List.length_nil]; omega) | (simp [maxLen] <;> omega)) (by first | (simp only[List.length_map,List.length_append,List.length_cons,List.length_nil]; omega) | (simp <;> omega)) ?_
    refine aQ (cD [0,3,5,33] rfl) (aE aA 1 rfl (aD (hK12 _ (aC (fun K13 hK13=>(aB (aE aA 2 rfl (aK hf rfl (aN rJ rfl rfl rfl rfl (l2 rfl)) (aT hf rfl rJ rfl rfl rfl (.inl rfl) (by first | rfl | (simp only[List.length_append,List.length_map,List.length_cons,List.length_nil,List.length_take] <;> omega)) rfl (by first | rfl | simp [cV,bF]) (by first | (simp only[maxLen,List.length_map,List.length_append,List.length_cons,List.length_nil]; omega) | (simp [maxLen] <;> omega)) (by first | (simp only[List.length_map,List.length_append,List.length_cons,List.length_nil]; omega) | (simp <;> omega)) ?_)))))))))
    refine aQ (cD [0,5,37] rfl) (aE aA 1 rfl (aD (hK13 _ (aC (fun K14 hK14=>(aB (aE aA 3 rfl (aF rfl (cY rfl aDi jC (iZ rfl (by omega)) rfl (by simp only[List.length_map,Int.toNat_natCast] <;> omega) (by omega) (fT (k:=a) (by omega))) ?_))))))))
    refine aT hf rfl rJ rfl rfl rfl (.inl rfl) (by first | rfl | (simp only[List.length_append,List.length_map,List.length_cons,List.length_nil,List.length_take] <;> omega)) rfl (by first | rfl | simp [cV,bF]) (by first | (simp only[maxLen,List.length_map,List.length_append,List.length_cons,List.length_nil]; omega) | (simp [maxLen] <;> omega)) (by first | (simp only[List.length_map,List.length_append,List.length_cons,List.length_nil]; omega) | (simp <;> omega)) ?_
    refine aQ (cD [42] rfl) (aE aA 1 rfl (aD (hK14 _ (aJ ?_))))
    refine⟨_,rfl,?_⟩
    refine(bV (g:=29) rfl ?_).trans ?_
    · simp only[List.length_append,List.length_map,List.length_cons,List.length_nil,List.length_take]
    · rw[iC,if_neg (by omega),hins]; first | (simp; done) | (simp; rfl)
end Go.Proofs.YtijnkglkchhomaaGreat
set_option linter.unusedVariables false
set_option linter.unusedSimpArgs false
namespace Go.Proofs.YtijnkglkchhomaaGreat
open Go Go.Abs
theorem mX (s:Sta) (u:ByteArray) (x:bP) (hz:SzS 140737488355200 s) (hr:cQ cR s.usr) :DenX Tryz.prog 90 [.agg (eK s E0 E1),.s (.string u),.agg (stC x)] [(E0,.buf 2 (s.usr.map usC)),(E1,.buf 2 (s.tmb.map tmC))] (fun r m=>r=.agg (eK (dQ s u x) E0 E1)∧m=[(E0,.buf 2 ((dQ s u x).usr.map usC)),(E1,.buf 2 ((dQ s u x).tmb.map tmC))]):=by
 have z1:=hz.o
 have z2:=hz.u
 have z3:=hz.b
 have z4:=hz.t
 have hlm:(s.usr.map usC).length=s.usr.length:=List.length_map _
 have hpl:=wJ (key:=cR) s.usr u
 refine iL [(E0,G0),(E1,G1)] Tryz.func90 rfl (Nat.le_of_ble_eq_true rfl) (args':=[.agg (eK s G0 G1),.s (.string u),.agg (stC x)]) (m':=[(G0,.buf 2 (s.usr.map usC)),(G1,.buf 2 (s.tmb.map tmC))]) rfl rfl (by decide) (by decide) rfl (fun w0 o0 A hf=>?_)
 refine aC (fun K1 hK1=>(aB (jL hf rfl rfl rfl rfl (l1 rfl) ?_)))
 refine aK hf rfl (cL rfl rfl (lf rfl)) (bQ hf rfl rfl rfl cK (aD (hK1 _ (aC (fun K2 hK2=>(aC (fun K3 hK3=>(aB (aE aA 2 rfl (aK hf rfl (aR rfl rfl nU rfl (sX x.1)) (aD (hK3 _ (aI rfl (fun hc1=>?_) (fun hc1=>?_))))))))))))))
 ·
  simp only[bs] at hc1
  refine aC (fun K4 hK4=>(aB (aF rfl (bM (cs':=eK s G0 G1) rfl pL cW rfl rfl rfl) (aP hf rfl rfl cW rfl rfl (l1 rfl) (l4 rfl) rfl (aD (hK4 _ (aJ ?_)))))))
  rw[iB (by assumption)]
  exact⟨_,[(E0,G0),(E1,G1)],_,Le.refl _,by decide,rfl,rfl,⟨rfl,rfl⟩⟩
 ·
  simp only[bs] at hc1
  have hx:¬ x.1.2≤x.1.1:=by simpa using hc1
  refine aL (hK2 _ (aC (fun K5 hK5=>(aB (aE aA 3 rfl (aK hf rfl (pW rfl rfl (by show [AV.conv _ _,_,_]=_; rw[bV (g:=G0) rfl rfl]; rfl) aDe (aA5 s.usr u (by omega) hr) rfl) ?_))))))
  refine aE aA 5 rfl (aD (hK5 _ (aC (fun K6 hK6=>(aC (fun K7 hK7=>(aB (aE aA 1 rfl (aD (hK7 _ (aI rfl (fun hc2=>?_) (fun hc2=>?_))))))))))))
  ·
   obtain ⟨hk,he⟩:=aB9 hr (show mB cR s.usr u=true by assumption)
   refine aC (fun K8 hK8=>(iA hf (L:=#[true,true,true,true,true,true,true,true,true,true,true,true,true,false]) 13 1 bN (by kernel_rfl) rfl (by kernel_rfl) rfl ?_))
   refine bL aA 6 rfl ?_
   refine bY [(25,_),(26,_)] rfl rfl ⟨⟨rfl,rfl⟩,⟨rfl,rfl⟩,trivial⟩ rfl (bX rfl rfl fH eT (by omega)) ?_
   refine bL aA 1 rfl (bY [(28,_)] rfl rfl ⟨⟨rfl,rfl⟩,trivial⟩ rfl (gR rfl aJ1 rfl ((hJ (by omega) hk 1).trans rfl)) (bL aA 1 rfl (cA [(29,_),(30,_)] rfl rfl ⟨⟨rfl,rfl⟩,⟨rfl,rfl⟩,trivial⟩ rfl (aR rfl rfl vS rfl (aC6 s.usr[dI cR s.usr u].2 x (by have:=hz.y _ (List.getElem_mem hk); omega))) ?_)))
   refine bY [(22,_),(23,_)] rfl rfl ⟨⟨rfl,rfl⟩,⟨rfl,rfl⟩,trivial⟩ rfl (bX rfl rfl fH eT (by omega)) ?_
   refine bL aA 1 rfl (tC [3,6,31,33] rfl rfl rfl ?_)
   refine aH 13 [] (by kernel_rfl) ⟨?_,trivial⟩
   ·
    refine⟨_,rfl,rfl,(ao rfl (aP hf rfl rfl xE rfl rfl (by simp [AV.cells,AV.one,Value.oneCell']) (by simp [AV.cells,AV.leaf,Value.oneCell']) (gD (c:=2) (k:=dI cR s.usr u) (f:=1) (enc:=usC) (v:=(s.usr[dI cR s.usr u].1,iC s.usr[dI cR s.usr u].2 x)) (by omega) hk rfl (Nat.le_of_ble_eq_true rfl)) ?_))⟩
    refine aG (bW (by kernel_rfl) ?_)
    refine hK8 _ (aC (fun K9 hK9=>(aB ?_)))
    rw[aOy hr (by assumption) hx hk,show eK s G0 G1=eK (dQ s u x) G0 G1 from by simp only[eK,dQ]; rw[show ((mO s.usr u x).map usC).length=(s.usr.map usC).length from by rw[← aOy hr (by assumption) hx hk,List.length_map,List.length_map,List.length_set]]]
    refine aF rfl (bM (cs':=eK (dQ s u x) G0 G1) rfl pL cW rfl rfl rfl) (aP hf rfl rfl cW rfl rfl (l1 rfl) (l4 rfl) rfl (aD (hK9 _ (aJ ?_))))
    exact⟨_,[(E0,G0),(E1,G1)],_,Le.refl _,by decide,rfl,rfl,⟨rfl,rfl⟩⟩
  ·
   have hno:mB cR s.usr u=false:=by simp_all
   refine aFb (pZ (nee G0) (sl':=[(1,_),(3,_),(5,_),(6,_),(7,_)]) (m':=[(6,.box [.s (.int .i64 0),.s (.int .i64 0),.s (.slice none 0 0),.s (.slice none 0 0),.s (.slice none 0 0),.s (.slice none 0 0)]),(3,.box [.s (.int .i64 s.now),.s (.int .i64 s.hor),.sl 4 (s.opn.map seC),.sl 2 (s.usr.map usC),.sl 4 (s.sub.map enC),.own G1 2 0 (s.tmb.map tmC).length]),(G1,.buf 2 (s.tmb.map tmC))]) ⟨⟨_,rfl,rfl⟩,⟨_,rfl,rfl⟩,⟨_,rfl,rfl⟩,⟨_,rfl,rfl⟩,⟨_,rfl,rfl⟩,trivial⟩ (Eq.trans (show _=[(6,AM.box [.s (.int .i64 0),.s (.int .i64 0),.s (.slice none 0 0),.s (.slice none 0 0),.s (.slice none 0 0),.s (.slice none 0 0)]),(3,.box [.s (.int .i64 s.now),.s (.int .i64 s.hor),.sl 4 (s.opn.map seC),AV.only (nee G0) [(6,.box [.s (.int .i64 0),.s (.int .i64 0),.s (.slice none 0 0),.s (.slice none 0 0),.s (.slice none 0 0),.s (.slice none 0 0)]),(3,.box (eK s G0 G1)),(G0,.buf 2 (s.usr.map usC)),(G1,.buf 2 (s.tmb.map tmC))] (.own G0 2 0 (s.usr.map usC).length),.sl 4 (s.sub.map enC),.own G1 2 0 (s.tmb.map tmC).length]),(G1,.buf 2 (s.tmb.map tmC))] from rfl) (by rw[aB8 (ok:=nee G0) (g:=G0) rfl rfl rfl]))) ?_
   refine aL (hK6 _ (aC (fun K10 hK10=>(iA hf (L:=#[true,true,true,true,true,true,true,true,true,true,true,true,true,true,false,false,false]) 14 3 bN (by kernel_rfl) rfl (by kernel_rfl) rfl ?_))))
   refine bL aA 3 rfl (bY [(36,_),(37,_)] rfl rfl ⟨⟨rfl,rfl⟩,⟨rfl,rfl⟩,trivial⟩ rfl (cY rfl fH eT rfl (iZ rfl (by omega)) (by omega) (by omega) (iW (by omega))) (bL aA 2 rfl (cA [(40,_)] rfl rfl ⟨⟨rfl,rfl⟩,trivial⟩ rfl (aN kV rfl rfl rfl rfl (l2 rfl)) (bY [(39,_),(41,_)] rfl rfl ⟨⟨rfl,rfl⟩,⟨rfl,rfl⟩,trivial⟩ rfl (bO rfl yH aNg (l3 rfl) rfl) (cA [(42,_)] rfl rfl ⟨⟨rfl,rfl⟩,trivial⟩ rfl (aN oR rfl rfl rfl rfl (l2 rfl)) (bL aA 3 rfl (bY [(45,_),(46,_)] rfl rfl ⟨⟨rfl,rfl⟩,⟨rfl,rfl⟩,trivial⟩ rfl (cY rfl fH eT (iZ rfl (by omega)) rfl (by omega) (by omega) (fT (by omega))) ?_)))))))
   refine cA [(38,_),(43,_),(47,_)] rfl rfl ⟨⟨rfl,rfl⟩,⟨rfl,rfl⟩,⟨rfl,rfl⟩,trivial⟩ rfl (aN aN6 rfl rfl rfl rfl (l2 rfl)) (tC [3,6,48] rfl rfl rfl ?_)
   refine aH 14 [] (by kernel_rfl) ⟨?_,trivial⟩
   ·
    refine⟨_,rfl,rfl,(ao rfl (gW hf rfl rfl rfl rfl rfl aLa rfl (aG4 [s.usr.take (dI cR s.usr u),[(u,[x])],s.usr.drop (dI cR s.usr u)] (by simp) (by simp only[List.flatten_cons,List.flatten_nil,List.length_append,List.length_take,List.length_drop,List.length_cons,List.length_nil]; omega)) ?_))⟩
    rintro _ rfl
    refine aG (aH 15 [] (by kernel_rfl) ⟨?_,trivial⟩)
    ·
     refine⟨_,rfl,rfl,(ao rfl (aE aA 1 rfl (aG (aH 16 [] (by kernel_rfl) ⟨?_,trivial⟩))))⟩
     ·
      refine⟨_,rfl,rfl,(ao rfl (aP hf rfl rfl rI rfl rfl (l1 rfl) (l4 rfl) rfl (aG (bW (by kernel_rfl) ?_))))⟩
      refine hK10 _ (aC (fun K11 hK11=>(aB ?_)))
      rw[aSq hr hno hx]
      refine aF rfl (bM (cs':=eK (dQ s u x) 49 G1) rfl pL cW rfl rfl rfl) (aP hf rfl rfl cW rfl rfl (l1 rfl) (l4 rfl) rfl (aD (hK11 _ (aJ ?_))))
      exact⟨_,[(E0,49),(E1,G1)],_,Le.refl _,by decide,rfl,rfl,⟨rfl,rfl⟩⟩
end Go.Proofs.YtijnkglkchhomaaGreat
set_option linter.unusedVariables false
set_option linter.unusedSimpArgs false
namespace Go.Proofs.YtijnkglkchhomaaGreat
open Go Go.Abs
theorem yL (l:List Se) (u:ByteArray) (t:Int) (hl:l.length*40+40≤140737488355328) :Den Tryz.prog 70 [.sl 4 (l.map seC),.s (.string u),.s (.int .i64 t)]  (·=.sl 4 ((gQ l u t).map stC)):=by
 refine aS Tryz.func70 rfl (Nat.le_of_ble_eq_true rfl) (fun w0 A hf=>(aC (fun K1 hK1=>(aB (aF rfl (bE) (aD (hK1 _ (aC (fun K2 hK2=>(aB (jK hf 4 rfl rfl rfl (aD (hK2 _ (aC (fun K3 hK3=>(aC (fun K4 hK4=>?_)))))))))))))))))
 refine aB (aE aA 3 rfl (aD (hK4 _ (aO (bS (ι:=Nat×List bP) (fun(⟨k,out⟩:Nat×List bP)=>⟨38,[(1,.s (.string u)),(2,.s (.int .i64 t)),(7,.own 7 4 0 out.length),(11,.sl 4 (l.map seC)),(12,.s (.int .i64 ((l.map seC).length:Nat))),(13,.s (.int .i64 (k:Nat)))],[(7,.buf 4 (out.map stC))]⟩) (fun(⟨k,out⟩:Nat×List bP)=>k≤l.length∧out=kY (l.take k) u t∧out.length≤k) (fun(⟨k,out⟩:Nat×List bP)=>l.length - k) (0,[]) ?_ ?_ ?_)))))
 · exact⟨Nat.zero_le _,rfl,Nat.le_refl _⟩
 · exact dN rfl
 ·
  rintro ⟨k,out⟩ hC
  obtain ⟨h1,h2,h3⟩:=hC
  refine aC (fun K5 hK5=>(aB (aE aA 1 rfl (aD (hK5 _ (aC (fun K6 hK6=>(aI rfl (fun hc1=>?_) (fun hc1=>?_)))))))))
  ·
   simp only[bs,fO] at hc1
   refine aL (hK6 _ (aC (fun K7 hK7=>(aO (aC (fun K8 hK8=>(aB ?_)))))))
   refine aF rfl (aW rfl rfl eU dU (by first | exact ixm (by omega) | assumption | exact⟨by decide,rfl⟩)) ?_
   refine aE aA 1 rfl (cH hf rfl rH rfl dU rfl rfl rfl rfl (lf rfl) (aD (hK8 _ (aC (fun K9 hK9=>(aB (aE aA 2 rfl (aK hf rfl (aR rfl rfl tP rfl (vE l[k] t)) (cH hf rfl fJ rfl aX rfl rfl rfl rfl (lf rfl) (aD (hK9 _ (aC (fun K10 hK10=>(aB ?_))))))))))))))
   refine aE aA 5 rfl (aY rfl rfl rfl (fun hg2=>?_) (fun hg2=>?_))
   ·
    simp only[bs,fO] at hg2
    refine aF rfl (bZ rfl aGv eS rfl) ?_
    refine aE aA 1 rfl (bK rfl rfl rfl (aK hf rfl (aR rfl rfl nU rfl (sX (fO l[k] t).1)) (aE aA 2 rfl (aD (hK10 _ (aI rfl (fun hc3=>?_) (fun hc3=>?_)))))))
    ·
     simp only[bs,fO] at hc3
     refine aB (aE aA 2 rfl (aK hf rfl (aN kV rfl rfl rfl rfl (l2 rfl)) (aT hf rfl kV rfl rfl rfl (.inl rfl) (by rw[List.length_map]) rfl (by first | rfl | simp [cV,bF]) (by first | (simp only[maxLen,List.length_map,List.length_append,List.length_cons,List.length_nil]; omega) | (simp [maxLen] <;> omega)) (by first | (simp only[List.length_map,List.length_append,List.length_cons,List.length_nil]; omega) | (simp <;> omega)) ?_)))
     refine aQ (cD [1,2,11,12,13,33] rfl) (aE aA 1 rfl ?_)
     refine bB ?_
     refine hK7 _ (aB ?_)
     refine aF rfl (bJ rfl rfl (by omega) (by omega)) ?_
     refine aE aA 1 rfl (aD ?_)
     exact⟨(k+1,out++[fO l[k] t]),⟨by omega,by rw[h2,kY,kY,vC _ _ k (by omega),if_pos ⟨(show qM u l[k]=true from by simp_all[qM,toList_inj]),by first | omega | exact of_decide_eq_false hc3⟩],by rw[List.length_append]; simp only[List.length_cons,List.length_nil]; omega⟩,by simp only; omega,bT ⟨rfl,rfl,(by first | rfl | (rw[List.length_append]; rfl)),rfl,rfl,rfl,trivial⟩ (by rw[List.map_append]; rfl)⟩
    ·
     simp only[bs,fO] at hc3
     refine aL (hK7 _ (aB ?_))
     refine aF rfl (bJ rfl rfl (by omega) (by omega)) ?_
     refine aE aA 1 rfl (aD ?_)
     exact⟨(k+1,out),⟨by omega,by rw[h2,kY,kY,vC _ _ k (by omega),if_neg (by first | exact(fun hh=>(show ¬ qM u l[k]=true from by simp_all[qM,toList_inj]) hh.1) | (rintro ⟨_,hh⟩; exact hh (by first | omega | exact of_decide_eq_true hc3))),List.append_nil],by omega⟩,by simp only; omega,bT ⟨rfl,rfl,(by first | rfl | (rw[List.length_append]; rfl)),rfl,rfl,rfl,trivial⟩ rfl⟩
   ·
    simp only[bs,fO] at hg2
    refine aE aA 4 rfl (aD (hK10 _ (bD rfl (aL (hK7 _ (aB ?_))))))
    refine aF rfl (bJ rfl rfl (by omega) (by omega)) ?_
    refine aE aA 1 rfl (aD ?_)
    exact⟨(k+1,out),⟨by omega,by rw[h2,kY,kY,vC _ _ k (by omega),if_neg (by first | exact(fun hh=>(show ¬ qM u l[k]=true from by simp_all[qM,toList_inj]) hh.1) | (rintro ⟨_,hh⟩; exact hh (by first | omega | exact of_decide_eq_true hc3))),List.append_nil],by omega⟩,by simp only; omega,bT ⟨rfl,rfl,(by first | rfl | (rw[List.length_append]; rfl)),rfl,rfl,rfl,trivial⟩ rfl⟩
  ·
   simp only[bs,fO] at hc1
   refine bA (hK3 _ (aC (fun K11 hK11=>(aB (aE aA 1 rfl (gA hf 7 rfl rfl rfl rfl rfl aLs (vY zQ cmpS_tri (fun x y=>aJo x y) out _ rfl (by omega)) ?_))))))
   rintro r zs ⟨t0,ht1,ht2,rfl⟩
   refine aD (hK11 _ (aC (fun K12 hK12=>(aB (aE aA 2 rfl (aD (hK12 _ (aJ ?_))))))))
   refine⟨_,rfl,?_⟩
   refine(bV (g:=7) rfl (by rw[List.length_map,ht1.length_eq])).trans ?_
   rw[gQ,aRa ht1 ht2,h2,List.take_of_length_le (by omega)]
end Go.Proofs.YtijnkglkchhomaaGreat
set_option linter.unusedVariables false
set_option linter.unusedSimpArgs false
namespace Go.Proofs.YtijnkglkchhomaaGreat
open Go Go.Abs
theorem aDn (l:List Se) (u:ByteArray) (hl:l.length*40+40≤140737488355328) :Den Tryz.prog 133 [.sl 4 (l.map seC),.s (.string u)]  (·=.sl 4 ((l.filter (fun e=>!qM u e)).map seC)):=by
 refine aS Tryz.func133 rfl (Nat.le_of_ble_eq_true rfl) (fun w0 A hf=>(aC (fun K1 hK1=>(aB (aK hf rfl (cL rfl rfl (lf rfl)) (aF rfl (bE) (aD (hK1 _ (aC (fun K2 hK2=>(aB (aE aA 1 rfl (gW hf rfl rfl rfl rfl rfl iO rfl (iI l (by omega)) ?_)))))))))))))
 rintro _ rfl
 refine aF rfl (iJ rfl) (gA hf 6 rfl rfl rfl rfl rfl aK0 (zT aKz rfl (fun _=>rfl) (fun e=>qM u e) l _ (by rw[List.length_map]) (by omega) (fun x _=>zW x u)) ?_)
 rintro r zs ⟨rfl,rfl⟩
 refine aE aA 1 rfl (aD (hK2 _ (aJ ?_)))
 refine⟨_,rfl,?_⟩
 exact bV (g:=6) rfl (by rw[List.length_map])
theorem xO (l:List Se) (u:ByteArray) (hl:l.length*40+40≤140737488355328) :Den Tryz.prog 105 [.sl 4 (l.map seC),.s (.string u)]  (·=.sl 4 ((l.filter (fun e=>!qM u e)).map seC)):=by
 refine aS Tryz.func105 rfl (Nat.le_of_ble_eq_true rfl) (fun w0 A hf=>(aC (fun K1 hK1=>(aB (aF rfl (bE) (aD (hK1 _ (aC (fun K2 hK2=>(aB (jK hf 4 rfl rfl rfl (aD (hK2 _ (aC (fun K3 hK3=>(aC (fun K4 hK4=>?_)))))))))))))))))
 refine aB (aE aA 1 rfl (aD (hK4 _ (aO (bS (ι:=Nat×List Se) (fun(⟨k,out⟩:Nat×List Se)=>⟨28,[(0,.sl 4 (l.map seC)),(1,.s (.string u)),(5,.own 5 4 0 out.length),(6,.s (.int .i64 (k:Nat)))],[(5,.buf 4 (out.map seC))]⟩) (fun(⟨k,out⟩:Nat×List Se)=>k≤l.length∧out=(l.take k).filter (fun e=>!qM u e)∧out.length≤k) (fun(⟨k,out⟩:Nat×List Se)=>l.length - k) (0,[]) ?_ ?_ ?_)))))
 · exact⟨Nat.zero_le _,rfl,Nat.le_refl _⟩
 · exact dN rfl
 ·
  rintro ⟨k,out⟩ hC
  obtain ⟨h1,h2,h3⟩:=hC
  refine aC (fun K5 hK5=>(aC (fun K6 hK6=>(aB (aE aA 4 rfl (aD (hK6 _ (aI rfl (fun hc1=>?_) (fun hc1=>?_)))))))))
  ·
   simp only[bs] at hc1
   refine aL (hK5 _ (aC (fun K7 hK7=>(aO (aC (fun K8 hK8=>(aB (aE aA 2 rfl ?_))))))))
   refine aF rfl (aW rfl rfl jN fS (by first | exact ixm (by omega) | assumption | exact⟨by decide,rfl⟩)) ?_
   refine aE aA 4 rfl (aD (hK8 _ (aI rfl (fun hc2=>?_) (fun hc2=>?_))))
   ·
    simp only[bs] at hc2
    refine aB (aE aA 3 rfl ?_)
    refine aF rfl (aW rfl rfl jN fS (by first | exact ixm (by omega) | assumption | exact⟨by decide,rfl⟩)) ?_
    refine aE aA 1 rfl (aK hf rfl (aN fK rfl rfl rfl rfl (l2 rfl)) (aT hf rfl fK rfl rfl rfl (.inl rfl) (by rw[List.length_map]) rfl (by first | rfl | simp [cV,bF]) (by first | (simp only[maxLen,List.length_map,List.length_append,List.length_cons,List.length_nil]; omega) | (simp [maxLen] <;> omega)) (by first | (simp only[List.length_map,List.length_append,List.length_cons,List.length_nil]; omega) | (simp <;> omega)) ?_))
    refine aQ (cD [0,1,6,26] rfl) (aE aA 1 rfl ?_)
    refine bB ?_
    refine hK7 _ (aB (aE aA 1 rfl ?_))
    refine aF rfl (bJ rfl rfl (by omega) (by omega)) ?_
    refine aE aA 1 rfl (aD ?_)
    exact⟨(k+1,out++[l[k]]),⟨by omega,by rw[h2,aMx (by omega) (by simp_all[qM,toList_inj])],by rw[List.length_append]; simp only[List.length_cons,List.length_nil]; omega⟩,by simp only; omega,bT ⟨rfl,rfl,(by rw[List.length_append]; rfl),rfl,trivial⟩ (by rw[List.map_append]; rfl)⟩
   ·
    simp only[bs] at hc2
    refine aL (hK7 _ (aB (aE aA 1 rfl ?_)))
    refine aF rfl (bJ rfl rfl (by omega) (by omega)) ?_
    refine aE aA 1 rfl (aD ?_)
    exact⟨(k+1,out),⟨by omega,by rw[h2,aGe (by omega) (by simp_all[qM,toList_inj])],by omega⟩,by simp only; omega,bT ⟨rfl,rfl,rfl,rfl,trivial⟩ rfl⟩
  ·
   simp only[bs] at hc1
   refine bA (hK3 _ (aC (fun K9 hK9=>(aB (aE aA 2 rfl (aD (hK9 _ (aJ ?_))))))))
   refine⟨_,rfl,?_⟩
   refine(bV (g:=5) rfl (by rw[List.length_map])).trans ?_
   rw[h2,List.take_of_length_le (by omega)]
end Go.Proofs.YtijnkglkchhomaaGreat
set_option linter.unusedVariables false
set_option linter.unusedSimpArgs false
namespace Go.Proofs.YtijnkglkchhomaaGreat
open Go Go.Abs
theorem aPz (l:List En) (p:Pr) (t:Int) (hl:l.length*48+48≤140737488355328) :Den Tryz.prog 157 [.sl 4 (l.map enC),.agg (prC p),.s (.int .i64 t)]  (·=.tup [.sl 4 ((if onB l p then [] else gN l p t).map enC),.s (.int .i64 (if onB l p then 90 else 0))]):=by
 refine aS Tryz.func157 rfl (Nat.le_of_ble_eq_true rfl) (fun w0 A hf=>(aC (fun K1 hK1=>(aB (aK hf rfl (cL rfl rfl (lf rfl)) (aF rfl (bE) (aE aA 1 rfl (aD (hK1 _ (aC (fun K2 hK2=>(aC (fun K3 hK3=>(aB (aE aA 2 rfl (aK hf rfl (aR rfl rfl aKp rfl (aIy _ _ (by omega))) ?_))))))))))))))))
 refine aD (hK3 _ (aI rfl (fun hc1=>?_) (fun hc1=>?_)))
 ·
  refine aC (fun K4 hK4=>(aB (aF rfl (oZ (k:=4)) (aE aA 1 rfl (aD (hK4 _ (aJ ?_)))))))
  refine⟨_,rfl,?_⟩
  rw[show onB l p=true by assumption]; rfl
 ·
  refine aL (hK2 _ (aC (fun K5 hK5=>(aB (aE aA 2 rfl (aF rfl (bO rfl oP aC8 (l3 rfl) rfl) (aF rfl (bO rfl oO aNe (l3 rfl) rfl) (cH hf rfl oO rfl eR rfl rfl rfl rfl (lf rfl) (aD (hK5 _ (aC (fun K6 hK6=>(aB (aE aA 1 rfl ?_))))))))))))))
  refine aF rfl (iJ rfl) (aK hf rfl (aR rfl rfl tK rfl (pG aKo rfl (fun x=>decide (0<mG x (p,(t,1099511627776)))) l (by omega) (fun x _=>aMs x (p,(t,1099511627776))))) (aE aA 1 rfl (aD (hK6 _ (aC (fun K7 hK7=>(aC (fun K8 hK8=>(aB (aE aA 2 rfl (aD (hK8 _ (aI rfl (fun hc2=>?_) (fun hc2=>?_))))))))))))))
  ·
   simp only[bs] at hc2
   obtain ⟨k,hk⟩:∃ k:Nat,k=l.length:=⟨_,rfl⟩
   have hno:∀ x∈l,¬ 0<mG x (p,(t,1099511627776)):=by
     rcases dE (fun x=>decide (0<mG x (p,(t,1099511627776)))) l with ⟨_,h⟩ | ⟨k',_,e,_⟩
     · intro x hx; simpa using h x hx
     · exfalso; omega
   have hins:=wS (p,(t,1099511627776)) l k (by omega) (fun j hj _=>hno _ (List.getElem_mem hj)) (fun h=>by omega)
   refine aB (aE aA 2 rfl ?_)
   rw[List.length_map,← hk]
   refine aE aA 1 rfl (aD (hK7 _ (aC (fun K9 hK9=>(eQ hf bN (by kernel_rfl) rfl (bL aA 2 rfl (bY [(24,_),(25,_)] rfl rfl ⟨⟨rfl,rfl⟩,⟨rfl,rfl⟩,trivial⟩ rfl (cY rfl fZ eR rfl (iZ rfl (by omega)) (by omega) (by simp only[List.length_map,Int.toNat_natCast] <;> omega) (iW (k:=k) (by omega))) ?_)))))))
   refine bL aA 1 rfl (cA [(27,_)] rfl rfl ⟨⟨rfl,rfl⟩,trivial⟩ rfl (aN lZ rfl rfl rfl rfl (l2 rfl)) (bL aA 2 rfl (bY [(29,_),(30,_)] rfl rfl ⟨⟨rfl,rfl⟩,⟨rfl,rfl⟩,trivial⟩ rfl (cY rfl fZ eR (iZ rfl (by omega)) rfl (by simp only[List.length_map,Int.toNat_natCast] <;> omega) (by omega) (fT (k:=k) (by omega))) ?_)))
   refine cA [(26,_),(28,_),(31,_)] rfl rfl ⟨⟨rfl,rfl⟩,⟨rfl,rfl⟩,⟨rfl,rfl⟩,trivial⟩ rfl (aN aDk rfl rfl rfl rfl (l2 rfl)) (cA [(32,_)] rfl rfl ⟨⟨rfl,rfl⟩,trivial⟩ rfl (aR rfl rfl zI rfl ((show Den Tryz.prog _ _ (·=.sl 4 ((l.take k++(p,(t,1099511627776))::l.drop k).map enC)) from (cX (yW [l.take k,[(p,(t,1099511627776))],l.drop k] (by simp) (by simp only[List.flatten_cons,List.flatten_nil,List.length_append,List.length_take,List.length_drop,List.length_cons,List.length_nil]; omega))).mono fun r h=>h.trans (by simp)))) ?_)
   refine bL aA 2 rfl (gE [6,7] rfl rfl rfl (hK9 _ (aJ ?_)))
   refine⟨_,rfl,?_⟩
   rw[show onB l p=false from by first | assumption | (simp at *; assumption),← hins]; rfl
  ·
   simp only[bs] at hc2
   obtain ⟨k,hk,ek,hk1,hk2⟩:∃ k:Nat,∃ h:k<l.length,kZ (fun x=>decide (0<mG x (p,(t,1099511627776)))) l=(k:Nat)∧0<mG l[k] (p,(t,1099511627776))∧∀ (j:Nat) (hj:j<l.length),j<k→¬ 0<mG l[j] (p,(t,1099511627776)):=by
     rcases dE (fun x=>decide (0<mG x (p,(t,1099511627776)))) l with ⟨e,_⟩ | ⟨k',h1,e,h2,h3⟩
     · exfalso; omega
     · exact⟨k',h1,e,by simpa using h2,fun j hj hjk=>by simpa using h3 j hj hjk⟩
   rw[ek]
   have hins:=wS (p,(t,1099511627776)) l k (by omega) hk2 (fun _=>hk1)
   refine aL (hK7 _ (aC (fun K10 hK10=>(eQ hf bN (by kernel_rfl) rfl (bL aA 2 rfl (bY [(24,_),(25,_)] rfl rfl ⟨⟨rfl,rfl⟩,⟨rfl,rfl⟩,trivial⟩ rfl (cY rfl fZ eR rfl (iZ rfl (by omega)) (by omega) (by simp only[List.length_map,Int.toNat_natCast] <;> omega) (iW (k:=k) (by omega))) ?_))))))
   refine bL aA 1 rfl (cA [(27,_)] rfl rfl ⟨⟨rfl,rfl⟩,trivial⟩ rfl (aN lZ rfl rfl rfl rfl (l2 rfl)) (bL aA 2 rfl (bY [(29,_),(30,_)] rfl rfl ⟨⟨rfl,rfl⟩,⟨rfl,rfl⟩,trivial⟩ rfl (cY rfl fZ eR (iZ rfl (by omega)) rfl (by simp only[List.length_map,Int.toNat_natCast] <;> omega) (by omega) (fT (k:=k) (by omega))) ?_)))
   refine cA [(26,_),(28,_),(31,_)] rfl rfl ⟨⟨rfl,rfl⟩,⟨rfl,rfl⟩,⟨rfl,rfl⟩,trivial⟩ rfl (aN aDk rfl rfl rfl rfl (l2 rfl)) (cA [(32,_)] rfl rfl ⟨⟨rfl,rfl⟩,trivial⟩ rfl (aR rfl rfl zI rfl ((show Den Tryz.prog _ _ (·=.sl 4 ((l.take k++(p,(t,1099511627776))::l.drop k).map enC)) from (cX (yW [l.take k,[(p,(t,1099511627776))],l.drop k] (by simp) (by simp only[List.flatten_cons,List.flatten_nil,List.length_append,List.length_take,List.length_drop,List.length_cons,List.length_nil]; omega))).mono fun r h=>h.trans (by simp)))) ?_)
   refine bL aA 2 rfl (gE [6,7] rfl rfl rfl (hK10 _ (aJ ?_)))
   refine⟨_,rfl,?_⟩
   rw[show onB l p=false from by first | assumption | (simp at *; assumption),← hins]; rfl
end Go.Proofs.YtijnkglkchhomaaGreat
set_option linter.unusedVariables false
set_option linter.unusedSimpArgs false
namespace Go.Proofs.YtijnkglkchhomaaGreat
open Go Go.Abs
theorem of_den (e:En) (p:Pr) :Den Tryz.prog 214 [.agg (enC e),.agg (prC p)]  (·=.s (.bool (ofB p e))):=by
 refine aS Tryz.func214 rfl (Nat.le_of_ble_eq_true rfl) (fun w0 A hf=>(aC (fun K1 hK1=>(aB (aK hf rfl (cL rfl rfl (lf rfl)) (aK hf rfl (cL rfl rfl (lf rfl)) (aE aA 1 rfl (aD (hK1 _ (aC (fun K2 hK2=>(aB (aE aA 6 rfl (aY rfl rfl rfl (fun hg1=>?_) (fun hg1=>?_)))))))))))))))
 ·
  simp only[bs] at hg1
  refine aF rfl (bZ rfl aJ2 cJ rfl) ?_
  refine aE aA 6 rfl (aD (hK2 _ (aJ ?_)))
  refine⟨_,rfl,?_⟩
  refine aV ?_
  unfold ofB
  rw[Bool.eq_iff_iff]
  simp_all[Prod.ext_iff,toList_inj]
 ·
  simp only[bs] at hg1
  refine aE aA 6 rfl (aD (hK2 _ (aJ ?_)))
  refine⟨_,rfl,?_⟩
  refine aV ?_
  unfold ofB
  rw[Bool.eq_iff_iff]
  simp_all[Prod.ext_iff,toList_inj]
theorem aNb (a b:En) (h1:TS a.1.1) (h2:TS a.1.2) (h3:TS b.1.1) (h4:TS b.1.2) :Den Tryz.prog 93 [.agg (enC a),.agg (enC b)]  (·=.s (.bool (decide (mG a b<0)))):=by
 refine aS Tryz.func93 rfl (Nat.le_of_ble_eq_true rfl) (fun w0 A hf=>(aC (fun K1 hK1=>(aB (aK hf rfl (cL rfl rfl (lf rfl)) (aK hf rfl (cL rfl rfl (lf rfl)) (aE aA 1 rfl (aD (hK1 _ (aC (fun K2 hK2=>(aB (aE aA 4 rfl (aK hf rfl (aR rfl rfl sC rfl (Nm.refCmp_den _ _ (by first | assumption | exact(ht _ (List.getElem_mem _)).1 | exact(ht _ (List.getElem_mem _)).2) (by first | assumption | exact(ht _ (List.getElem_mem _)).1 | exact(ht _ (List.getElem_mem _)).2))) ?_))))))))))))))
 refine aE aA 1 rfl (aD (hK2 _ (aC (fun K3 hK3=>(aC (fun K4 hK4=>(aB (aE aA 2 rfl (aD (hK4 _ (aI rfl (fun hc1=>?_) (fun hc1=>?_))))))))))))
 ·
  simp only[bs] at hc1
  refine aC (fun K5 hK5=>(aB (aE aA 3 rfl (aD (hK5 _ (aJ ?_))))))
  refine⟨_,rfl,?_⟩
  refine aV ?_
  unfold mG qW uE
  simp only[orI,iN]
  rw[Bool.eq_iff_iff]
  (repeat' split) <;> simp_all <;> omega
 ·
  simp only[bs] at hc1
  refine aL (hK3 _ (aC (fun K6 hK6=>(aB (aE aA 4 rfl (aK hf rfl (aR rfl rfl sC rfl (Nm.refCmp_den _ _ (by first | assumption | exact(ht _ (List.getElem_mem _)).1 | exact(ht _ (List.getElem_mem _)).2) (by first | assumption | exact(ht _ (List.getElem_mem _)).1 | exact(ht _ (List.getElem_mem _)).2))) ?_))))))
  refine aE aA 1 rfl (aD (hK6 _ (aC (fun K7 hK7=>(aC (fun K8 hK8=>(aB (aE aA 2 rfl (aD (hK8 _ (aI rfl (fun hc2=>?_) (fun hc2=>?_))))))))))))
  ·
   simp only[bs] at hc2
   refine aC (fun K9 hK9=>(aB (aE aA 3 rfl (aD (hK9 _ (aJ ?_))))))
   refine⟨_,rfl,?_⟩
   refine aV ?_
   unfold mG qW uE
   simp only[orI,iN]
   rw[Bool.eq_iff_iff]
   (repeat' split) <;> simp_all <;> omega
  ·
   simp only[bs] at hc2
   refine aL (hK7 _ (aC (fun K10 hK10=>(aB (aE aA 6 rfl (aD (hK10 _ (aJ ?_))))))))
   refine⟨_,rfl,?_⟩
   refine aV ?_
   unfold mG qW uE
   simp only[orI,iN]
   rw[Bool.eq_iff_iff]
   (repeat' split) <;> simp_all <;> omega
theorem wE (l:List En) (p:Pr) (hl:l.length≤9223372036854775807) :Den Tryz.prog 173 [.sl 4 (l.map enC),.agg (prC p)]  (·=.s (.int .i64 (kZ (dY p) l))):=by
 refine aS Tryz.func173 rfl (Nat.le_of_ble_eq_true rfl) (fun w0 A hf=>(aC (fun K1 hK1=>(aB (aK hf rfl (cL rfl rfl (lf rfl)) (aE aA 1 rfl (aD (hK1 _ (aC (fun K2 hK2=>(aC (fun K3 hK3=>(aB (aE aA 1 rfl (aD (hK3 _ ?_))))))))))))))))
 refine aO (bS (ι:=Nat) (fun k=>⟨27,[(0,.sl 4 (l.map enC)),(3,.adr (prC p)),(5,.s (.int .i64 (k:Nat)))],[]⟩) (fun k=>k≤l.length∧∀ (j:Nat) (hj:j<l.length),j<k→dY p l[j]=false) (fun k=>l.length - k) 0 ?_ ?_ ?_)
 · exact⟨Nat.zero_le _,by omega⟩
 · exact dN rfl
 ·
  rintro k hC
  obtain ⟨h1,h2⟩:=hC
  refine aC (fun K4 hK4=>(aC (fun K5 hK5=>(aB (aE aA 4 rfl (aD (hK5 _ (aI rfl (fun hc1=>?_) (fun hc1=>?_)))))))))
  ·
   simp only[bs] at hc1
   refine aL (hK4 _ (aC (fun K6 hK6=>(aO (aC (fun K7 hK7=>(eQ hf bN (by kernel_rfl) rfl (bL aA 2 rfl ?_))))))))
   refine bY [(12,_),(13,_)] rfl rfl ⟨⟨rfl,rfl⟩,⟨rfl,rfl⟩,trivial⟩ rfl (aW rfl rfl kJ jB (by first | exact ixm (by omega) | assumption | exact⟨by decide,rfl⟩)) ?_
   refine bL aA 2 rfl (cA [(15,_),(16,_)] rfl rfl ⟨⟨rfl,rfl⟩,⟨rfl,rfl⟩,trivial⟩ rfl (aR rfl rfl aKf rfl (of_den _ _)) (bL aA 1 rfl (rZ 18 true rfl (fun hg2=>?_) (fun hg2=>?_))))
   ·
    refine bL aA 2 rfl ?_
    refine bY [(19,_),(20,_)] rfl rfl ⟨⟨rfl,rfl⟩,⟨rfl,rfl⟩,trivial⟩ rfl (aW rfl rfl kJ jB (by first | exact ixm (by omega) | assumption | exact⟨by decide,rfl⟩)) ?_
    refine bL aA 4 rfl (gE [0,3,5,25] rfl rfl rfl (hK7 _ (aI rfl (fun hc3=>?_) (fun hc3=>?_))))
    ·
     simp only[bs] at hc3
     refine aC (fun K8 hK8=>(aB (aE aA 2 rfl (aD (hK8 _ (aJ ?_))))))
     refine⟨_,rfl,?_⟩
     refine dM ?_
     rw[iK (by omega) h2 (by simp_all[dY,ofB])]
    ·
     simp only[bs] at hc3
     refine aL (hK6 _ (aB (aE aA 1 rfl ?_)))
     refine aF rfl (bJ rfl rfl (by omega) (by omega)) ?_
     refine aE aA 1 rfl (aD ?_)
     exact⟨k+1,⟨by omega,fun j hj hjk=>by
       by_cases e:j=k
       · subst e; simp_all[dY,ofB]
       · exact h2 j hj (by omega)⟩,by omega,dN rfl⟩
   ·
    simp only[bs] at hg2
    refine bL aA 7 rfl (gE [0,3,5,25] rfl rfl rfl (hK7 _ (bD rfl (aL (hK6 _ (aB (aE aA 1 rfl ?_)))))))
    refine aF rfl (bJ rfl rfl (by omega) (by omega)) ?_
    refine aE aA 1 rfl (aD ?_)
    exact⟨k+1,⟨by omega,fun j hj hjk=>by
      by_cases e:j=k
      · subst e; simp_all[dY,ofB]
      · exact h2 j hj (by omega)⟩,by omega,dN rfl⟩
  ·
   simp only[bs] at hc1
   refine bA (hK2 _ (aC (fun K9 hK9=>(aB (aE aA 1 rfl (aD (hK9 _ (aJ ?_))))))))
   refine⟨_,rfl,?_⟩
   refine dM ?_
   rw[lQ (fun j hj=>h2 j hj (by omega))]
theorem aFx (l:List En) (p:Pr) (t:Int) (hl:l.length*48+48≤140737488355328) (ht:∀ e∈l,TS e.1.1∧TS e.1.2) (hp1:TS p.1) (hp2:TS p.2) :Den Tryz.prog 103 [.sl 4 (l.map enC),.agg (prC p),.s (.int .i64 t)]  (·=.tup [.sl 4 ((if onB l p then [] else gN l p t).map enC),.s (.int .i64 (if onB l p then 90 else 0))]):=by
 refine aS Tryz.func103 rfl (Nat.le_of_ble_eq_true rfl) (fun w0 A hf=>(aC (fun K1 hK1=>(aB (aK hf rfl (cL rfl rfl (lf rfl)) (aF rfl (bE) (aE aA 1 rfl (aD (hK1 _ (aC (fun K2 hK2=>(aC (fun K3 hK3=>(aB (aE aA 2 rfl (aK hf rfl (aR rfl rfl zL rfl (wE _ _ (by omega))) ?_))))))))))))))))
 refine aE aA 1 rfl (aD (hK3 _ (aI rfl (fun hc1=>?_) (fun hc1=>?_))))
 ·
  simp only[bs] at hc1
  refine aC (fun K4 hK4=>(aB (aF rfl (oZ (k:=4)) (aE aA 1 rfl (aD (hK4 _ (aJ ?_)))))))
  refine⟨_,rfl,?_⟩
  rw[show onB l p=true from onB_t (by omega)]; rfl
 ·
  simp only[bs] at hc1
  refine aL (hK2 _ (aC (fun K5 hK5=>(aB (aE aA 5 rfl (aF rfl (bO rfl aC7 aQv (l3 rfl) rfl) (cH hf rfl aC7 rfl jB rfl rfl rfl rfl (lf rfl) (aD (hK5 _ (aC (fun K6 hK6=>(aB (aE aA 1 rfl (aD ?_))))))))))))))
  refine hK6 _ (aC (fun K7 hK7=>(aO (bS (ι:=Nat) (fun k=>⟨50,[(0,.sl 4 (l.map enC)),(8,.adr (enC (p,(t,1099511627776)))),(9,.s (.int .i64 (k:Nat)))],[]⟩) (fun k=>k≤l.length∧∀ (j:Nat) (hj:j<l.length),j<k→¬ 0<mG l[j] (p,(t,1099511627776))) (fun k=>l.length - k) 0 ?_ ?_ ?_))))
  · exact⟨Nat.zero_le _,by omega⟩
  · exact dN rfl
  ·
   rintro k hC
   obtain ⟨h1,h2⟩:=hC
   refine aC (fun K8 hK8=>(aC (fun K9 hK9=>(eQ hf bN (by kernel_rfl) rfl (bL aA 5 rfl (rZ 25 true rfl (fun hg2=>?_) (fun hg2=>?_)))))))
   ·
    simp only[bs] at hg2
    refine bL aA 3 rfl ?_
    refine bY [(27,_),(28,_)] rfl rfl ⟨⟨rfl,rfl⟩,⟨rfl,rfl⟩,trivial⟩ rfl (aW rfl rfl kJ jB (by first | exact ixm (by omega) | assumption | exact⟨by decide,rfl⟩)) ?_
    refine bL aA 1 rfl (cA [(26,_),(30,_)] rfl rfl ⟨⟨rfl,rfl⟩,⟨rfl,rfl⟩,trivial⟩ rfl (aR rfl rfl aNh rfl (aNb (p,(t,1099511627776)) _ hp1 hp2 (ht _ (List.getElem_mem _)).1 (ht _ (List.getElem_mem _)).2)) (bL aA 2 rfl (gE [0,8,9,33] rfl rfl rfl (hK9 _ (aI rfl (fun hc3=>?_) (fun hc3=>?_))))))
    ·
     simp only[bs] at hc3
     refine aL (hK8 _ (aO (aB (aE aA 1 rfl ?_))))
     refine aF rfl (bJ rfl rfl (by omega) (by omega)) ?_
     refine aE aA 1 rfl ?_
     refine bB ?_
     exact⟨k+1,⟨by omega,fun j hj hjk=>by
       by_cases e:j=k
       · subst e; have:=ordE_tri.swap l[j] (p,(t,1099511627776)); (try simp only[decide_eq_true_eq,decide_eq_false_iff_not,Bool.not_eq_true'] at *); omega
       · exact h2 j hj (by omega)⟩,by omega,dN rfl⟩
    ·
     simp only[bs] at hc3
     refine bA (hK7 _ (aC (fun K10 hK10=>(aB ?_))))
     have hins:=wS (p,(t,1099511627776)) l k (by omega) h2 (fun h=>by have:=ordE_tri.swap l[k] (p,(t,1099511627776)); (try simp only[decide_eq_true_eq,decide_eq_false_iff_not,Bool.not_eq_true'] at *); omega)
     refine cP hf rfl rfl rfl eO rfl rfl rfl rfl (l2 rfl) ?_
     refine aE aA 2 rfl (aF rfl (cY rfl kJ jB rfl (iZ rfl (by omega)) (by omega) (by simp only[List.length_map,Int.toNat_natCast] <;> omega) (iW (k:=k) (by omega))) ?_)
     refine aT hf rfl eO rfl rfl rfl (.inl rfl) (by first | rfl | (simp only[List.length_append,List.length_map,List.length_cons,List.length_nil,List.length_take] <;> omega)) rfl (by first | rfl | simp [cV,bF]) (by first | (simp only[maxLen,List.length_map,List.length_append,List.length_cons,List.length_nil]; omega) | (simp [maxLen] <;> omega)) (by first | (simp only[List.length_map,List.length_append,List.length_cons,List.length_nil]; omega) | (simp <;> omega)) ?_
     refine aQ (cD [0,8,9,40] rfl) (aE aA 1 rfl (aD (hK10 _ (aC (fun K11 hK11=>(aB (aE aA 2 rfl (aK hf rfl (aN eO rfl rfl rfl rfl (l2 rfl)) (aT hf rfl eO rfl rfl rfl (.inl rfl) (by first | rfl | (simp only[List.length_append,List.length_map,List.length_cons,List.length_nil,List.length_take] <;> omega)) rfl (by first | rfl | simp [cV,bF]) (by first | (simp only[maxLen,List.length_map,List.length_append,List.length_cons,List.length_nil]; omega) | (simp [maxLen] <;> omega)) (by first | (simp only[List.length_map,List.length_append,List.length_cons,List.length_nil]; omega) | (simp <;> omega)) ?_)))))))))
     refine aQ (cD [0,9,44] rfl) (aE aA 1 rfl (aD (hK11 _ (aC (fun K12 hK12=>(aB (aE aA 3 rfl (aF rfl (cY rfl kJ jB (iZ rfl (by omega)) rfl (by simp only[List.length_map,Int.toNat_natCast] <;> omega) (by omega) (fT (k:=k) (by omega))) ?_))))))))
     refine aT hf rfl eO rfl rfl rfl (.inl rfl) (by first | rfl | (simp only[List.length_append,List.length_map,List.length_cons,List.length_nil,List.length_take] <;> omega)) rfl (by first | rfl | simp [cV,bF]) (by first | (simp only[maxLen,List.length_map,List.length_append,List.length_cons,List.length_nil]; omega) | (simp [maxLen] <;> omega)) (by first | (simp only[List.length_map,List.length_append,List.length_cons,List.length_nil]; omega) | (simp <;> omega)) ?_
     refine aQ (cD [49] rfl) (aE aA 2 rfl (aD (hK12 _ (aJ ?_))))
     refine⟨_,rfl,?_⟩
     rw[show onB l p=false from aOm (by omega)]
     refine(congrArg (fun z=>AV.tup [z,.s (.int .i64 0)]) (bV (g:=36) rfl ?_)).trans ?_
     · simp only[List.length_append,List.length_map,List.length_cons,List.length_nil,List.length_take]
     · rw[if_neg (by simp),if_neg (by simp),gN,hins]; first | (simp; done) | (simp; rfl)
   ·
    simp only[bs] at hg2
    refine bL aA 8 rfl (gE [0,8,9,33] rfl rfl rfl (hK9 _ (bD rfl (bA (hK7 _ (aC (fun K13 hK13=>(aB ?_))))))))
    have hins:=wS (p,(t,1099511627776)) l k (by omega) h2 (fun h=>by have:=ordE_tri.swap l[k] (p,(t,1099511627776)); (try simp only[decide_eq_true_eq,decide_eq_false_iff_not,Bool.not_eq_true'] at *); omega)
    refine cP hf rfl rfl rfl eO rfl rfl rfl rfl (l2 rfl) ?_
    refine aE aA 2 rfl (aF rfl (cY rfl kJ jB rfl (iZ rfl (by omega)) (by omega) (by simp only[List.length_map,Int.toNat_natCast] <;> omega) (iW (k:=k) (by omega))) ?_)
    refine aT hf rfl eO rfl rfl rfl (.inl rfl) (by first | rfl | (simp only[List.length_append,List.length_map,List.length_cons,List.length_nil,List.length_take] <;> omega)) rfl (by first | rfl | simp [cV,bF]) (by first | (simp only[maxLen,List.length_map,List.length_append,List.length_cons,List.length_nil]; omega) | (simp [maxLen] <;> omega)) (by first | (simp only[List.length_map,List.length_append,List.length_cons,List.length_nil]; omega) | (simp <;> omega)) ?_
    refine aQ (cD [0,8,9,40] rfl) (aE aA 1 rfl (aD (hK13 _ (aC (fun K14 hK14=>(aB (aE aA 2 rfl (aK hf rfl (aN eO rfl rfl rfl rfl (l2 rfl)) (aT hf rfl eO rfl rfl rfl (.inl rfl) (by first | rfl | (simp only[List.length_append,List.length_map,List.length_cons,List.length_nil,List.length_take] <;> omega)) rfl (by first | rfl | simp [cV,bF]) (by first | (simp only[maxLen,List.length_map,List.length_append,List.length_cons,List.length_nil]; omega) | (simp [maxLen] <;> omega)) (by first | (simp only[List.length_map,List.length_append,List.length_cons,List.length_nil]; omega) | (simp <;> omega)) ?_)))))))))
    refine aQ (cD [0,9,44] rfl) (aE aA 1 rfl (aD (hK14 _ (aC (fun K15 hK15=>(aB (aE aA 3 rfl (aF rfl (cY rfl kJ jB (iZ rfl (by omega)) rfl (by simp only[List.length_map,Int.toNat_natCast] <;> omega) (by omega) (fT (k:=k) (by omega))) ?_))))))))
    refine aT hf rfl eO rfl rfl rfl (.inl rfl) (by first | rfl | (simp only[List.length_append,List.length_map,List.length_cons,List.length_nil,List.length_take] <;> omega)) rfl (by first | rfl | simp [cV,bF]) (by first | (simp only[maxLen,List.length_map,List.length_append,List.length_cons,List.length_nil]; omega) | (simp [maxLen] <;> omega)) (by first | (simp only[List.length_map,List.length_append,List.length_cons,List.length_nil]; omega) | (simp <;> omega)) ?_
    refine aQ (cD [49] rfl) (aE aA 2 rfl (aD (hK15 _ (aJ ?_))))
    refine⟨_,rfl,?_⟩
    rw[show onB l p=false from aOm (by omega)]
    refine(congrArg (fun z=>AV.tup [z,.s (.int .i64 0)]) (bV (g:=36) rfl ?_)).trans ?_
    · simp only[List.length_append,List.length_map,List.length_cons,List.length_nil,List.length_take]
    · rw[if_neg (by simp),if_neg (by simp),gN,hins]; first | (simp; done) | (simp; rfl)
theorem aDt (l:List En) (p:Pr) (t:Int) (hl:l.length*48+48≤140737488355328) :Den Tryz.prog 104 [.sl 4 (l.map enC),.agg (prC p),.s (.int .i64 t)]  (·=.tup [.sl 4 ((if onB l p then jH l p t else []).map enC),.s (.int .i64 (if onB l p then 0 else 91))]):=by
 refine aS Tryz.func104 rfl (Nat.le_of_ble_eq_true rfl) (fun w0 A hf=>(aC (fun K1 hK1=>(aB (aK hf rfl (cL rfl rfl (lf rfl)) (aF rfl (bE) (aE aA 1 rfl (aD (hK1 _ (aC (fun K2 hK2=>(aB (aE aA 2 rfl (aK hf rfl (aR rfl rfl zL rfl (wE _ _ (by omega))) (aE aA 1 rfl ?_)))))))))))))))
 refine aD (hK2 _ (aC (fun K3 hK3=>(aC (fun K4 hK4=>(aB (aE aA 2 rfl (aD (hK4 _ (aI rfl (fun hc1=>?_) (fun hc1=>?_)))))))))))
 ·
  simp only[bs] at hc1
  refine aC (fun K5 hK5=>(aB (aF rfl (oZ (k:=4)) (aE aA 1 rfl (aD (hK5 _ (aJ ?_)))))))
  refine⟨_,rfl,?_⟩
  rw[show onB l p=false from aOm (by omega)]; rfl
 ·
  simp only[bs] at hc1
  obtain ⟨n,hn,en,hn1,hn2⟩:∃ n:Nat,∃ h:n<l.length,kZ (dY p) l=(n:Nat)∧dY p l[n]=true∧∀ (j:Nat) (hj:j<l.length),j<n→dY p l[j]=false:=by
    rcases dE (dY p) l with ⟨e,_⟩ | ⟨k',h1,e,h2,h3⟩
    · exfalso; omega
    · exact⟨k',h1,e,h2,h3⟩
  rw[en]
  refine aL (hK3 _ (aC (fun K6 hK6=>(aB (jK hf 4 rfl rfl rfl (aD (hK6 _ (aC (fun K7 hK7=>(aC (fun K8 hK8=>(aB (aE aA 1 rfl (aD (hK8 _ ?_)))))))))))))))
  refine aO (bS (ι:=Nat×List En) (fun(⟨k,out⟩:Nat×List En)=>⟨47,[(0,.sl 4 (l.map enC)),(2,.s (.int .i64 t)),(8,.s (.int .i64 (n:Nat))),(9,.own 9 4 0 out.length),(10,.s (.int .i64 (k:Nat)))],[(9,.buf 4 (out.map enC))]⟩) (fun(⟨k,out⟩:Nat×List En)=>RevI l n t k out) (fun(⟨k,out⟩:Nat×List En)=>l.length - k) (0,[]) ?_ ?_ ?_)
  · exact RevI.start t hn
  · exact dN rfl
  ·
   rintro ⟨k,out⟩ hC
   have h1:=hC.1
   have h2:=hC.len
   refine aC (fun K9 hK9=>(aC (fun K10 hK10=>(aB (aE aA 4 rfl (aD (hK10 _ (aI rfl (fun hc2=>?_) (fun hc2=>?_)))))))))
   ·
    simp only[bs] at hc2
    refine aL (hK9 _ (aC (fun K11 hK11=>(aO (aC (fun K12 hK12=>(aB (aE aA 2 rfl ?_))))))))
    refine aF rfl (aW rfl rfl kJ jB (by first | exact ixm (by omega) | assumption | exact⟨by decide,rfl⟩)) ?_
    refine aE aA 1 rfl (bQ hf rfl rfl rfl aC7 (aP hf rfl rfl jB rfl rfl (l1 rfl) (l4 rfl) rfl (aD (hK12 _ (aC (fun K13 hK13=>(aC (fun K14 hK14=>(aB (aE aA 3 rfl (aD (hK14 _ (aI rfl (fun hc3=>?_) (fun hc3=>?_))))))))))))))
    ·
     simp only[bs] at hc3
     refine aB (aE aA 2 rfl (aP hf rfl rfl cB rfl rfl (l1 rfl) (l4 rfl) rfl (aD (hK13 _ (aC (fun K15 hK15=>(aB ?_)))))))
     refine aQ (pZ (nee 11) (sl':=[(0,.sl 4 (l.map enC)),(2,.s (.int .i64 t)),(8,.s (.int .i64 (n:Nat))),(9,.own 9 4 0 out.length),(10,.s (.int .i64 (k:Nat))),(11,.adr (enC (l[k].1,(l[k].2.1,t))))]) (m':=[(9,.buf 4 (out.map enC))]) ⟨⟨_,rfl,rfl⟩,⟨_,rfl,rfl⟩,⟨_,rfl,rfl⟩,⟨_,rfl,rfl⟩,⟨_,rfl,rfl⟩,⟨_,rfl,rfl⟩,trivial⟩ rfl) ?_
     refine aE aA 4 rfl (aY rfl rfl rfl (fun hg4=>?_) (fun hg4=>?_))
     ·
      simp only[bs] at hg4
      refine aF rfl (bZ rfl zC cB rfl) ?_
      refine aE aA 5 rfl (aD (hK15 _ (aI rfl (fun hc5=>?_) (fun hc5=>?_))))
      ·
       simp only[bs] at hc5
       refine aB (aE aA 2 rfl (aK hf rfl (aN eO rfl rfl rfl rfl (l2 rfl)) (aT hf rfl eO rfl rfl rfl (.inl rfl) (by rw[List.length_map]) rfl (by first | rfl | simp [cV,bF]) (by first | (simp only[maxLen,List.length_map,List.length_append,List.length_cons,List.length_nil]; omega) | (simp [maxLen] <;> omega)) (by first | (simp only[List.length_map,List.length_append,List.length_cons,List.length_nil]; omega) | (simp <;> omega)) ?_)))
       refine aQ (cD [0,2,8,10,45] rfl) (aE aA 1 rfl ?_)
       refine bB ?_
       refine hK11 _ (aB (aE aA 1 rfl ?_))
       refine aF rfl (bJ rfl rfl (by omega) (by omega)) ?_
       refine aE aA 1 rfl (aD ?_)
       exact⟨(k+1,out++[(l[k].1,(l[k].2.1,t))]),hC.keep (by omega) (by omega) (by omega),by simp only; omega,bT ⟨rfl,rfl,rfl,(by rw[List.length_append]; rfl),rfl,trivial⟩ (by rw[List.map_append]; rfl)⟩
      ·
       simp only[bs] at hc5
       refine aL (hK11 _ (aB (aE aA 1 rfl ?_)))
       refine aF rfl (bJ rfl rfl (by omega) (by omega)) ?_
       refine aE aA 1 rfl (aD ?_)
       exact⟨(k+1,out),hC.gone (by omega) (by omega) (by omega),by simp only; omega,bT ⟨rfl,rfl,rfl,rfl,rfl,trivial⟩ rfl⟩
     ·
      simp only[bs] at hg4
      refine aE aA 5 rfl (aD (hK15 _ (cS rfl (aB (aE aA 2 rfl (aK hf rfl (aN eO rfl rfl rfl rfl (l2 rfl)) (aT hf rfl eO rfl rfl rfl (.inl rfl) (by rw[List.length_map]) rfl (by first | rfl | simp [cV,bF]) (by first | (simp only[maxLen,List.length_map,List.length_append,List.length_cons,List.length_nil]; omega) | (simp [maxLen] <;> omega)) (by first | (simp only[List.length_map,List.length_append,List.length_cons,List.length_nil]; omega) | (simp <;> omega)) ?_)))))))
      refine aQ (cD [0,2,8,10,45] rfl) (aE aA 1 rfl ?_)
      refine bB ?_
      refine hK11 _ (aB (aE aA 1 rfl ?_))
      refine aF rfl (bJ rfl rfl (by omega) (by omega)) ?_
      refine aE aA 1 rfl (aD ?_)
      (exfalso; omega)
    ·
     simp only[bs] at hc3
     refine aL (hK13 _ (aC (fun K16 hK16=>(aB ?_))))
     refine aQ (pZ (nee 11) (sl':=[(0,.sl 4 (l.map enC)),(2,.s (.int .i64 t)),(8,.s (.int .i64 (n:Nat))),(9,.own 9 4 0 out.length),(10,.s (.int .i64 (k:Nat))),(11,.adr (enC l[k]))]) (m':=[(9,.buf 4 (out.map enC))]) ⟨⟨_,rfl,rfl⟩,⟨_,rfl,rfl⟩,⟨_,rfl,rfl⟩,⟨_,rfl,rfl⟩,⟨_,rfl,rfl⟩,⟨_,rfl,rfl⟩,trivial⟩ rfl) ?_
     refine aE aA 4 rfl (aY rfl rfl rfl (fun hg7=>?_) (fun hg7=>?_))
     ·
      simp only[bs] at hg7
      refine aF rfl (bZ rfl zC cB rfl) ?_
      refine aE aA 5 rfl (aD (hK16 _ (aI rfl (fun hc8=>?_) (fun hc8=>?_))))
      ·
       simp only[bs] at hc8
       refine aB (aE aA 2 rfl (aK hf rfl (aN eO rfl rfl rfl rfl (l2 rfl)) (aT hf rfl eO rfl rfl rfl (.inl rfl) (by rw[List.length_map]) rfl (by first | rfl | simp [cV,bF]) (by first | (simp only[maxLen,List.length_map,List.length_append,List.length_cons,List.length_nil]; omega) | (simp [maxLen] <;> omega)) (by first | (simp only[List.length_map,List.length_append,List.length_cons,List.length_nil]; omega) | (simp <;> omega)) ?_)))
       refine aQ (cD [0,2,8,10,45] rfl) (aE aA 1 rfl ?_)
       refine bB ?_
       refine hK11 _ (aB (aE aA 1 rfl ?_))
       refine aF rfl (bJ rfl rfl (by omega) (by omega)) ?_
       refine aE aA 1 rfl (aD ?_)
       (exfalso; omega)
      ·
       simp only[bs] at hc8
       refine aL (hK11 _ (aB (aE aA 1 rfl ?_)))
       refine aF rfl (bJ rfl rfl (by omega) (by omega)) ?_
       refine aE aA 1 rfl (aD ?_)
       (exfalso; omega)
     ·
      simp only[bs] at hg7
      refine aE aA 5 rfl (aD (hK16 _ (cS rfl (aB (aE aA 2 rfl (aK hf rfl (aN eO rfl rfl rfl rfl (l2 rfl)) (aT hf rfl eO rfl rfl rfl (.inl rfl) (by rw[List.length_map]) rfl (by first | rfl | simp [cV,bF]) (by first | (simp only[maxLen,List.length_map,List.length_append,List.length_cons,List.length_nil]; omega) | (simp [maxLen] <;> omega)) (by first | (simp only[List.length_map,List.length_append,List.length_cons,List.length_nil]; omega) | (simp <;> omega)) ?_)))))))
      refine aQ (cD [0,2,8,10,45] rfl) (aE aA 1 rfl ?_)
      refine bB ?_
      refine hK11 _ (aB (aE aA 1 rfl ?_))
      refine aF rfl (bJ rfl rfl (by omega) (by omega)) ?_
      refine aE aA 1 rfl (aD ?_)
      exact⟨(k+1,out++[l[k]]),hC.ne (by omega) (by omega),by simp only; omega,bT ⟨rfl,rfl,rfl,(by rw[List.length_append]; rfl),rfl,trivial⟩ (by rw[List.map_append]; rfl)⟩
   ·
    simp only[bs] at hc2
    refine bA (hK7 _ (aC (fun K17 hK17=>(aB (aE aA 3 rfl (aD (hK17 _ (aJ ?_))))))))
    refine⟨_,rfl,?_⟩
    rw[show onB l p=true from aMj hn hn1]
    refine(congrArg (fun z=>AV.tup [z,.s (.int .i64 0)]) (bV (g:=9) rfl (by rw[List.length_map]))).trans ?_
    rw[if_pos rfl,if_pos rfl,hC.fin (by omega) hn2 (fun _=>hn1)]
end Go.Proofs.YtijnkglkchhomaaGreat
set_option linter.unusedVariables false
set_option linter.unusedSimpArgs false
namespace Go.Proofs.YtijnkglkchhomaaGreat
open Go Go.Abs
theorem aBu (l:List En) (u:ByteArray) (hl:l.length*48+48≤140737488355328) :Den Tryz.prog 106 [.sl 4 (l.map enC),.s (.string u)]  (·=.sl 4 ((l.filter (fun e=>!mQ u e)).map enC)):=by
 refine aS Tryz.func106 rfl (Nat.le_of_ble_eq_true rfl) (fun w0 A hf=>(aC (fun K1 hK1=>(aB (aF rfl (bE) (aD (hK1 _ (aC (fun K2 hK2=>(aB (jK hf 4 rfl rfl rfl (aD (hK2 _ (aC (fun K3 hK3=>(aC (fun K4 hK4=>?_)))))))))))))))))
 refine aB (aE aA 1 rfl (aD (hK4 _ (aO (bS (ι:=Nat×List En) (fun(⟨k,out⟩:Nat×List En)=>⟨37,[(0,.sl 4 (l.map enC)),(1,.s (.string u)),(5,.own 5 4 0 out.length),(6,.s (.int .i64 (k:Nat)))],[(5,.buf 4 (out.map enC))]⟩) (fun(⟨k,out⟩:Nat×List En)=>k≤l.length∧out=((l.take k).filter (fun e=>!mQ u e))∧out.length≤k) (fun(⟨k,out⟩:Nat×List En)=>l.length - k) (0,[]) ?_ ?_ ?_)))))
 · exact⟨Nat.zero_le _,rfl,Nat.le_refl _⟩
 · exact dN rfl
 ·
  rintro ⟨k,out⟩ hC
  obtain ⟨h1,h2,h3⟩:=hC
  refine aC (fun K5 hK5=>(aC (fun K6 hK6=>(aB (aE aA 4 rfl (aD (hK6 _ (aI rfl (fun hc1=>?_) (fun hc1=>?_)))))))))
  ·
   simp only[bs] at hc1
   refine aL (hK5 _ (aC (fun K7 hK7=>(aO (aC (fun K8 hK8=>(aB (aE aA 2 rfl ?_))))))))
   refine aF rfl (aW rfl rfl kJ jB (by first | exact ixm (by omega) | assumption | exact⟨by decide,rfl⟩)) ?_
   refine aE aA 5 rfl (aY rfl rfl rfl (fun hg2=>?_) (fun hg2=>?_))
   ·
    simp only[bs] at hg2
    refine aF rfl (fA rfl) (aE aA 1 rfl (bK rfl rfl rfl ?_))
    refine aF rfl (aW rfl rfl kJ jB (by first | exact ixm (by omega) | assumption | exact⟨by decide,rfl⟩)) ?_
    refine aE aA 5 rfl (aD (hK8 _ (aI rfl (fun hc3=>?_) (fun hc3=>?_))))
    ·
     simp only[bs] at hc3
     refine aB (aE aA 3 rfl ?_)
     refine aF rfl (aW rfl rfl kJ jB (by first | exact ixm (by omega) | assumption | exact⟨by decide,rfl⟩)) ?_
     refine aE aA 1 rfl (aK hf rfl (aN eO rfl rfl rfl rfl (l2 rfl)) (aT hf rfl eO rfl rfl rfl (.inl rfl) (by rw[List.length_map]) rfl (by first | rfl | simp [cV,bF]) (by first | (simp only[maxLen,List.length_map,List.length_append,List.length_cons,List.length_nil]; omega) | (simp [maxLen] <;> omega)) (by first | (simp only[List.length_map,List.length_append,List.length_cons,List.length_nil]; omega) | (simp <;> omega)) ?_))
     refine aQ (cD [0,1,6,35] rfl) (aE aA 1 rfl ?_)
     refine bB ?_
     refine hK7 _ (aB (aE aA 1 rfl ?_))
     refine aF rfl (bJ rfl rfl (by omega) (by omega)) ?_
     refine aE aA 1 rfl (aD ?_)
     exact⟨(k+1,out++[l[k]]),⟨by omega,by rw[h2,aMx (by omega) (hasU_f (by assumption) (by assumption))],by rw[List.length_append]; simp only[List.length_cons,List.length_nil]; omega⟩,by simp only; omega,bT ⟨rfl,rfl,(by rw[List.length_append]; rfl),rfl,trivial⟩ (by rw[List.map_append]; rfl)⟩
    ·
     simp only[bs] at hc3
     refine aL (hK7 _ (aB (aE aA 1 rfl ?_)))
     refine aF rfl (bJ rfl rfl (by omega) (by omega)) ?_
     refine aE aA 1 rfl (aD ?_)
     exact⟨(k+1,out),⟨by omega,by rw[h2,aGe (by omega) (aR1 (by first | exact .inl (by assumption) | exact .inr (by assumption)))],by omega⟩,by simp only; omega,bT ⟨rfl,rfl,rfl,rfl,trivial⟩ rfl⟩
   ·
    simp only[bs] at hg2
    refine aE aA 7 rfl (aD (hK8 _ (bD rfl (aL (hK7 _ (aB (aE aA 1 rfl ?_)))))))
    refine aF rfl (bJ rfl rfl (by omega) (by omega)) ?_
    refine aE aA 1 rfl (aD ?_)
    exact⟨(k+1,out),⟨by omega,by rw[h2,aGe (by omega) (aR1 (by first | exact .inl (by assumption) | exact .inr (by assumption)))],by omega⟩,by simp only; omega,bT ⟨rfl,rfl,rfl,rfl,trivial⟩ rfl⟩
  ·
   simp only[bs] at hc1
   refine bA (hK3 _ (aC (fun K9 hK9=>(aB (aE aA 2 rfl (aD (hK9 _ (aJ ?_))))))))
   refine⟨_,rfl,?_⟩
   refine(bV (g:=5) rfl (by rw[List.length_map])).trans ?_
   rw[h2,List.take_of_length_le (by omega)]
theorem aGy (l:List En) (u:ByteArray) (hl:l.length*48+48≤140737488355328) :Den Tryz.prog 134 [.sl 4 (l.map enC),.s (.string u)]  (·=.sl 4 ((l.filter fun e=>!mQ u e).map enC)):=by
 refine aS Tryz.func134 rfl (Nat.le_of_ble_eq_true rfl) (fun w0 A hf=>(aC (fun K1 hK1=>(aB (aK hf rfl (cL rfl rfl (lf rfl)) (aF rfl (bE) (aD (hK1 _ (aC (fun K2 hK2=>(aB (aE aA 1 rfl (gW hf rfl rfl rfl rfl rfl pM rfl (pH _ (by omega)) ?_)))))))))))))
 rintro _ rfl
 refine aF rfl (iJ rfl) (gA hf 6 rfl rfl rfl rfl rfl aK9 (aAj aKy rfl (fun _=>rfl) (mQ u) l _ (by rw[List.length_map]) (by omega) (fun x _=>aFo x u)) ?_)
 rintro r zs ⟨rfl,rfl⟩
 refine aE aA 1 rfl (aD (hK2 _ (aJ ?_)))
 refine⟨_,rfl,?_⟩
 exact bV (g:=6) rfl (by rw[List.length_map])
theorem aH6 (l:List En) (p:Pr) (hl:l.length*48+48≤140737488355328) :Den Tryz.prog 37 [.sl 4 (l.map enC),.agg (prC p)]  (·=.sl 2 (qV l p |>.map spC)):=by
 refine aS Tryz.func37 rfl (Nat.le_of_ble_eq_true rfl) (fun w0 A hf=>(aC (fun K1 hK1=>(aB (aK hf rfl (cL rfl rfl (lf rfl)) (aF rfl (bE) (aD (hK1 _ (aC (fun K2 hK2=>(aB (jK hf 2 rfl rfl rfl (aD (hK2 _ (aC (fun K3 hK3=>?_))))))))))))))))
 refine aC (fun K4 hK4=>(aB (aE aA 3 rfl (aD (hK4 _ (aO (bS (ι:=Nat×List Sp) (fun(⟨k,out⟩:Nat×List Sp)=>⟨26,[(3,.adr (prC p)),(5,.own 5 2 0 out.length),(8,.sl 4 (l.map enC)),(9,.s (.int .i64 ((l.map enC).length:Nat))),(10,.s (.int .i64 (k:Nat)))],[(5,.buf 2 (out.map spC))]⟩) (fun(⟨k,out⟩:Nat×List Sp)=>k≤l.length∧out=(((l.take k).filter (ofB p)).map Prod.snd)∧out.length≤k) (fun(⟨k,out⟩:Nat×List Sp)=>l.length - k) (0,[]) ?_ ?_ ?_)))))))
 · exact⟨Nat.zero_le _,rfl,Nat.le_refl _⟩
 · exact dN rfl
 ·
  rintro ⟨k,out⟩ hC
  obtain ⟨h1,h2,h3⟩:=hC
  refine aC (fun K5 hK5=>(aB (aE aA 1 rfl (aD (hK5 _ (aC (fun K6 hK6=>(aI rfl (fun hc1=>?_) (fun hc1=>?_)))))))))
  ·
   simp only[bs] at hc1
   refine aL (hK6 _ (aC (fun K7 hK7=>(aO (aC (fun K8 hK8=>(aB ?_)))))))
   refine aF rfl (aW rfl rfl fZ eR (by first | exact ixm (by omega) | assumption | exact⟨by decide,rfl⟩)) ?_
   refine aE aA 1 rfl (cH hf rfl oO rfl eR rfl rfl rfl rfl (lf rfl) (aD (hK8 _ (aC (fun K9 hK9=>(aB (aE aA 3 rfl (aF rfl (iR rfl rfl aJ0 (aeq_pr (x:=l[k].1) (y:=p))) (aD (hK9 _ (aI rfl (fun hc2=>?_) (fun hc2=>?_))))))))))))
   ·
    simp only[bs] at hc2
    refine aB (aE aA 3 rfl (aK hf rfl (aN kU rfl rfl rfl rfl (l2 rfl)) (aT hf rfl kU rfl rfl rfl (.inl rfl) (by rw[List.length_map]) rfl (by first | rfl | simp [cV,bF]) (by first | (simp only[maxLen,List.length_map,List.length_append,List.length_cons,List.length_nil]; omega) | (simp [maxLen] <;> omega)) (by first | (simp only[List.length_map,List.length_append,List.length_cons,List.length_nil]; omega) | (simp <;> omega)) ?_)))
    refine aQ (cD [3,8,9,10,22] rfl) (aE aA 1 rfl ?_)
    refine bB ?_
    refine hK7 _ (aB ?_)
    refine aF rfl (bJ rfl rfl (by omega) (by omega)) ?_
    refine aE aA 1 rfl (aD ?_)
    exact⟨(k+1,out++[l[k].2]),⟨by omega,by rw[h2,aMx (by omega) (by simp_all[ofB]),List.map_append]; rfl,by rw[List.length_append]; simp only[List.length_cons,List.length_nil]; omega⟩,by simp only; omega,bT ⟨rfl,(by rw[List.length_append]; rfl),rfl,rfl,rfl,trivial⟩ (by rw[List.map_append]; rfl)⟩
   ·
    simp only[bs] at hc2
    refine aL (hK7 _ (aB ?_))
    refine aF rfl (bJ rfl rfl (by omega) (by omega)) ?_
    refine aE aA 1 rfl (aD ?_)
    exact⟨(k+1,out),⟨by omega,by rw[h2,aGe (by omega) (by simp_all[ofB])],by omega⟩,by simp only; omega,bT ⟨rfl,rfl,rfl,rfl,rfl,trivial⟩ rfl⟩
  ·
   simp only[bs] at hc1
   refine bA (hK3 _ (aC (fun K10 hK10=>(aB (aQ (aEz (sl':=[(5,.sl 2 (out.map spC))]) ⟨⟨_,rfl,aB7 (g:=5) rfl (by rw[List.length_map])⟩,trivial⟩) ?_)))))
   refine aE aA 1 rfl (aK hf rfl (aR rfl rfl aNl rfl (aRr out (by omega))) (aE aA 1 rfl (aD (hK10 _ (aJ ?_)))))
   refine⟨_,rfl,?_⟩
   show AV.sl 2 ((oE out).map spC)=_
   rw[h2,List.take_of_length_le (by omega)]; rfl
end Go.Proofs.YtijnkglkchhomaaGreat
set_option linter.unusedVariables false
set_option linter.unusedSimpArgs false
namespace Go.Abs
def aOe (x:List En) (p:Pr) (t:Int):List En:=if onB x p=true then jH x p t else gN x p t
def aS0 (x:List En) (a:Int):Prop:=aFs x=true∧∀ e∈x,e.2.1≤a∧(e.2.2=1099511627776∨e.2.2≤a)∧TS e.1.1∧TS e.1.2
theorem ordE_eq {a b:En}:mG a b=0↔a.1=b.1∧a.2.1=b.2.1:=by
  rw[sV,rB,aB2]
  refine and_congr_right fun _=>?_
  unfold iN; (repeat' split) <;> omega
theorem wO {e:En}:∀ {l:List En},l.Pairwise RisR→(∀ x∈l,¬ 0<mG x e→RisR x e)→(∀ x∈l,0<mG x e→RisR e x)→(xZ l e).Pairwise RisR
  | [],_,_,_=>by simp [xZ]
  | x::l,h,h1,h2=>by
    obtain ⟨hx,hl⟩:=List.pairwise_cons.1 h
    rw[xZ]
    split
    · rename_i h0
      refine List.pairwise_cons.2 ⟨fun y hy=>?_,h⟩
      rcases List.mem_cons.1 hy with rfl | hy
      · exact h2 _ (by simp) h0
      · refine h2 y (by simp [hy]) ?_
        have e1:=ordE_tri.lt_tr (show mG e x<0 by have:=ordE_tri.swap e x; omega) (hx y hy).1
        have:=ordE_tri.swap e y; omega
    · rename_i h0
      refine List.pairwise_cons.2 ⟨fun y hy=>?_,wO hl (fun z hz=>h1 z (by simp [hz])) (fun z hz=>h2 z (by simp [hz]))⟩
      rcases rE.1 hy with rfl | hy
      · exact h1 x (by simp) h0
      · exact hx y hy
theorem wC {p:Pr} {t:Int} {y:En}:∀ {l:List En},y∈jH l p t→y∈l∨∃ e∈l,dY p e=true∧e.2.1<t∧y=(e.1,(e.2.1,t))
  | [],h=>by simp [jH] at h
  | x::l,h=>by
    rw[jH] at h
    split at h
    · rename_i hf
      rcases List.mem_append.1 h with h | h
      · unfold nI at h
        split at h
        · simp at h
        · simp only[List.mem_singleton] at h
          exact .inr ⟨x,by simp,hf,by omega,h⟩
      · exact .inl (by simp [h])
    · rcases List.mem_cons.1 h with h | h
      · exact .inl (by simp [h])
      · rcases wC h with h | ⟨e,he,h⟩
        · exact .inl (by simp [h])
        · exact .inr ⟨e,by simp [he],h⟩
theorem rF {p:Pr} {e:En}:dY p e=true↔e.1=p∧e.2.2=1099511627776:=by simp [dY]
theorem wB {p:Pr} {t:Int}:∀ {l:List En},l.Pairwise RisR→(∀ y∈l,y.2.1<1099511627776)→(jH l p t).Pairwise RisR
  | [],_,_=>by simp [jH]
  | x::l,h,h1=>by
    obtain ⟨hx,hl⟩:=List.pairwise_cons.1 h
    rw[jH]
    split
    · rename_i hf
      have hF:=(rF.1 hf).2
      unfold nI
      split
      · exact hl
      · refine List.pairwise_cons.2 ⟨fun y hy=>⟨(hx y hy).1,fun e=>?_⟩,hl⟩
        have:=(hx y hy).2 e
        have:=h1 y (List.mem_cons_of_mem _ hy)
        omega
    · refine List.pairwise_cons.2 ⟨fun y hy=>?_,wB hl (fun z hz=>h1 z (by simp [hz]))⟩
      rcases wC hy with hy | ⟨e,he,_,_,rfl⟩
      · exact hx y hy
      · exact⟨(hx e he).1,fun e'=>(hx e he).2 e'⟩
theorem aE4 {x:List En} {a t:Int} {p:Pr} (h:aS0 x a) (h1:a≤t) (h2:t<1099511627776) (r1:dD p.1=true) (r2:dD p.2=true) (s1:TS p.1) (s2:TS p.2):aS0 (aOe x p t) t:=by
  obtain ⟨hr,he⟩:=h
  obtain ⟨ho,hp⟩:=(oU x).1 hr
  have hT:∀ e∈x,e.2.1<e.2.2:=fun e hm=>by have:=ho e hm; simp only[okE,Bool.and_eq_true,decide_eq_true_eq] at this; exact this.1
  have hF:∀ e∈x,e.2.1<1099511627776:=fun e hm=>by have:=(he e hm).1; omega
  unfold aOe
  split
  · refine⟨(oU _).2 ⟨fun y hy=>?_,wB hp hF⟩,fun y hy=>?_⟩
    · rcases wC hy with hy | ⟨e,hm,_,hlt,rfl⟩
      · exact ho y hy
      · have:=ho e hm
        simp only[okE,Bool.and_eq_true,decide_eq_true_eq] at this ⊢
        exact⟨hlt,this.2⟩
    · rcases wC hy with hy | ⟨e,hm,_,hlt,rfl⟩
      · obtain ⟨q1,q2,q3⟩:=he y hy
        exact⟨by omega,by omega,q3⟩
      · obtain ⟨q1,q2,q3⟩:=he e hm
        exact⟨by simp only; omega,.inr (by simp),q3⟩
  · rename_i hon
    refine⟨(oU _).2 ⟨fun y hy=>?_,wO hp (fun y hy hle=>?_) (fun y hy hlt=>?_)⟩,fun y hy=>?_⟩
    · rcases rE.1 hy with rfl | hy
      · simp [okE,h2,r1,r2]
      · exact ho y hy
    · have hne:¬ (y.1=p∧y.2.2=1099511627776):=fun hh=>hon (onB_iff.2 ⟨y,hy,hh⟩)
      obtain ⟨q1,q2,_⟩:=he y hy
      have q4:=hT y hy
      have hyt:y.1=p→y.2.2≤t:=fun e=>by rcases q2 with q2 | q2; exact absurd ⟨e,q2⟩ hne; omega
      refine⟨?_,fun e=>by simp only at e ⊢; exact hyt e⟩
      rcases Int.lt_or_eq_of_le (show mG y (p,(t,1099511627776))≤0 by omega) with e | e
      · exact e
      · exfalso
        obtain ⟨e1,e2⟩:=ordE_eq.1 e
        have:=hyt e1
        simp only at e2; omega
    · refine⟨by have:=ordE_tri.swap y (p,(t,1099511627776)); omega,fun e=>?_⟩
      exfalso
      simp only at e
      have q1:=(he y hy).1
      have:mG y (p,(t,1099511627776))=iN y.2.1 t:=by
        rw[sV,tD,if_neg (by simp [aB2,← e])]
      rw[this] at hlt
      unfold iN at hlt
      (repeat' split at hlt) <;> omega
    · rcases rE.1 hy with rfl | hy
      · exact⟨Int.le_refl _,.inl rfl,s1,s2⟩
      · obtain ⟨q1,q2,q3⟩:=he y hy
        exact⟨by omega,by omega,q3⟩
end Go.Abs
set_option linter.unusedVariables false
set_option linter.unusedSimpArgs false
namespace Go.Abs
theorem kA {s:ByteArray} (h:dD s=true):TS s:=by
  simp only[dD,Bool.and_eq_true,decide_eq_true_eq] at h
  have:=h.1.2
  show s.size≤_
  omega
theorem qZ {s:Sta} {x:bP}:qJ s x=true↔(∀ e∈s.opn,e.1.1=x.2.1→x.1.2≤e.2.2)∧0≤x.1.1∧x.1.2≤s.now∧1≤x.2.1∧x.2.1≤999∧1≤x.2.2∧x.2.2≤4:=by
  simp only[qJ,Bool.and_eq_true,decide_eq_true_eq,Bool.not_eq_true',List.any_eq_false,not_and,Int.not_lt]
theorem qY {s:Sta} {x:Us}:aPp s x=true↔x.2≠[]∧aDq x.2=true∧∀ y∈x.2,qJ s y=true:=by
  simp only[aPp,Bool.and_eq_true,Bool.not_eq_true',List.isEmpty_eq_false_iff,List.all_eq_true,ne_eq]
theorem jO {s:Sta} {e:En}:aEx s e=true↔0≤e.2.1∧e.2.1≤s.now∧(e.2.2≤s.now∨e.2.2=1099511627776):=by
  simp only[aEx,Bool.and_eq_true,Bool.or_eq_true,decide_eq_true_eq]
theorem sW {s:Sta} {x:Tm}:okTm s x=true↔0≤x.2∧x.2≤s.now:=by
  simp only[okTm,Bool.and_eq_true,decide_eq_true_eq]
theorem xU {e:Se}:aIa e=true↔dD e.1.2=true∧1≤e.1.1∧e.1.1≤999∧1≤e.2.1∧e.2.1≤4∧0≤e.2.2∧e.2.2≤1099511627775:=by
  simp only[aIa,Bool.and_eq_true,decide_eq_true_eq,and_assoc]
theorem aEr {s:Sta} (h:RightP s) {e:Se} (he:e∈s.opn):dD e.1.2=true∧1≤e.1.1∧e.1.1≤999∧1≤e.2.1∧e.2.1≤4∧0≤e.2.2∧e.2.2≤1099511627775 :=
  xU.1 (((kD _).1 h.opn).1.1 e he)
theorem aAu {l:List Us} {u:ByteArray} {p:Us→Prop} (h:cQ cR l) (hp:∀ x∈l,p x) (h0:p (u,[])):p (u,ofU l u):=by
  by_cases hh:mB cR l u=true
  · obtain ⟨hk,e⟩:=aB9 h hh
    rw[← e]; exact hp _ (List.getElem_mem hk)
  · rw[rA (Bool.eq_false_iff.2 hh)]; exact h0
theorem aPq {s:Sta} (h:RightP s) (u:ByteArray):aDq (ofU s.usr u)=true∧∀ y∈ofU s.usr u,qJ s y=true:=by
  have:=aAu (u:=u) (p:=fun x=>aDq x.2=true∧∀ y∈x.2,qJ s y=true) h.usr (fun x hx=>(qY.1 (h.uok x hx)).2) ⟨rfl,by simp⟩
  exact this
theorem aSu {l:List bP} {x y:bP} (h:y∈iC l x):y=x∨y∈l:=by
  unfold iC at h
  split at h
  · exact .inr h
  · exact List.mem_cons.1 ((gZ x l).mem_iff.1 h)
theorem aBd {s:Sta} {t:Int} {opn':List Se} {e:Se} (h:RightP s) (ht:s.now≤t) (ht1:t<1099511627776) (he:e∈s.opn) (hr:uP opn'=true) (hl:∀ x∈opn',x.2.2≤t)
    (hb:∀ x∈opn',(x∈s.opn∧x.1.1≠e.1.1)∨t≤x.2.2):RightP ⟨t,s.hor,opn',mO s.usr e.1.2 (fO e t),s.sub,s.tmb⟩:=by
  obtain ⟨g1,g2,g3,g4,g5,g6,g7⟩:=aEr h he
  have hold:∀ y,qJ s y=true→qJ ⟨t,s.hor,opn',mO s.usr e.1.2 (fO e t),s.sub,s.tmb⟩ y=true:=fun y hy=>by
    obtain ⟨a1,a2,a3,a4⟩:=qZ.1 hy
    refine qZ.2 ⟨fun x hx hn=>?_,a2,Int.le_trans a3 ht,a4⟩
    rcases hb x hx with ⟨h1,_⟩ | h1
    · exact a1 x h1 hn
    · exact Int.le_trans a3 (Int.le_trans ht h1)
  have hold2:∀ x,aPp s x=true→aPp ⟨t,s.hor,opn',mO s.usr e.1.2 (fO e t),s.sub,s.tmb⟩ x=true:=fun x hx=>by
    obtain ⟨a1,a2,a3⟩:=qY.1 hx
    exact qY.2 ⟨a1,a2,fun y hy=>hold y (a3 y hy)⟩
  have hmem:∀ x∈mO s.usr e.1.2 (fO e t),x∈s.usr∨(e.2.2<t∧x=(e.1.2,iC (ofU s.usr e.1.2) (fO e t))):=fun x hx=>by
    unfold mO at hx
    split at hx
    · exact .inl hx
    · rename_i hlt
      rcases lB.1 hx with ⟨hx,_⟩ | hx
      · exact .inl hx
      · unfold sH at hx
        split at hx
        · cases hx
        · exact .inr ⟨Int.not_le.1 hlt,List.mem_singleton.1 hx⟩
  refine⟨Int.le_trans h.n0 ht,ht1,h.h0,h.h1,hr,hl,fun x hx=>?_,?_,fun x hx=>?_,h.sub,fun y hy=>?_,h.tnm,h.tmb,fun x hx=>?_⟩
  · rcases hmem x hx with hx | ⟨_,rfl⟩
    · exact h.unm x hx
    · exact g1
  · show cQ cR (mO s.usr e.1.2 (fO e t))
    unfold mO
    split
    · exact h.usr
    · exact sM h.usr
  · rcases hmem x hx with hx | ⟨hlt,rfl⟩
    · exact hold2 x (h.uok x hx)
    · obtain ⟨q1,q2⟩:=aPq h e.1.2
      refine qY.2 ⟨fun e0=>?_,?_,fun y hy=>?_⟩
      · have h1:=aCh (ofU s.usr e.1.2) (fO e t)
        simp only at e0
        rw[iC,if_neg (show ¬ (fO e t).1.2≤(fO e t).1.1 from Int.not_le.2 hlt)] at e0
        rw[e0] at h1; simp at h1
      · show aDq (iC (ofU s.usr e.1.2) (fO e t))=true
        rw[ris_add q1,Bool.not_eq_true',List.any_eq_false]
        intro y hy hye
        simp only[decide_eq_true_eq] at hye
        have:=(qZ.1 (q2 y hy)).1 e he (by rw[hye]; rfl)
        rw[hye] at this
        exact absurd hlt (Int.not_lt.2 this)
      · rcases aSu hy with rfl | hy
        · refine qZ.2 ⟨fun x hx hn=>?_,g6,Int.le_refl _,g2,g3,g4,g5⟩
          rcases hb x hx with ⟨_,h1⟩ | h1
          · exact absurd hn h1
          · exact h1
        · exact hold y (q2 y hy)
  · obtain ⟨a,b,c⟩:=jO.1 (h.sok y hy)
    exact jO.2 ⟨a,Int.le_trans b ht,c.imp (fun c=>Int.le_trans c ht) id⟩
  · obtain ⟨a,b⟩:=sW.1 (h.tok x hx)
    exact sW.2 ⟨a,Int.le_trans b ht⟩
theorem oT {s s':Sta} (h:RightP s) (ht:s.now≤s'.now) (ht1:s'.now<1099511627776) (h0:0≤s'.hor) (h1:s'.hor<1099511627776) (hr:uP s'.opn=true) (hl:∀ x∈s'.opn,x.2.2≤s'.now)
    (hb:∀ x∈s'.opn,x∈s.opn∨s.now≤x.2.2) (hu:∀ x∈s'.usr,x∈s.usr) (hu2:cQ cR s'.usr) (hs:aFs s'.sub=true) (hs2:∀ e∈s'.sub,aEx s' e=true) (htm:cQ dZ s'.tmb) (htm2:∀ x∈s'.tmb,x∈s.tmb∨(dD x.1=true∧0≤x.2∧x.2≤s'.now)):RightP s':=by
  have hold:∀ y,qJ s y=true→qJ s' y=true:=fun y hy=>by
    obtain ⟨a1,a2,a3,a4⟩:=qZ.1 hy
    refine qZ.2 ⟨fun x hx hn=>?_,a2,Int.le_trans a3 ht,a4⟩
    rcases hb x hx with h1 | h1
    · exact a1 x h1 hn
    · exact Int.le_trans a3 h1
  refine⟨Int.le_trans h.n0 ht,ht1,h0,h1,hr,hl,fun x hx=>h.unm x (hu x hx),hu2,fun x hx=>?_,hs,hs2,fun x hx=>?_,htm,fun x hx=>?_⟩
  · obtain ⟨a1,a2,a3⟩:=qY.1 (h.uok x (hu x hx))
    exact qY.2 ⟨a1,a2,fun y hy=>hold y (a3 y hy)⟩
  · rcases htm2 x hx with h2 | h2
    · exact h.tnm x h2
    · exact h2.1
  · rcases htm2 x hx with h2 | h2
    · obtain ⟨a,b⟩:=sW.1 (h.tok x h2)
      exact sW.2 ⟨a,Int.le_trans b ht⟩
    · exact sW.2 h2.2
theorem xN {s:Sta} (h:RightP s) {t:Int} (ht:s.now≤t) {u:List Us} {o:List Se} {hr:Int} {tm:List Tm}:∀ e∈s.sub,aEx ⟨t,hr,o,u,s.sub,tm⟩ e=true:=fun e he=>by
  obtain ⟨a,b,c⟩:=jO.1 (h.sok e he)
  exact jO.2 ⟨a,Int.le_trans b ht,c.imp (fun c=>Int.le_trans c ht) id⟩
theorem aBs {s:Sta} (h:RightP s):aS0 s.sub s.now:=by
  refine⟨h.sub,fun e he=>?_⟩
  obtain ⟨a,b,c⟩:=jO.1 (h.sok e he)
  have:=((oU _).1 h.sub).1 e he
  simp only[okE,Bool.and_eq_true,decide_eq_true_eq] at this
  exact⟨b,c.symm,kA this.2.1,kA this.2.2⟩
theorem ev_at {e:Ev} (h:bH e=true):0≤e.at'∧e.at'<1099511627776:=by
  simp only[bH,Bool.and_eq_true,decide_eq_true_eq] at h
  exact⟨h.1,h.2.1⟩
theorem rG {e:Ev} (h:bH e=true):(e.kind=1∧dV e=true∧1≤e.st∧e.st≤4)∨(e.kind=2∧dV e=true∧1≤e.st∧e.st≤4)∨(e.kind=3∧dV e=true∧e.st=0)∨(e.kind=4∧dD e.user=true∧dD e.other=true∧e.n=0∧e.st=0)∨(e.kind=5∧dD e.user=true∧dD e.other=true∧e.n=0∧e.st=0)∨(e.kind=6∧e.user=bs0∧e.other=bs0∧e.st=0∧0≤e.n∧e.n<1099511627776)∨(e.kind=7∧dD e.user=true∧e.other=bs0∧e.n=0∧e.st=0):=by
  simp only[bH,Bool.and_eq_true,decide_eq_true_eq] at h
  obtain ⟨_,_,h⟩:=h
  split at h
  · rename_i hk
    simp only[Bool.and_eq_true,decide_eq_true_eq] at h
    rcases hk with hk | hk
    · exact .inl ⟨hk,h⟩
    · exact .inr (.inl ⟨hk,h⟩)
  · split at h
    · rename_i hk
      simp only[Bool.and_eq_true,decide_eq_true_eq] at h
      exact .inr (.inr (.inl ⟨hk,h⟩))
    · split at h
      · rename_i hk
        simp only[Bool.and_eq_true,decide_eq_true_eq] at h
        rcases hk with hk | hk
        · exact .inr (.inr (.inr (.inl ⟨hk,h⟩)))
        · exact .inr (.inr (.inr (.inr (.inl ⟨hk,h⟩))))
      · split at h
        · rename_i hk
          simp only[Bool.and_eq_true,decide_eq_true_eq] at h
          exact .inr (.inr (.inr (.inr (.inr (.inl ⟨hk,h⟩)))))
        · split at h
          · rename_i hk
            simp only[Bool.and_eq_true,decide_eq_true_eq] at h
            exact .inr (.inr (.inr (.inr (.inr (.inr ⟨hk,h⟩)))))
          · cases h
theorem aHg {e:Ev}:dV e=true↔1≤e.n∧e.n≤999∧dD e.user=true∧e.other=bs0:=by
  simp only[dV,Bool.and_eq_true,decide_eq_true_eq]
theorem aCv {l:List Se} {n:Int} {u:ByteArray} (h:fM l n u=0):∃ pre e post,l=pre++e::post∧e.1=(n,u)∧aJb l n=e∧(∀ st t,aJt l n st t=pre++(e.1,(st,t))::post)∧aJq l n=pre++post:=by
  obtain ⟨k,hk,ek,h1,h2,h3⟩:=wY h
  refine⟨l.take k,l[k],l.drop (k+1),?_,?_,?_,fun st t=>?_,?_⟩
  · rw[← List.drop_eq_getElem_cons hk,List.take_append_drop]
  · exact Prod.ext (by simpa [isN] using h1) h2
  · exact(lC n u 0 0 l k hk h3 h1).2.1
  · rw[(lC n u st t l k hk h3 h1).2.2.2.1,List.set_eq_take_append_cons_drop,if_pos hk]
  · exact(lC n u 0 0 l k hk h3 h1).2.2.2.2
theorem aOs {pre post:List Se} {e:Se} (h:uP (pre++e::post)=true):uP (pre++post)=true∧∀ x∈pre++post,x∈pre++e::post∧x.1.1≠e.1.1:=by
  obtain ⟨⟨h1,h2⟩,h3⟩:=(kD _).1 h
  have hm:∀ x∈pre++post,x∈pre++e::post:=fun x hx=>by
    rcases List.mem_append.1 hx with hx | hx
    · exact List.mem_append_left _ hx
    · exact List.mem_append_right _ (List.mem_cons_of_mem _ hx)
  obtain ⟨p1,p2,p3⟩:=List.pairwise_append.1 h2
  obtain ⟨p4,p5⟩:=List.pairwise_cons.1 p2
  refine⟨(kD _).2 ⟨⟨fun x hx=>h1 x (hm x hx),List.pairwise_append.2 ⟨p1,p5,fun a ha b hb=>p3 a ha b (List.mem_cons_of_mem _ hb)⟩⟩,by simp only[List.length_append,List.length_cons] at h3 ⊢; omega⟩,fun x hx=>⟨hm x hx,?_⟩⟩
  rcases List.mem_append.1 hx with hx | hx
  · have:=p3 x hx e (by simp); omega
  · have:=p4 x hx; omega
theorem chg_ris {pre post:List Se} {e e':Se} (h:uP (pre++e::post)=true) (he:aIa e'=true) (hn:e'.1.1=e.1.1):uP (pre++e'::post)=true:=by
  obtain ⟨⟨h1,h2⟩,h3⟩:=(kD _).1 h
  obtain ⟨p1,p2,p3⟩:=List.pairwise_append.1 h2
  obtain ⟨p4,p5⟩:=List.pairwise_cons.1 p2
  refine(kD _).2 ⟨⟨fun x hx=>?_,List.pairwise_append.2 ⟨p1,List.pairwise_cons.2 ⟨fun b hb=>by rw[hn]; exact p4 b hb,p5⟩,fun a ha b hb=>?_⟩⟩,by simp only[List.length_append,List.length_cons] at h3 ⊢; omega⟩
  · rcases List.mem_append.1 hx with hx | hx
    · exact h1 x (List.mem_append_left _ hx)
    · rcases List.mem_cons.1 hx with rfl | hx
      · exact he
      · exact h1 x (List.mem_append_right _ (List.mem_cons_of_mem _ hx))
  · rcases List.mem_cons.1 hb with rfl | hb
    · rw[hn]; exact p3 a ha e (by simp)
    · exact p3 a ha b (List.mem_cons_of_mem _ hb)
theorem aHl {l:List Se} (q:Se→Bool) (h:uP l=true):uP (l.filter q)=true:=by
  obtain ⟨⟨h1,h2⟩,h3⟩:=(kD _).1 h
  exact(kD _).2 ⟨⟨fun x hx=>h1 x (List.mem_filter.1 hx).1,h2.filter q⟩,Nat.le_trans (List.length_filter_le _ _) h3⟩
theorem aQ3 {l:List Tm} {u:ByteArray} {t:Int} (h:cQ dZ l):cQ dZ (pT l u t):=uA h (by simp) (by simp)
theorem aM2 {s:Sta} {e:Ev} (h:RightP s) (he:bH e=true) (ht:s.now≤e.at') (h0:(bG s e).2=0):RightP { (bG s e).1 with now:=e.at' }:=by
  obtain ⟨t0,t1⟩:=ev_at he
  rcases rG he with ⟨hk,hs,s1,s2⟩ | ⟨hk,hs,s1,s2⟩ | ⟨hk,hs,s1⟩ | ⟨hk,r1,r2,n0,s0⟩ | ⟨hk,r1,r2,n0,s0⟩ | ⟨hk,r1,r2,s0,n0,n1⟩ | ⟨hk,r1,r2,n0,s0⟩
  · obtain ⟨m1,m2,m3,m4⟩:=aHg.1 hs
    rw[bG,if_pos hk] at h0 ⊢
    simp only at h0 ⊢
    rw[show lG s.opn ((e.n,e.user),(e.st,e.at'))=aB6 s.opn ((e.n,e.user),(e.st,e.at')) from if_pos h0]
    have hm:∀ x∈aB6 s.opn ((e.n,e.user),(e.st,e.at')),x=((e.n,e.user),(e.st,e.at'))∨x∈s.opn:=fun x hx=>wQ.1 hx
    have h1:uP [((e.n,e.user),(e.st,e.at'))]=true:=(kD _).2 ⟨⟨fun x hx=>by rw[List.mem_singleton.1 hx]; exact xU.2 ⟨m3,m1,m2,s1,s2,t0,by show e.at'≤_; omega⟩,List.pairwise_singleton _ _⟩,by simp⟩
    refine oT h ht t1 h.h0 h.h1 (opn_ris h.opn h1 h0) (fun x hx=>?_) (fun x hx=>?_) (fun _ hx=>hx) h.usr h.sub (xN h ht) h.tmb (fun _ hx=>.inl hx)
    · rcases hm x hx with rfl | hx
      · exact Int.le_refl _
      · exact Int.le_trans (h.late x hx) ht
    · rcases hm x hx with rfl | hx
      · exact .inr ht
      · exact .inl hx
  · obtain ⟨m1,m2,m3,m4⟩:=aHg.1 hs
    rw[bG,if_neg (by omega),if_pos hk] at h0 ⊢
    simp only at h0 ⊢
    obtain ⟨pre,x,post,e1,e2,e3,e4,e5⟩:=aCv h0
    have hx:x∈s.opn:=by rw[e1]; simp
    have hn:x.1.1=e.n∧x.1.2=e.user:=by rw[e2]; exact⟨rfl,rfl⟩
    have hr:=h.opn
    rw[e1] at hr
    obtain ⟨q1,q2⟩:=aOs hr
    rw[show mD s.opn e.n e.user e.st e.at'=pre++(x.1,(e.st,e.at'))::post from by rw[mD,if_pos h0,e4],show stR s.opn e.n e.user e.at'=fO x e.at' from by rw[stR,if_pos h0,e3],← hn.2]
    have hm:∀ y∈pre++(x.1,(e.st,e.at'))::post,y=(x.1,(e.st,e.at'))∨y∈pre++post:=fun y hy=>by
      rcases List.mem_append.1 hy with hy | hy
      · exact .inr (List.mem_append_left _ hy)
      · rcases List.mem_cons.1 hy with hy | hy
        · exact .inl hy
        · exact .inr (List.mem_append_right _ hy)
    refine aBd h ht t1 hx (chg_ris hr (xU.2 ⟨by show dD x.1.2=true; rw[hn.2]; exact m3,by show 1≤x.1.1; omega,by show x.1.1≤999; omega,s1,s2,t0,by show e.at'≤_; omega⟩) rfl) (fun y hy=>?_) (fun y hy=>?_)
    · rcases hm y hy with rfl | hy
      · exact Int.le_refl _
      · exact Int.le_trans (h.late y (by rw[e1]; exact(q2 y hy).1)) ht
    · rcases hm y hy with rfl | hy
      · exact .inr (Int.le_refl _)
      · exact .inl ⟨by rw[e1]; exact(q2 y hy).1,(q2 y hy).2⟩
  · rw[bG,if_neg (by omega),if_neg (by omega),if_pos hk] at h0 ⊢
    simp only at h0 ⊢
    obtain ⟨pre,x,post,e1,e2,e3,e4,e5⟩:=aCv h0
    have hx:x∈s.opn:=by rw[e1]; simp
    have hn:x.1.2=e.user:=by rw[e2]
    have hr:=h.opn
    rw[e1] at hr
    obtain ⟨q1,q2⟩:=aOs hr
    rw[show mC s.opn e.n e.user=pre++post from by rw[mC,if_pos h0,e5],show stR s.opn e.n e.user e.at'=fO x e.at' from by rw[stR,if_pos h0,e3],← hn]
    exact aBd h ht t1 hx q1 (fun y hy=>Int.le_trans (h.late y (by rw[e1]; exact(q2 y hy).1)) ht) (fun y hy=>.inl ⟨by rw[e1]; exact(q2 y hy).1,(q2 y hy).2⟩)
  · rw[bG,if_neg (by omega),if_neg (by omega),if_neg (by omega),if_pos hk] at h0 ⊢
    simp only at h0 ⊢
    have hon:¬ onB s.sub (e.user,e.other)=true:=fun hh=>by rw[if_pos hh] at h0; omega
    rw[if_neg hon]
    have hg:=aE4 (p:=(e.user,e.other)) (aBs h) ht t1 r1 r2 (kA r1) (kA r2)
    rw[aOe,if_neg hon] at hg
    refine oT h ht t1 h.h0 h.h1 h.opn (fun x hx=>Int.le_trans (h.late x hx) ht) (fun _ hx=>.inl hx) (fun _ hx=>hx) h.usr hg.1 (fun y hy=>jO.2 ⟨?_,(hg.2 y hy).1,(hg.2 y hy).2.1.symm⟩) h.tmb (fun _ hx=>.inl hx)
    rcases rE.1 hy with rfl | hy
    · exact t0
    · exact(jO.1 (h.sok y hy)).1
  · rw[bG,if_neg (by omega),if_neg (by omega),if_neg (by omega),if_neg (by omega),if_pos hk] at h0 ⊢
    simp only at h0 ⊢
    have hon:onB s.sub (e.user,e.other)=true:=by
      by_cases hh:onB s.sub (e.user,e.other)=true
      · exact hh
      · rw[if_neg hh] at h0; omega
    rw[if_pos hon]
    have hg:=aE4 (p:=(e.user,e.other)) (aBs h) ht t1 r1 r2 (kA r1) (kA r2)
    rw[aOe,if_pos hon] at hg
    refine oT h ht t1 h.h0 h.h1 h.opn (fun x hx=>Int.le_trans (h.late x hx) ht) (fun _ hx=>.inl hx) (fun _ hx=>hx) h.usr hg.1 (fun y hy=>jO.2 ⟨?_,(hg.2 y hy).1,(hg.2 y hy).2.1.symm⟩) h.tmb (fun _ hx=>.inl hx)
    rcases wC hy with hy | ⟨z,hz,_,_,rfl⟩
    · exact(jO.1 (h.sok y hy)).1
    · exact(jO.1 (h.sok z hz)).1
  · rw[bG,if_neg (by omega),if_neg (by omega),if_neg (by omega),if_neg (by omega),if_neg (by omega),if_pos hk] at h0 ⊢
    have:=h.h0
    have:=h.h1
    exact oT h ht t1 (by show 0≤max s.hor e.n; omega) (by show max s.hor e.n<_; omega) h.opn (fun x hx=>Int.le_trans (h.late x hx) ht) (fun _ hx=>.inl hx) (fun _ hx=>hx) h.usr h.sub (xN h ht) h.tmb (fun _ hx=>.inl hx)
  · rw[bG,if_neg (by omega),if_neg (by omega),if_neg (by omega),if_neg (by omega),if_neg (by omega),if_neg (by omega)] at h0 ⊢
    refine oT h ht t1 h.h0 h.h1 (aHl _ h.opn) (fun x hx=>Int.le_trans (h.late x (List.mem_filter.1 hx).1) ht) (fun x hx=>.inl (List.mem_filter.1 hx).1) (fun x hx=>?_) (sM h.usr) (aHm _ h.sub) (fun y hy=>xN (o:=[]) (u:=[]) (hr:=0) (tm:=[]) h ht y (List.mem_filter.1 hy).1) (aQ3 h.tmb) (fun x hx=>?_)
    · rcases lB.1 hx with hx | hx
      · exact hx.1
      · unfold sH at hx; rw[if_pos rfl] at hx; cases hx
    · rcases lB.1 hx with hx | hx
      · exact .inl hx.1
      · rw[List.mem_singleton.1 hx]; exact .inr ⟨r1,t0,Int.le_refl _⟩
theorem zA {s:Sta} {e:Ev} (h:RightP s) (h0:(bI s e).2=0):RightP (bI s e).1:=by
  unfold bI at h0 ⊢
  split at h0
  · rename_i he
    rw[if_pos he]
    split at h0
    · simp at h0
    · rename_i ht
      rw[if_neg ht]
      split at h0
      · rename_i h2
        rw[if_pos h2]
        exact aM2 h he (Int.not_lt.1 ht) h2
      · rename_i h2; exact absurd h0 h2
  · simp at h0
theorem jG:RightP cU:=aEs.1 (by decide)
theorem aSr (l:List Us) (u:ByteArray) (x:bP) (h:cQ cR l):(mO l u x).length≤l.length+1:=by
  unfold mO; split
  · omega
  · have e:=(qT (u:=u) h).1
    have e2:=congrArg List.length e
    have:=@aHk u (iC (ofU l u) x)
    simp only[nW,vZ,List.length_append] at *
    omega
end Go.Abs
