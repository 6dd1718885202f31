import Derived.WalkKit
import Derived.WalkSpells
import Derived.WalkLawsBesides
import Derived.Deep.LoopGhost
import Derived.ChangeKeysEq
import Derived.Still
import Derived.Lib.AppendZeros
import Derived.Laws.StructEq
import Derived.OpenShut
import Derived.Scope
import Derived.Shelf.SlSortCmp.Kit1
import Derived.Shelf.SlSortCmp.InsertionK
import Derived.Lib.SlicesCompact
import Derived.ProofKit
import Derived.ChangeSame
import Derived.Carry
import Derived.SliceStrings
import Derived.ChangeMaps5
import Derived.Deep.Slices
import Derived.Test.YtpkanhklapfajaaGreatRows
import Derived.Shelf.Abstract
import Derived.Shelf.SlSortCmp.WholeK
import Derived.Shelf.SlSortCmp.Whole1
import Derived.Shelf.SlSortCmp.NoneTotal
import Derived.Deep.RegionLaw
import Derived.Lib.Walk
import Derived.Lib.Overlaps
import Derived.Lib.AppendZerosOnto
import Derived.Laws.CopyRow
import Derived.Test.YtpkanhklapfajaaGreatKQ1
import Derived.Test.YtpkanhklapfajaaGreatKQ2
import Derived.Test.YtpkanhklapfajaaGreatKQ3
set_option maxRecDepth 20000
set_option maxHeartbeats 16000000
set_option linter.unusedVariables false
set_option linter.unusedSimpArgs false
namespace Go.Proofs.YtpkanhklapfajaaGreat
open Go Go.Abs
theorem aM4 (l:List Sp) (hl:l.length≤100000000000) :Den Tryz.prog 100 [.sl 2 (l.map spC)]  (·=.sl 2 (dC l |>.map spC)):=by
 have hel:=aBa l
 refine aR Tryz.func100 rfl (Nat.le_of_ble_eq_true rfl) (fun w0 A hf=>(aC (fun K1 hK1=>(aB (aH rfl (bK) (aD (hK1 _ (aC (fun K2 hK2=>(aB (aE aA 1 rfl (aI hf rfl (aK rfl rfl aD1 rfl (aN9 _ (by omega))) (aE aA 1 rfl (aD (hK2 _ ?_)))))))))))))))
 refine aC (fun K3 hK3=>(aB (mC hf 2 rfl rfl rfl (aD (hK3 _ (aC (fun K4 hK4=>(aC (fun K5 hK5=>(aB (aE aA 1 rfl (aD (hK5 _ (aP (bT (ι:=Nat×List Sp) (fun(⟨k,out⟩:Nat×List Sp)=>⟨34,[(0,.sl 2 (l.map spC)),(3,.sl 1 ((gJ l).map aKx)),(4,.own 4 2 0 out.length),(5,.s (.int .i64 (k:Nat)))],[(4,.buf 2 (out.map spC))]⟩) (fun(⟨k,out⟩:Nat×List Sp)=>gG (eB l) [] (gJ l)=gG (eB l) out (((gJ l)).drop k)∧out.length≤k∧k≤(gJ l).length) (fun(⟨k,out⟩:Nat×List Sp)=>(gJ l).length - k) (0,[]) ?_ ?_ ?_)))))))))))))))
 · exact⟨rfl,Nat.le_refl _,Nat.zero_le _⟩
 · exact cQ rfl
 ·
  rintro ⟨k,out⟩ hC
  obtain ⟨hI,h1,h2⟩:=hC
  have hgl:=fun s=>aGg out s
  refine aC (fun K6 hK6=>(aC (fun K7 hK7=>(aB (aE aA 1 rfl ?_)))))
  refine aH rfl (bO rfl rfl (by omega) (by omega)) ?_
  refine aE aA 3 rfl (aD (hK7 _ (aL rfl (fun hc1=>?_) (fun hc1=>?_))))
  ·
   simp only[bs] at hc1
   refine aN (hK6 _ (aC (fun K8 hK8=>(aP (aC (fun K9 hK9=>(aB (aE aA 3 rfl ?_))))))))
   refine aH rfl (bG rfl rfl iF cA (by first | exact ixm (by omega) | assumption | exact⟨by decide,rfl⟩)) ?_
   refine aE aA 1 rfl (aI hf rfl (aK rfl rfl zW rfl (zC _ _ (by omega))) (aD (hK9 _ (aL rfl (fun hc2=>?_) (fun hc2=>?_)))))
   ·
    refine gL hf (L:=#[true,true,true,true,true,true,true,true,true,true,true,false,false]) 11 2 bE (by kernel_rfl) rfl (by kernel_rfl) rfl ?_
    refine aV aA 3 rfl ?_
    refine bQ [(22,_),(23,_)] rfl rfl ⟨⟨rfl,rfl⟩,⟨rfl,rfl⟩,trivial⟩ rfl (bG rfl rfl iF cA (by first | exact ixm (by omega) | assumption | exact⟨by decide,rfl⟩)) ?_
    refine aV aA 3 rfl ?_
    refine bQ [(27,_)] rfl rfl ⟨⟨rfl,rfl⟩,trivial⟩ rfl (bO rfl rfl (by omega) (by omega)) ?_
    refine bQ [(26,_),(28,_)] rfl rfl ⟨⟨rfl,rfl⟩,⟨rfl,rfl⟩,trivial⟩ rfl (bG rfl rfl iF cA (hY (k:=k+1) (by omega) (by omega))) (aV aA 1 rfl (bQ [(25,_),(30,_)] rfl rfl ⟨⟨rfl,rfl⟩,⟨rfl,rfl⟩,trivial⟩ rfl (bR rfl eL dP (l3 rfl) rfl) (rM [0,3,4,5,21,31] rfl rfl rfl ?_)))
    refine aG 11 [] (by kernel_rfl) ⟨?_,trivial⟩
    ·
     refine⟨_,rfl,rfl,(ao rfl (aTe hf 4 rfl rfl rfl rfl rfl rfl aD0 (aN1 out ((gJ l)[k],(gJ l)[k+1]) _ rfl (by omega)) ?_))⟩
     rintro _ rfl
     refine bD (cX [0,3,4,5,32] rfl) (aF (aG 12 [] (by kernel_rfl) ⟨?_,trivial⟩))
     ·
      refine⟨_,rfl,rfl,(ao rfl (aE aA 1 rfl (aF (bX (by kernel_rfl) ?_))))⟩
      refine hK8 _ (aB (aE aA 1 rfl ?_))
      refine aH rfl (bO rfl rfl (by omega) (by omega)) ?_
      refine aE aA 1 rfl (aD ?_)
      exact⟨(k+1,dU out ((gJ l)[k],(gJ l)[k+1])),⟨by rw[hI,nU _ _ _ _ (by omega),if_pos (by simp_all)],by have:=hgl ((gJ l)[k],(gJ l)[k+1]); omega,by omega⟩,by simp only; omega,cJ ⟨rfl,rfl,(by first | rfl | (show some (AV.own 4 2 0 ((dU _ _).map spC).length)=_; rw[List.length_map])),rfl,trivial⟩ rfl⟩
   ·
    refine aN (hK8 _ (aB (aE aA 1 rfl ?_)))
    refine aH rfl (bO rfl rfl (by omega) (by omega)) ?_
    refine aE aA 1 rfl (aD ?_)
    exact⟨(k+1,out),⟨by rw[hI,nU _ _ _ _ (by omega),if_neg (by simp_all)],by omega,by omega⟩,by simp only; omega,cJ ⟨rfl,rfl,(by first | rfl | (show some (AV.own 4 2 0 ((dU _ _).map spC).length)=_; rw[List.length_map])),rfl,trivial⟩ rfl⟩
  ·
   simp only[bs] at hc1
   refine bF (hK4 _ (aC (fun K10 hK10=>(aB (aE aA 2 rfl (aD (hK10 _ (aJ ?_))))))))
   refine⟨_,rfl,?_⟩
   refine(cI (g:=4) rfl (by rw[List.length_map])).trans ?_
   rw[show dC l=gG (eB l) [] (gJ l) from rfl,hI,aCz _ _ _ _ (by omega)]
theorem aCs (a b:List Sp) (ha:a.length≤10000000000) (hb0:b.length≤10000000000) :Den Tryz.prog 70 [.sl 2 (a.map spC),.sl 2 (b.map spC)]  (·=.sl 2 (mL a b |>.map spC)):=by
 have hel:=aBa (a++b)
 rw[List.length_append] at hel
 refine aR Tryz.func70 rfl (Nat.le_of_ble_eq_true rfl) (fun w0 A hf=>(aC (fun K1 hK1=>(aB (aH rfl (bK) (aD (hK1 _ (aC (fun K2 hK2=>(aB (dR hf rfl rfl rfl aY rfl rfl rfl rfl (l2 rfl) ?_)))))))))))
 refine aE aA 1 rfl (bH hf rfl aY rfl rfl rfl (.inl rfl) (by first | rfl | simp only[List.length_append,List.length_map,List.length_nil,Nat.zero_add]) rfl (by first | rfl | simp [eK,bL]) (by first | (simp only[maxLen,List.length_map,List.length_append,List.length_cons,List.length_nil]; omega) | (simp [maxLen] <;> omega)) (by first | (simp only[List.length_map,List.length_append,List.length_cons,List.length_nil]; omega) | (simp <;> omega)) ?_)
 refine bD (cX [0,1,10] rfl) (aE aA 1 rfl (bH hf rfl aY rfl rfl rfl (.inl rfl) (by first | rfl | simp only[List.length_append,List.length_map,List.length_nil,Nat.zero_add]) rfl (by first | rfl | simp [eK,bL]) (by first | (simp only[maxLen,List.length_map,List.length_append,List.length_cons,List.length_nil]; omega) | (simp [maxLen] <;> omega)) (by first | (simp only[List.length_map,List.length_append,List.length_cons,List.length_nil]; omega) | (simp <;> omega)) ?_))
 refine bD (cX [0,1,12] rfl) ?_
 have hab2:(a++b).length=a.length+b.length:=List.length_append
 refine bD (yA (sl':=[(12,.sl 2 ((a++b).map spC)),(0,_),(1,_)]) ⟨⟨_,rfl,(uM (g:=8) rfl (by simp only[List.length_append,List.length_map,List.length_nil])).trans (by rw[List.map_append]; rfl)⟩,⟨_,rfl,rfl⟩,⟨_,rfl,rfl⟩,trivial⟩) ?_
 refine aI hf rfl (aK rfl rfl aD1 rfl (aN9 _ (by omega))) (aE aA 1 rfl (aD (hK2 _ (aC (fun K3 hK3=>(aB (mC hf 2 rfl rfl rfl (aD (hK3 _ (aC (fun K4 hK4=>(aC (fun K5 hK5=>(aB (aE aA 1 rfl ?_)))))))))))))))
 refine aD (hK5 _ (aP (bT (ι:=Nat×List Sp) (fun(⟨k,out⟩:Nat×List Sp)=>⟨48,[(0,.sl 2 (a.map spC)),(1,.sl 2 (b.map spC)),(5,.sl 1 ((gJ (a++b)).map aKx)),(6,.own 6 2 0 out.length),(7,.s (.int .i64 (k:Nat)))],[(6,.buf 2 (out.map spC))]⟩) (fun(⟨k,out⟩:Nat×List Sp)=>gG (fun t=>eB a t&&eB b t) [] (gJ (a++b))=gG (fun t=>eB a t&&eB b t) out (((gJ (a++b))).drop k)∧out.length≤k∧k≤(gJ (a++b)).length) (fun(⟨k,out⟩:Nat×List Sp)=>(gJ (a++b)).length - k) (0,[]) ?_ ?_ ?_)))
 · exact⟨rfl,Nat.le_refl _,Nat.zero_le _⟩
 · exact cQ rfl
 ·
  rintro ⟨k,out⟩ hC
  obtain ⟨hI,h1,h2⟩:=hC
  have hgl:=fun s=>aGg out s
  refine aC (fun K6 hK6=>(aC (fun K7 hK7=>(aB (aE aA 1 rfl ?_)))))
  refine aH rfl (bO rfl rfl (by omega) (by omega)) ?_
  refine aE aA 3 rfl (aD (hK7 _ (aL rfl (fun hc1=>?_) (fun hc1=>?_))))
  ·
   simp only[bs] at hc1
   refine aN (hK6 _ (aC (fun K8 hK8=>(aP (aC (fun K9 hK9=>(aB (aE aA 3 rfl ?_))))))))
   refine aH rfl (bG rfl rfl iF cA (by first | exact ixm (by omega) | assumption | exact⟨by decide,rfl⟩)) ?_
   refine aE aA 1 rfl (aI hf rfl (aK rfl rfl zW rfl (zC _ _ (by omega))) (aE aA 1 rfl (aU rfl rfl rfl (fun hg2=>?_) (fun hg2=>?_))))
   ·
    refine aH rfl (fZ rfl) (aE aA 2 rfl (aX rfl rfl rfl ?_))
    refine aH rfl (bG rfl rfl iF cA (by first | exact ixm (by omega) | assumption | exact⟨by decide,rfl⟩)) ?_
    refine aE aA 1 rfl (aX rfl rfl rfl (aI hf rfl (aK rfl rfl zW rfl (zC _ _ (by omega))) (aE aA 1 rfl (aD (hK9 _ (aL rfl (fun hc3=>?_) (fun hc3=>?_)))))))
    ·
     refine gL hf (L:=#[true,true,true,true,true,true,true,true,true,true,true,false,false]) 11 2 bE (by kernel_rfl) rfl (by kernel_rfl) rfl ?_
     refine aV aA 3 rfl ?_
     refine bQ [(36,_),(37,_)] rfl rfl ⟨⟨rfl,rfl⟩,⟨rfl,rfl⟩,trivial⟩ rfl (bG rfl rfl iF cA (by first | exact ixm (by omega) | assumption | exact⟨by decide,rfl⟩)) ?_
     refine aV aA 3 rfl ?_
     refine bQ [(41,_)] rfl rfl ⟨⟨rfl,rfl⟩,trivial⟩ rfl (bO rfl rfl (by omega) (by omega)) ?_
     refine bQ [(40,_),(42,_)] rfl rfl ⟨⟨rfl,rfl⟩,⟨rfl,rfl⟩,trivial⟩ rfl (bG rfl rfl iF cA (hY (k:=k+1) (by omega) (by omega))) (aV aA 1 rfl (bQ [(39,_),(44,_)] rfl rfl ⟨⟨rfl,rfl⟩,⟨rfl,rfl⟩,trivial⟩ rfl (bR rfl eL dP (l3 rfl) rfl) (rM [0,1,5,6,7,35,45] rfl rfl rfl ?_)))
     refine aG 11 [] (by kernel_rfl) ⟨?_,trivial⟩
     ·
      refine⟨_,rfl,rfl,(ao rfl (aTe hf 6 rfl rfl rfl rfl rfl rfl aD0 (aN1 out ((gJ (a++b))[k],(gJ (a++b))[k+1]) _ rfl (by omega)) ?_))⟩
      rintro _ rfl
      refine bD (cX [0,1,5,6,7,46] rfl) (aF (aG 12 [] (by kernel_rfl) ⟨?_,trivial⟩))
      ·
       refine⟨_,rfl,rfl,(ao rfl (aE aA 1 rfl (aF (bX (by kernel_rfl) ?_))))⟩
       refine hK8 _ (aB (aE aA 1 rfl ?_))
       refine aH rfl (bO rfl rfl (by omega) (by omega)) ?_
       refine aE aA 1 rfl (aD ?_)
       exact⟨(k+1,dU out ((gJ (a++b))[k],(gJ (a++b))[k+1])),⟨by rw[hI,nU _ _ _ _ (by omega),if_pos (by simp_all)],by have:=hgl ((gJ (a++b))[k],(gJ (a++b))[k+1]); omega,by omega⟩,by simp only; omega,cJ ⟨rfl,rfl,rfl,(by first | rfl | (show some (AV.own 6 2 0 ((dU _ _).map spC).length)=_; rw[List.length_map])),rfl,trivial⟩ rfl⟩
    ·
     refine aN (hK8 _ (aB (aE aA 1 rfl ?_)))
     refine aH rfl (bO rfl rfl (by omega) (by omega)) ?_
     refine aE aA 1 rfl (aD ?_)
     exact⟨(k+1,out),⟨by rw[hI,nU _ _ _ _ (by omega),if_neg (by simp_all)],by omega,by omega⟩,by simp only; omega,cJ ⟨rfl,rfl,rfl,(by first | rfl | (show some (AV.own 6 2 0 ((dU _ _).map spC).length)=_; rw[List.length_map])),rfl,trivial⟩ rfl⟩
   ·
    simp only[bs] at hg2
    refine aE aA 6 rfl (aD (hK9 _ (bW rfl (aN (hK8 _ (aB (aE aA 1 rfl ?_)))))))
    refine aH rfl (bO rfl rfl (by omega) (by omega)) ?_
    refine aE aA 1 rfl (aD ?_)
    exact⟨(k+1,out),⟨by rw[hI,nU _ _ _ _ (by omega),if_neg (by simp_all)],by omega,by omega⟩,by simp only; omega,cJ ⟨rfl,rfl,rfl,(by first | rfl | (show some (AV.own 6 2 0 ((dU _ _).map spC).length)=_; rw[List.length_map])),rfl,trivial⟩ rfl⟩
  ·
   simp only[bs] at hc1
   refine bF (hK4 _ (aC (fun K10 hK10=>(aB (aE aA 2 rfl (aD (hK10 _ (aJ ?_))))))))
   refine⟨_,rfl,?_⟩
   refine(cI (g:=6) rfl (by rw[List.length_map])).trans ?_
   rw[show mL a b=gG (fun t=>eB a t&&eB b t) [] (gJ (a++b)) from rfl,hI,aCz _ _ _ _ (by omega)]
end Go.Proofs.YtpkanhklapfajaaGreat
set_option linter.unusedVariables false
set_option linter.unusedSimpArgs false
namespace Go.Proofs.YtpkanhklapfajaaGreat.Nm
open Go Go.Abs
theorem pairRight_den (a b:ByteArray) (h1:TS a) (h2:TS b) :Den Tryz.prog 95 [.agg [.s (.string a),.s (.string b)]]  (·=.s (.bool (cF a&&cF b))):=by
 refine aR Tryz.func95 rfl (Nat.le_of_ble_eq_true rfl) (fun w0 A hf=>(aC (fun K1 hK1=>(aB (aI hf rfl (cE rfl rfl (lf rfl)) (aE aA 1 rfl (aD (hK1 _ (aC (fun K2 hK2=>(aB (aE aA 4 rfl (aI hf rfl (aS kR rfl rfl rfl rfl (l2 rfl)) (aI hf rfl (aK rfl rfl jH rfl (all_den [a,b] ⟨by simp,by simp [h1,h2]⟩)) ?_))))))))))))))
 refine aE aA 1 rfl (aD (hK2 _ (aJ ?_)))
 refine⟨_,rfl,?_⟩
 refine aO ?_
 simp
theorem pairCmp_den (a b c d:ByteArray) :Den Tryz.prog 174 [.agg [.s (.string a),.s (.string b)],.agg [.s (.string c),.s (.string d)]]  (·=.s (.int .i64 (xW a b c d))):=by
 refine aR Tryz.func174 rfl (Nat.le_of_ble_eq_true rfl) (fun w0 A hf=>(aC (fun K1 hK1=>(aB (aI hf rfl (cE rfl rfl (lf rfl)) (aI hf rfl (cE rfl rfl (lf rfl)) (aE aA 1 rfl (aD (hK1 _ (aC (fun K2 hK2=>(cP hf bE (by kernel_rfl) rfl (aV aA 4 rfl (bJ [(6,_),(8,_)] rfl rfl ⟨⟨rfl,rfl⟩,⟨rfl,rfl⟩,trivial⟩ rfl (aK rfl rfl nK rfl (cmp_den _ _)) (aV aA 4 rfl ?_)))))))))))))))
 refine bJ [(11,_),(13,_)] rfl rfl ⟨⟨rfl,rfl⟩,⟨rfl,rfl⟩,trivial⟩ rfl (aK rfl rfl nK rfl (cmp_den _ _)) (bJ [(9,_),(14,_)] rfl rfl ⟨⟨rfl,rfl⟩,⟨rfl,rfl⟩,trivial⟩ rfl (aS gB rfl rfl rfl rfl (l2 rfl)) (bJ [(15,_)] rfl rfl ⟨⟨rfl,rfl⟩,trivial⟩ rfl (aK rfl rfl xJ rfl (or_den [_,_] (by simp))) ?_))
 refine aV aA 1 rfl (cT [4] rfl rfl rfl (hK2 _ (aJ ?_)))
 refine⟨_,rfl,?_⟩
 rfl
theorem pairHas_den (a b s:ByteArray) :Den Tryz.prog 182 [.agg [.s (.string a),.s (.string b)],.s (.string s)]  (·=.s (.bool (tK a b s))):=by
 refine aR Tryz.func182 rfl (Nat.le_of_ble_eq_true rfl) (fun w0 A hf=>(aC (fun K1 hK1=>(aB (aI hf rfl (cE rfl rfl (lf rfl)) (aE aA 1 rfl (aD (hK1 _ (aC (fun K2 hK2=>(aB (aE aA 5 rfl (aU rfl rfl rfl (fun hg1=>?_) (fun hg1=>?_))))))))))))))
 ·
  simp only[bs,jU,iC,List.length_cons,List.length_nil] at hg1
  refine aH rfl (bM rfl aO8 cU rfl) ?_
  refine aE aA 5 rfl (aD (hK2 _ (aJ ?_)))
  refine⟨_,rfl,?_⟩
  refine aO ?_
  unfold tK
  rw[Bool.eq_iff_iff]
  simp only[Bool.or_eq_true,decide_eq_true_eq,← toList_inj,beq_iff_eq,true_iff]
  simp_all
 ·
  simp only[bs,jU,iC,List.length_cons,List.length_nil] at hg1
  refine aE aA 5 rfl (aD (hK2 _ (aJ ?_)))
  refine⟨_,rfl,?_⟩
  refine aO ?_
  unfold tK
  rw[Bool.eq_iff_iff]
  simp only[Bool.or_eq_true,decide_eq_true_eq,← toList_inj,beq_iff_eq,true_iff]
  simp_all
end Go.Proofs.YtpkanhklapfajaaGreat.Nm
set_option linter.unusedVariables false
set_option linter.unusedSimpArgs false
namespace Go.Proofs.YtpkanhklapfajaaGreat
open Go Go.Abs
theorem oC {g:Nat} {cap:List AV} (hent:∀ args w,(callFunc g args).run Tryz.prog w=.ok (.enter g args) w) (hcl:cleanL (fun _=>false) cap=true) (p:En→Bool) (l:List En) (hl:l.length≤9223372036854775807) (hp:∀ x∈l,Den Tryz.prog g (.agg (enC x)::cap) (·=.s (.bool (p x)))) :Den Tryz.prog 141 [.sl 4 (l.map enC),.fn g cap]  (·=.s (.int .i64 (qH p l))):=by
 refine aR Tryz.func141 rfl (Nat.le_of_ble_eq_true rfl) (fun w0 A hf=>(aC (fun K1 hK1=>(aB (aE aA 1 rfl (aD (hK1 _ (aC (fun K2 hK2=>(aC (fun K3 hK3=>(aB (aE aA 3 rfl (aD (hK3 _ (aP ?_))))))))))))))))
 refine bT (ι:=Nat) (fun k=>⟨19,[(0,.sl 4 (l.map enC)),(1,.fn g cap),(7,.s (.int .i64 ((l.map enC).length:Nat))),(8,.s (.int .i64 (k:Nat)))],[]⟩) (fun k=>k≤l.length∧∀ (j:Nat) (hj:j<l.length),j<k→p l[j]=false) (fun k=>l.length - k) 0 ?_ ?_ ?_
 · exact⟨by omega,by omega⟩
 · exact cQ rfl
 ·
  rintro k hC
  obtain ⟨h1,h2⟩:=hC
  refine aC (fun K4 hK4=>(aB (aE aA 1 rfl (aD (hK4 _ (aC (fun K5 hK5=>(aL rfl (fun hc1=>?_) (fun hc1=>?_)))))))))
  ·
   simp only[bs] at hc1
   refine aN (hK5 _ (aC (fun K6 hK6=>(aP (aC (fun K7 hK7=>(aB (aE aA 2 rfl (aD (hK7 _ (aC (fun K8 hK8=>(aB (aE aA 3 rfl ?_))))))))))))))
   refine aH rfl (bG rfl rfl fX dQ (by first | exact ixm (by omega) | assumption | exact⟨by decide,rfl⟩)) ?_
   refine aE aA 1 rfl (aI hf rfl (aK rfl rfl hent (by rw[gV,hcl]; rfl) (hp _ (List.getElem_mem _))) ?_)
   refine aD (hK8 _ (aL rfl (fun hc2=>?_) (fun hc2=>?_)))
   ·
    refine aC (fun K9 hK9=>(aB (aE aA 2 rfl (aD (hK9 _ (aJ ?_))))))
    refine⟨_,rfl,?_⟩
    refine dM ?_
    rw[oT (by omega) h2 (by assumption)]
   ·
    refine aN (hK6 _ (aB ?_))
    refine aH rfl (bO rfl rfl (by omega) (by omega)) ?_
    refine aE aA 1 rfl (aD ?_)
    exact⟨k+1,⟨by omega,fun j hj hjk=>by
      by_cases e:j=k
      · subst e; simp_all
      · exact h2 j hj (by omega)⟩,by omega,cQ rfl⟩
  ·
   simp only[bs] at hc1
   refine bF (hK2 _ (aC (fun K10 hK10=>(aB (aE aA 1 rfl (aD (hK10 _ (aJ ?_))))))))
   refine⟨_,rfl,?_⟩
   refine dM ?_
   rw[qU (fun j hj=>h2 j hj (by omega))]
theorem vL {g:Nat} {cap:List AV} (hent:∀ args w,(callFunc g args).run Tryz.prog w=.ok (.enter g args) w) (hcl:cleanL (fun _=>false) cap=true) (hcv:∀ m,convL m cap=cap) (p:En→Bool) (l:List En) (n:Nat) (hn:n=l.length) (hl:l.length≤9223372036854775807) (hp:∀ x∈l,Den Tryz.prog g (.agg (enC x)::cap) (·=.s (.bool (p x)))) :DenM Tryz.prog 130 [.own E0 4 0 n,.fn g cap] 4 ((l.map enC)) (fun r ys=>r=.own E0 4 0 (l.filter fun x=>!p x).length∧ys=((l.filter fun x=>!p x).map enC)):=by
 subst hn
 have hq0:∀ j,((l.take j).filter fun x=>!p x).length≤j:=fun j=>iX _ l j
 have hq1:∀ j,((l.take j).filter fun x=>!p x).length≤l.length:=fun j=>iJ _ l j
 refine iK Tryz.func130 rfl (Nat.le_of_ble_eq_true rfl) (fun w0 x0 A hf=>?_)
 refine aC (fun K1 hK1=>(aB (aH rfl (bK) (aD (hK1 _ (aC (fun K2 hK2=>(aB (aE aA 2 rfl (aI hf rfl (sG rfl rfl (by show [AV.conv _ _,AV.fn g (convL _ cap)]=_; rw[hcv,cI (g:=E0) rfl (by simp)]) sS (oC hent hcl p l hl hp) rfl) ?_))))))))))
 refine aE aA 1 rfl (aD (hK2 _ (aC (fun K3 hK3=>(aC (fun K4 hK4=>(aB (aE aA 2 rfl (aD (hK4 _ (aL rfl (fun hc1=>?_) (fun hc1=>?_))))))))))))
 ·
  simp only[bs] at hc1
  refine aC (fun K5 hK5=>(aB (aE aA 2 rfl (aD (hK5 _ (aJ ?_))))))
  have hno:qH p l=-1:=by simpa using hc1
  rcases eP p l with ⟨_,hn⟩ | ⟨k,hk,e,_⟩
  · exact⟨_,.own E0 4 0 l.length,(l.map enC),Le.refl _,rfl,rfl,by rw[gU p l hn],by rw[gU p l hn]⟩
  · exfalso; omega
 ·
  simp only[bs] at hc1
  refine aN (hK3 _ (aC (fun K6 hK6=>(aC (fun K7 hK7=>(aB ?_))))))
  rcases eP p l with ⟨e0,_⟩ | ⟨k0,hk0,ek0,hpk0,hbef⟩
  · exact absurd e0 (by simpa using hc1)
  have hst:=lX (fun x=>!p x) l k0 hk0 (fun j hj hjk=>by simp [hbef j hj hjk]) (by simp [hpk0])
  rw[ek0]
  refine aE aA 1 rfl ?_
  refine aH rfl (bO rfl rfl (by omega) (by omega)) ?_
  refine aE aA 1 rfl (aD (hK7 _ (aP (bT (ι:=Nat) (fun j=>⟨42,[(0,.own E0 4 0 l.length),(1,.fn g cap),(5,.s (.int .i64 (((l.take j).filter fun x=>!p x).length:Nat))),(6,.s (.int .i64 (j:Nat)))],[(E0,.buf 4 ((jX (fun x=>!p x) l j).map enC))]⟩) (fun j=>j≤l.length) (fun j=>l.length - j) (k0+1) ?_ ?_ ?_))))
  · exact hk0
  · rw[hst.1,hst.2]; exact kI ⟨rfl,rfl,rfl,rfl,trivial⟩
  ·
   rintro j hC
   let q:=fun x=>!p x
   have hle:((l.take j).filter q).length≤j:=hq0 j
   have hle2:((l.take j).filter fun x=>!p x).length≤j:=hq0 j
   refine aC (fun K8 hK8=>(aC (fun K9 hK9=>(aB (aE aA 4 rfl (aD (hK9 _ (aL rfl (fun hc2=>?_) (fun hc2=>?_)))))))))
   ·
    simp only[bs] at hc2
    refine aN (hK8 _ (aC (fun K10 hK10=>(aP (aC (fun K11 hK11=>(aB (aE aA 2 rfl ?_))))))))
    refine aH rfl (cB rfl rfl fX dQ (by omega)) ?_
    refine aH rfl (cD rfl aWb dQ rfl (qK (c:=4) (k:=j) (enc:=enC) (by omega) (by rw[eQ]; omega) rfl) (cs':=enC l[j]) (by rw[nV (c:=4) (k:=j) (enc:=enC) (by omega) (by rw[eQ]; omega) rfl,qV q l j j (by omega) hle])) ?_
    refine bY hf rfl lZ rfl dQ rfl rfl rfl rfl (lf rfl) (aD (hK11 _ (aC (fun K12 hK12=>(aB (aE aA 2 rfl (aI hf rfl (aK rfl rfl hent (by rw[gV,hcl]; rfl) (hp _ (List.getElem_mem _))) ?_)))))))
    refine aE aA 1 rfl (aD (hK12 _ (aL rfl (fun hc3=>?_) (fun hc3=>?_))))
    ·
     simp only[bs] at hc3
     refine aC (fun K13 hK13=>(aB (aE aA 3 rfl ?_)))
     refine aH rfl (cB rfl rfl fX dQ (by omega)) ?_
     refine bB hf rfl rfl dQ rfl rfl (by simp [enC,AV.cells,AV.one,Value.oneCell',splice]) (by simp [enC,AV.cells,AV.leaf,Value.oneCell',splice]) (iS (c:=4) (k:=((l.take j).filter fun x=>!p x).length) (enc:=enC) (v:=l[j]) (by omega) (by rw[eQ]; omega) rfl (Nat.le_refl _)) ?_
     refine aD (hK13 _ (aB ?_))
     rw[kY (fun x=>!p x) l j (by omega) (by simp_all)]
     refine aE aA 1 rfl ?_
     refine aH rfl (bO rfl rfl (by omega) (by omega)) ?_
     rw[nD (fun x=>!p x) l j (by omega) (by simp_all)]
     refine aE aA 1 rfl ?_
     refine bS ?_
     refine hK10 _ (aB (aE aA 1 rfl ?_))
     refine aH rfl (bO rfl rfl (by omega) (by omega)) ?_
     refine aE aA 1 rfl (aD ?_)
     exact⟨j+1,(by omega),by omega,cQ rfl⟩
    ·
     simp only[bs] at hc3
     rw[kZ (fun x=>!p x) l j (by omega) (by simp_all),nE (fun x=>!p x) l j (by omega) (by simp_all)]
     refine aN (hK10 _ (aB (aE aA 1 rfl ?_)))
     refine aH rfl (bO rfl rfl (by omega) (by omega)) ?_
     refine aE aA 1 rfl (aD ?_)
     exact⟨j+1,(by omega),by omega,cQ rfl⟩
   ·
    simp only[bs] at hc2
    refine bF (hK6 _ (aC (fun K14 hK14=>(aB (aE aA 2 rfl ?_)))))
    refine aH rfl (eW rfl fX dQ rfl rfl (by omega) (by omega)) ?_
    refine xL hf lA lZ (by simp [Value.oneCell']) rfl rfl ?_
    refine aD (hK14 _ (aC (fun K15 hK15=>(aB (aE aA 2 rfl ?_)))))
    refine aH rfl (eW rfl fX dQ rfl rfl (by omega) (by omega)) ?_
    refine aE aA 1 rfl (aD (hK15 _ (aJ ?_)))
    have hjl:l.length≤j:=by omega
    have he:=oX (fun x=>!p x) l j hjl
    refine⟨_,_,_,Le.refl _,rfl,rfl,?_,?_⟩
    · rw[List.take_of_length_le hjl]; rfl
    · rw[List.take_of_length_le hjl,Nat.zero_add,Int.toNat_natCast,← List.map_take,he]
theorem oW (l:List En) (hl:l.length*48≤140737488355328) :DenO Tryz.prog 119 [.sl 4 (l.map enC)] 4 (·=(l.map enC)):=by
 refine gK Tryz.func119 rfl (Nat.le_of_ble_eq_true rfl) (fun w0 A hf=>?_)
 refine aC (fun K1 hK1=>(aB (aH rfl (bK) (aD (hK1 _ (aC (fun K2 hK2=>(aC (fun K3 hK3=>(aB (aE aA 1 rfl ?_)))))))))))
 refine oN rfl rfl rfl fX (fun b hb1=>?_)
 refine aD (hK3 _ (aL rfl (fun hc2=>?_) (fun hc2=>?_)))
 ·
  have hl0:l=[]:=by simpa using hb1 (by assumption)
  refine aC (fun K4 hK4=>(aB (mC hf 4 rfl rfl rfl (aD (hK4 _ (aJ ?_))))))
  exact⟨2,[],by decide,rfl,rfl,by rw[hl0]; rfl⟩
 ·
  refine aN (hK2 _ (aC (fun K5 hK5=>(aB (dR hf rfl rfl rfl lA rfl rfl rfl rfl (l2 rfl) ?_)))))
  refine aE aA 1 rfl (bH hf rfl lA rfl rfl rfl (.inl rfl) rfl rfl (by first | rfl | simp [eK,bL]) (by first | (simp only[maxLen,List.length_map,List.length_append,List.length_cons,List.length_nil]; omega) | (simp [maxLen] <;> omega)) (by first | (simp only[List.length_map,List.length_append,List.length_cons,List.length_nil]; omega) | (simp <;> omega)) ?_)
  refine bD (cX [7] rfl) (aE aA 1 rfl (aD (hK5 _ (aJ ?_))))
  refine⟨5,(l.map enC),by decide,rfl,?_,rfl⟩
  show some (AV.own 5 4 0 (0+(l.map enC).length))=_
  rw[Nat.zero_add]
theorem aVk (n:Nat) (hn:n*48≤140737488355328) :DenO Tryz.prog 177 [.s (.slice none 0 0),.s (.int .i64 (n:Nat))] 4 (·=[]):=by
 refine gK Tryz.func177 rfl (Nat.le_of_ble_eq_true rfl) (fun w0 A hf=>?_)
 refine aC (fun K1 hK1=>(aB (aH rfl (bK) (aD (hK1 _ (aC (fun K2 hK2=>(aC (fun K3 hK3=>(aB (aE aA 2 rfl (aD (hK3 _ (aL rfl (fun hc1=>?_) (fun hc1=>?_)))))))))))))))
 ·
  simp only[bs] at hc1
  omega
 ·
  simp only[bs] at hc1
  refine aN (hK2 _ (aC (fun K4 hK4=>(aC (fun K5 hK5=>(aB (aE aA 2 rfl (aH rfl (nA rfl fX) (aE aA 2 rfl ?_)))))))))
  refine aH rfl (eZ rfl rfl (by omega) (by omega)) ?_
  refine aH rfl (eZ rfl rfl (by omega) (by omega)) ?_
  refine aE aA 1 rfl (aD (hK5 _ (aC (fun K6 hK6=>(aB (aE aA 2 rfl (aD (hK6 _ (aL rfl (fun hc2=>?_) (fun hc2=>?_))))))))))
  ·
   simp only[bs] at hc2
   refine aB (aE aA 2 rfl (aH rfl (nA rfl fX) ?_))
   refine aH rfl (sJ rfl fX dQ rfl) ?_
   refine aE aA 1 rfl (xM hf rfl rfl rfl lA Tryz.underlying3 rfl rfl (by omega) (by omega) (by simp only[maxLen]; omega) ?_)
   refine aE aA 2 rfl ?_
   refine aH rfl (eW rfl fX dQ rfl rfl (by omega) (by omega)) ?_
   refine aE aA 1 rfl (aD (hK4 _ (aC (fun K7 hK7=>(aB (aE aA 1 rfl ?_))))))
   refine aH rfl (wG rfl) ?_
   refine aD (hK7 _ (aJ ?_))
   exact⟨22,[],by decide,rfl,rfl,rfl⟩
  ·
   simp only[bs] at hc2
   refine aN (hK4 _ (aC (fun K8 hK8=>(aB (aE aA 1 rfl ?_)))))
   refine aJ7 hf 4 rfl rfl rfl rfl ?_
   refine aD (hK8 _ (aJ ?_))
   exact⟨4,[],by decide,rfl,rfl,rfl⟩
theorem aC6 (rows:List (List En)) (hl:rows.length≤9223372036854775807) (hb:rows.flatten.length*48≤140737488355328) :DenO Tryz.prog 155 [.sl 1 (rows.map fun r=>[AV.sl 4 (r.map enC)])] 4 (·=(rows.flatten.map enC)):=by
 refine gK Tryz.func155 rfl (Nat.le_of_ble_eq_true rfl) (fun w0 A hf=>?_)
 refine aC (fun K1 hK1=>(aB (aH rfl (bK) (aD (hK1 _ (aC (fun K2 hK2=>(aB (aE aA 1 rfl (aD (hK2 _ (aC (fun K3 hK3=>(aC (fun K4 hK4=>(aB ?_))))))))))))))))
 refine aE aA 3 rfl (aD (hK4 _ (aP (bT (ι:=Nat) (fun k=>⟨36,[(0,.sl 1 (rows.map fun r=>[AV.sl 4 (r.map enC)])),(3,.s (.int .i64 ((rows.take k).flatten.length:Nat))),(9,.sl 1 (rows.map fun r=>[AV.sl 4 (r.map enC)])),(10,.s (.int .i64 ((rows.map fun r=>[AV.sl 4 (r.map enC)]).length:Nat))),(11,.s (.int .i64 (k:Nat)))],[]⟩) (fun k=>k≤rows.length) (fun k=>rows.length - k) 0 ?_ ?_ ?_))))
 · exact Nat.zero_le _
 · exact cQ rfl
 ·
  rintro k hC
  refine aC (fun K5 hK5=>(aB (aE aA 1 rfl (aD (hK5 _ (aC (fun K6 hK6=>(aL rfl (fun hc1=>?_) (fun hc1=>?_)))))))))
  ·
   simp only[bs] at hc1
   refine aN (hK6 _ (aC (fun K7 hK7=>(aP (aC (fun K8 hK8=>(aB ?_)))))))
   refine aH rfl (bG rfl rfl aJ3 mQ (by first | exact ixm (by omega) | assumption | exact⟨by decide,rfl⟩)) ?_
   refine aE aA 2 rfl (aD (hK8 _ (aC (fun K9 hK9=>(aB ?_)))))
   have hk:k<rows.length:=by omega
   have e1:=congrArg List.length (jA rows k hk)
   rw[List.length_append] at e1
   have e2:=sM rows (k+1)
   have e3:(rows[k].map enC).length=rows[k].length:=List.length_map _
   refine aE aA 3 rfl ?_
   refine aH rfl (bO rfl rfl (by omega) (by omega)) ?_
   rw[show ((((rows.take k).flatten.length:Nat):Int)+(((rows[k].map enC).length:Nat):Int))=(((rows.take (k+1)).flatten.length:Nat):Int) from by omega]
   refine aE aA 1 rfl (aD (hK9 _ (aC (fun K10 hK10=>(aB (aE aA 2 rfl (aD (hK10 _ (aL rfl (fun hc2=>?_) (fun hc2=>?_))))))))))
   ·
    simp only[bs] at hc2
    omega
   ·
    simp only[bs] at hc2
    refine aN (hK7 _ (aB ?_))
    refine aH rfl (bO rfl rfl (by omega) (by omega)) ?_
    refine aE aA 1 rfl (aD ?_)
    exact⟨k+1,(by omega),by omega,cQ rfl⟩
  ·
   simp only[bs] at hc1
   refine bF (hK3 _ (aC (fun K11 hK11=>(aB ?_))))
   rw[List.take_of_length_le (show rows.length≤k by omega)]
   refine aE aA 1 rfl (iN hf rfl rfl rfl rfl rfl aPj rfl (aVk rows.flatten.length (by omega)) ?_)
   rintro _ rfl
   refine aE aA 1 rfl (aD (hK11 _ (aC (fun K12 hK12=>(aC (fun K13 hK13=>(aB (aE aA 3 rfl (aD (hK13 _ (aP (bT (ι:=Nat) (fun j=>⟨36,[(6,.own 24 4 0 (rows.take j).flatten.length),(25,.sl 1 (rows.map fun r=>[AV.sl 4 (r.map enC)])),(26,.s (.int .i64 ((rows.map fun r=>[AV.sl 4 (r.map enC)]).length:Nat))),(27,.s (.int .i64 (j:Nat)))],[(24,.buf 4 ((rows.take j).flatten.map enC))]⟩) (fun j=>j≤rows.length) (fun j=>rows.length - j) 0 ?_ ?_ ?_))))))))))))
   · exact Nat.zero_le _
   · exact cQ rfl
   ·
    rintro j hC
    refine aC (fun K14 hK14=>(aB (aE aA 1 rfl (aD (hK14 _ (aC (fun K15 hK15=>(aL rfl (fun hc3=>?_) (fun hc3=>?_)))))))))
    ·
     simp only[bs] at hc3
     refine aN (hK15 _ (aC (fun K16 hK16=>(aP (aC (fun K17 hK17=>(aB ?_)))))))
     refine aH rfl (bG rfl rfl aJ3 mQ (by first | exact ixm (by omega) | assumption | exact⟨by decide,rfl⟩)) ?_
     refine aE aA 2 rfl (aD (hK17 _ (aB ?_)))
     have hj:j<rows.length:=by omega
     have e1:=congrArg List.length (jA rows j hj)
     rw[List.length_append] at e1
     have e2:=sM rows (j+1)
     have e3:(rows[j].map enC).length=rows[j].length:=List.length_map _
     refine aE aA 2 rfl (bH hf rfl lA rfl rfl rfl (.inl rfl) (by simp only[List.length_map]) rfl (by first | rfl | simp [eK,bL]) (by first | (simp only[maxLen,List.length_map,List.length_append,List.length_cons,List.length_nil]; omega) | (simp [maxLen] <;> omega)) (by first | (simp only[List.length_map,List.length_append,List.length_cons,List.length_nil]; omega) | (simp <;> omega)) ?_)
     refine bD (cX [25,26,27,33] rfl) ?_
     rw[show (rows.take j).flatten.length+(rows[j].map enC).length=(rows.take (j+1)).flatten.length from by omega,← List.map_append,← jA rows j hj]
     refine aE aA 1 rfl ?_
     refine bS ?_
     refine hK16 _ (aB ?_)
     refine aH rfl (bO rfl rfl (by omega) (by omega)) ?_
     refine aE aA 1 rfl (aD ?_)
     exact⟨j+1,(by omega),by omega,cQ rfl⟩
    ·
     simp only[bs] at hc3
     refine bF (hK12 _ (aC (fun K18 hK18=>(aB (aE aA 2 rfl (aD (hK18 _ (aJ ?_))))))))
     refine⟨24,(rows.flatten.map enC),by decide,?_,?_,rfl⟩
     · rw[List.take_of_length_le (show rows.length≤j by omega)]; rfl
     · rw[List.take_of_length_le (show rows.length≤j by omega)]
       show some (AV.own 24 4 0 rows.flatten.length)=_
       rw[List.length_map]
theorem one_den (w u:ByteArray) (f t:Int) :Den Tryz.prog 99 [.s (.string w),.s (.string u),.s (.int .i64 f),.s (.int .i64 t)]  (·=.agg (enC ((w,u),(f,t)))):=by
 refine aR Tryz.func99 rfl (Nat.le_of_ble_eq_true rfl) (fun w0 A hf=>(aC (fun K1 hK1=>(aB (aW hf rfl rfl rfl lZ (aD (hK1 _ (aC (fun K2 hK2=>(aB (aE aA 2 rfl (aH rfl (bR rfl gN kD (l3 rfl) rfl) (aE aA 2 rfl (aH rfl (bR rfl fI jB (l3 rfl) rfl) (aH rfl (bR rfl lZ aG9 (l3 rfl) rfl) ?_)))))))))))))))
 refine bB hf rfl rfl dQ rfl rfl (l1 rfl) (l4 rfl) rfl (aD (hK2 _ (aJ ?_)))
 refine⟨_,rfl,?_⟩
 rfl
theorem aRq (e:En) (p:Pr) :Den Tryz.prog 178 [.agg (enC e),.adr (prC p)]  (·=.s (.bool (iI p e))):=by
 refine aR Tryz.func178 rfl (Nat.le_of_ble_eq_true rfl) (fun w0 A hf=>(aC (fun K1 hK1=>(aB (aI hf rfl (cE rfl rfl (lf rfl)) (aE aA 1 rfl (aD (hK1 _ (aC (fun K2 hK2=>(aB (aE aA 3 rfl (aH rfl (jS rfl rfl aG8 rfl) ?_)))))))))))))
 rw[aW5]
 refine aE aA 1 rfl (aU rfl rfl rfl (fun hg1=>?_) (fun hg1=>?_))
 ·
  simp only[bs] at hg1
  refine aH rfl (bM rfl uX cY rfl) ?_
  refine aE aA 5 rfl (aD (hK2 _ (aJ ?_)))
  refine⟨_,rfl,?_⟩
  refine aO ?_
  (simp_all[iI]; rfl)
 ·
  simp only[bs] at hg1
  refine aE aA 5 rfl (aD (hK2 _ (aJ ?_)))
  refine⟨_,rfl,?_⟩
  refine aO ?_
  (simp_all[iI]; done)
theorem aJt (l:List En) (p:Pr) (hl:l.length≤9223372036854775807) :Den Tryz.prog 156 [.sl 4 (l.map enC),.agg (prC p)]  (·=.s (.int .i64 (qH (iI p) l))):=by
 refine aR Tryz.func156 rfl (Nat.le_of_ble_eq_true rfl) (fun w0 A hf=>(aC (fun K1 hK1=>(aB (aI hf rfl (cE rfl rfl (lf rfl)) (aE aA 1 rfl (aD (hK1 _ (aC (fun K2 hK2=>(aB (aE aA 1 rfl (aH rfl (eY rfl) (aI hf rfl (aK rfl rfl sS rfl (oC aPi rfl (iI p) l hl (fun x _=>aRq x p))) (aE aA 1 rfl ?_)))))))))))))))
 refine aD (hK2 _ (aJ ?_))
 refine⟨_,rfl,?_⟩
 rfl
theorem aNy (l:List En) (p:Pr) (hl:l.length≤9223372036854775807) :Den Tryz.prog 153 [.sl 4 (l.map enC),.agg (prC p)]  (·=.s (.bool (onB l p))):=by
 refine aR Tryz.func153 rfl (Nat.le_of_ble_eq_true rfl) (fun w0 A hf=>(aC (fun K1 hK1=>(aB (aI hf rfl (cE rfl rfl (lf rfl)) (aE aA 1 rfl (aD (hK1 _ (aC (fun K2 hK2=>(aB (aE aA 2 rfl (aI hf rfl (aK rfl rfl aDt rfl (aJt _ _ (by omega))) (aE aA 2 rfl (aD ?_)))))))))))))))
 refine hK2 _ (aJ ?_)
 refine⟨_,rfl,?_⟩
 refine aO ?_
 exact pW _ _
theorem aJb (a b:En) :Den Tryz.prog 140 [.agg (enC a),.agg (enC b)]  (·=.s (.int .i64 (nW a b))):=by
 refine aR Tryz.func140 rfl (Nat.le_of_ble_eq_true rfl) (fun w0 A hf=>(aC (fun K1 hK1=>(aB (aI hf rfl (cE rfl rfl (lf rfl)) (aI hf rfl (cE rfl rfl (lf rfl)) (aE aA 1 rfl (aD (hK1 _ (aC (fun K2 hK2=>(cP hf bE (by kernel_rfl) rfl (aV aA 4 rfl (bJ [(6,_),(8,_)] rfl rfl ⟨⟨rfl,rfl⟩,⟨rfl,rfl⟩,trivial⟩ rfl (aK rfl rfl aPm rfl (Nm.pairCmp_den _ _ _ _)) (aV aA 6 rfl ?_)))))))))))))))
 refine bJ [(12,_),(15,_)] rfl rfl ⟨⟨rfl,rfl⟩,⟨rfl,rfl⟩,trivial⟩ rfl (aK rfl rfl nM rfl (kJ _ _)) (bJ [(9,_),(16,_)] rfl rfl ⟨⟨rfl,rfl⟩,⟨rfl,rfl⟩,trivial⟩ rfl (aS gB rfl rfl rfl rfl (l2 rfl)) (bJ [(17,_)] rfl rfl ⟨⟨rfl,rfl⟩,trivial⟩ rfl (aK rfl rfl xJ rfl (Nm.or_den [_,_] (by simp))) ?_))
 refine aV aA 1 rfl (cT [4] rfl rfl rfl (hK2 _ (aJ ?_)))
 refine⟨_,rfl,?_⟩
 rfl
theorem aRn (x e:En) :Den Tryz.prog 154 [.agg (enC x),.adr (enC e)]  (·=.s (.bool (decide (0<nW x e)))):=by
 refine aR Tryz.func154 rfl (Nat.le_of_ble_eq_true rfl) (fun w0 A hf=>(aC (fun K1 hK1=>(aB (aI hf rfl (cE rfl rfl (lf rfl)) (aE aA 1 rfl (aD (hK1 _ (aC (fun K2 hK2=>(aB (aE aA 2 rfl (aI hf rfl (aK rfl rfl aDx rfl (aJb _ _)) (aE aA 2 rfl (aD ?_)))))))))))))))
 refine hK2 _ (aJ ?_)
 refine⟨_,rfl,?_⟩
 rfl
theorem aKb (e:En) (u:ByteArray) :Den Tryz.prog 181 [.agg (enC e),.adr [.s (.string u)]]  (·=.s (.bool (aA0 u e))):=by
 refine aR Tryz.func181 rfl (Nat.le_of_ble_eq_true rfl) (fun w0 A hf=>(aC (fun K1 hK1=>(aB (aI hf rfl (cE rfl rfl (lf rfl)) (aE aA 1 rfl (aD (hK1 _ (aC (fun K2 hK2=>(aB (aE aA 3 rfl (aI hf rfl (aK rfl rfl aPe rfl (Nm.pairHas_den _ _ _)) (aE aA 1 rfl (aD ?_)))))))))))))))
 refine hK2 _ (aJ ?_)
 refine⟨_,rfl,?_⟩
 rfl
theorem aR7 (e:En) (t:Int) :Den Tryz.prog 131 [.agg (enC e),.adr [.s (.int .i64 t)]]  (·=.s (.bool (decide (e.2.2≤t)))):=by
 refine aR Tryz.func131 rfl (Nat.le_of_ble_eq_true rfl) (fun w0 A hf=>(aC (fun K1 hK1=>(aB (aI hf rfl (cE rfl rfl (lf rfl)) (aE aA 1 rfl (aD (hK1 _ (aC (fun K2 hK2=>(aB (aE aA 6 rfl (aD (hK2 _ (aJ ?_)))))))))))))))
 refine⟨_,rfl,?_⟩
 rfl
end Go.Proofs.YtpkanhklapfajaaGreat
set_option linter.unusedVariables false
set_option linter.unusedSimpArgs false
namespace Go.Abs
theorem aVa {l:List En} {p:Pr} {t:Int}:(lC l p t).length=l.length+1:=aNw _ _
theorem aMy (p:Pr) (t:Int):∀ l:List En,(mH l p t).length≤l.length
  | []=>Nat.le_refl _
  | e::l=>by
    rw[mH]; split
    · have:(wD e t).length≤1:=by unfold wD; split <;> simp
      simp only[List.length_append,List.length_cons]; omega
    · have:=aMy p t l
      simp only[List.length_cons]; omega
theorem aNr (l:List En) (p:Pr) (t:Int):(if onB l p=true then [] else lC l p t).length≤l.length+1:=by
  split
  · simp
  · rw[aVa]; omega
theorem aNq (l:List En) (p:Pr) (t:Int):(if onB l p=true then mH l p t else []).length≤l.length:=by
  split
  · exact aMy p t l
  · simp
end Go.Abs
set_option linter.unusedVariables false
set_option linter.unusedSimpArgs false
namespace Go.Abs
abbrev Us:=ByteArray×List bI
abbrev Tm:=ByteArray×Int
def usC (x:Us):List AV:=[.s (.string x.1),.sl 4 (x.2.map stC)]
def tmC (x:Tm):List AV:=[.s (.string x.1),.s (.int .i64 x.2)]
structure Sta where
  now:Int
  hor:Int
  opn:List Se
  usr:List Us
  sub:List En
  tmb:List Tm
  deriving DecidableEq
def uD:Sta:=⟨0,0,[],[],[],[]⟩
def aT (s:Sta):List AV:=[.s (.int .i64 s.now),.s (.int .i64 s.hor),.sl 4 (s.opn.map seC),.sl 2 (s.usr.map usC),.sl 4 (s.sub.map enC),.sl 2 (s.tmb.map tmC)]
def eX (s:Sta) (a b:Nat):List AV:=[.s (.int .i64 s.now),.s (.int .i64 s.hor),.sl 4 (s.opn.map seC),.own a 2 0 (s.usr.map usC).length,.sl 4 (s.sub.map enC),.own b 2 0 (s.tmb.map tmC).length]
structure SzS (n:Nat) (s:Sta):Prop where
  o:s.opn.length*40≤n
  u:s.usr.length*40≤n
  b:s.sub.length*48≤n
  t:s.tmb.length*24≤n
  y:∀ x∈s.usr,x.2.length*32≤n
theorem SzS.mono {n m:Nat} {s:Sta} (h:SzS n s) (hm:n≤m):SzS m s:=⟨Nat.le_trans h.o hm,Nat.le_trans h.u hm,Nat.le_trans h.b hm,Nat.le_trans h.t hm,fun x hx=>Nat.le_trans (h.y x hx) hm⟩
section
variable {α:Type} (key:α→ByteArray)
def isK (u:ByteArray) (x:α):Bool:=decide (key x=u)
def loK (u:ByteArray) (x:α):Bool:=decide (eR (key x) u<0)
def hiK (u:ByteArray) (x:α):Bool:=decide (0<eR (key x) u)
def dL (l:List α):Prop:=l.Pairwise fun a b=>eR (key a) (key b)<0
def aD9 (l:List α) (u:ByteArray) (ys:List α):List α:=l.filter (loK key u)++(ys++l.filter (hiK key u))
def dN (l:List α) (u:ByteArray):Nat:=(l.filter (loK key u)).length
def jF (l:List α) (u:ByteArray):Bool:=l.any (isK key u)
end
section
variable {α:Type} {key:α→ByteArray}
theorem rR (u:ByteArray):eR u u=0:=(uT u u).2 rfl
theorem aJz (x u:ByteArray):(eR x u<0∧x≠u)∨x=u∨(0<eR x u∧x≠u):=by
  by_cases h:x=u
  · exact .inr (.inl h)
  · have h0:eR x u≠0:=fun e=>h ((uT x u).1 e)
    by_cases h1:eR x u<0
    · exact .inl ⟨h1,h⟩
    · exact .inr (.inr ⟨by omega,h⟩)
theorem tG {u:ByteArray}:∀ {l:List α},dL key l→l=l.filter (loK key u)++(l.filter (isK key u)++l.filter (hiK key u))∧(l.filter (isK key u)).length≤1
  | [],_=>⟨rfl,by simp⟩
  | x::l,h=>by
    obtain ⟨h1,h2⟩:=List.pairwise_cons.1 h
    obtain ⟨e1,e2⟩:=tG (u:=u) h2
    rcases aJz (key x) u with ⟨a,b⟩ | a | ⟨a,b⟩
    · have c1:loK key u x=true:=by simp [loK,a]
      have c2:isK key u x=false:=by simp [isK,b]
      have c3:hiK key u x=false:=by simp only[hiK,decide_eq_false_iff_not]; omega
      simp only[List.filter_cons,c1,c2,c3,if_true,Bool.false_eq_true,if_false,List.cons_append]
      exact⟨by rw[← e1],e2⟩
    · have hlo:l.filter (loK key u)=[]:=List.filter_eq_nil_iff.2 fun y hy=>by
        have:=h1 y hy
        have:=qX (key x) (key y)
        rw[a] at *
        simp only[loK,decide_eq_true_eq]; omega
      have hm:l.filter (isK key u)=[]:=List.filter_eq_nil_iff.2 fun y hy=>by
        have:=h1 y hy
        rw[a] at this
        simp only[isK,decide_eq_true_eq]
        intro e
        rw[e,rR] at this
        omega
      have c1:loK key u x=false:=by simp [loK,a,rR]
      have c2:isK key u x=true:=by simp [isK,a]
      have c3:hiK key u x=false:=by simp [hiK,a,rR]
      simp only[List.filter_cons,c1,c2,c3,if_true,Bool.false_eq_true,if_false,hlo,hm] at e1 ⊢
      exact⟨by simpa using e1,by simp⟩
    · have hlo:l.filter (loK key u)=[]:=List.filter_eq_nil_iff.2 fun y hy=>by
        have:=h1 y hy
        have h3:=qX u (key x)
        have h4:=qX u (key y)
        have:=iQ (a:=u) (b:=key x) (c:=key y) (by omega) this
        simp only[loK,decide_eq_true_eq]; omega
      have hm:l.filter (isK key u)=[]:=List.filter_eq_nil_iff.2 fun y hy=>by
        have:=h1 y hy
        have h3:=qX u (key x)
        have h5:=iQ (a:=u) (b:=key x) (c:=key y) (by omega) this
        simp only[isK,decide_eq_true_eq]
        intro e
        rw[e,rR] at h5
        omega
      have c1:loK key u x=false:=by simp only[loK,decide_eq_false_iff_not]; omega
      have c2:isK key u x=false:=by simp [isK,b]
      have c3:hiK key u x=true:=by simp [hiK,a]
      simp only[List.filter_cons,c1,c2,c3,if_true,Bool.false_eq_true,if_false,hlo,hm] at e1 ⊢
      exact⟨by simp only[List.nil_append] at e1 ⊢; rw[← e1],by simp⟩
theorem oU {l:List α} (h:dL key l) (q:α→Bool):dL key (l.filter q):=h.filter q
theorem aAc {l:List α} {u:ByteArray} {ys:List α} (h:dL key l) (hy:∀ y∈ys,key y=u) (h1:ys.length≤1):dL key (aD9 key l u ys):=by
  have hb:∀ x∈l.filter (loK key u),eR (key x) u<0:=fun x hx=>by have:=(List.mem_filter.1 hx).2; simpa [loK] using this
  have ha:∀ x∈l.filter (hiK key u),eR u (key x)<0:=fun x hx=>by
    have:=(List.mem_filter.1 hx).2
    have h2:=qX u (key x)
    simp only[hiK,decide_eq_true_eq] at this; omega
  refine List.pairwise_append.2 ⟨oU h _,List.pairwise_append.2 ⟨?_,oU h _,fun y hm z hz=>by rw[hy y hm]; exact ha z hz⟩,fun x hx z hz=>?_⟩
  · match ys,h1 with
    | [],_=>exact List.Pairwise.nil
    | [y],_=>exact List.pairwise_singleton _ _
  · rcases List.mem_append.1 hz with hz | hz
    · rw[hy z hz]; exact hb x hx
    · exact iQ (hb x hx) (ha z hz)
theorem nS {l:List α} {u:ByteArray} {ys:List α} {x:α}:x∈aD9 key l u ys↔(x∈l∧key x≠u)∨x∈ys:=by
  simp only[aD9,List.mem_append,List.mem_filter,loK,hiK,decide_eq_true_eq]
  constructor
  · rintro (⟨h,h1⟩ | h | ⟨h,h1⟩)
    · exact .inl ⟨h,fun e=>by rw[e,rR] at h1; omega⟩
    · exact .inr h
    · exact .inl ⟨h,fun e=>by rw[e,rR] at h1; omega⟩
  · rintro (⟨h,h1⟩ | h)
    · rcases aJz (key x) u with ⟨a,_⟩ | a | ⟨a,_⟩
      · exact .inl ⟨h,a⟩
      · exact absurd a h1
      · exact .inr (.inr ⟨h,a⟩)
    · exact .inr (.inl h)
theorem zB:∀ {a b:List α},dL key a→dL key b→(∀ x,x∈a↔x∈b)→a=b
  | [],[],_,_,_=>rfl
  | [],y::b,_,_,h=>absurd ((h y).2 (by simp)) (by simp)
  | x::a,[],_,_,h=>absurd ((h x).1 (by simp)) (by simp)
  | x::a,y::b,ha,hb,h=>by
    obtain ⟨a1,a2⟩:=List.pairwise_cons.1 ha
    obtain ⟨b1,b2⟩:=List.pairwise_cons.1 hb
    have irr:∀ z:α,¬ eR (key z) (key z)<0:=fun z=>by rw[rR]; omega
    have hxy:x=y:=by
      rcases List.mem_cons.1 ((h x).1 (by simp)) with e | e
      · exact e
      · rcases List.mem_cons.1 ((h y).2 (by simp)) with e' | e'
        · exact e'.symm
        · exact absurd (iQ (b1 x e) (a1 y e')) (irr y)
    subst hxy
    rw[zB a2 b2 fun z=>?_]
    have:=h z
    simp only[List.mem_cons] at this
    constructor
    · intro hz
      rcases this.1 (.inr hz) with e | e
      · subst e; exact absurd (a1 z hz) (irr z)
      · exact e
    · intro hz
      rcases this.2 (.inr hz) with e | e
      · subst e; exact absurd (b1 z hz) (irr z)
      · exact e
theorem aAm (l:List α) (u:ByteArray):dN key l u≤l.length:=List.length_filter_le _ _
theorem rH {l:List α} (h:dL key l) (u:ByteArray):l.take (dN key l u)=l.filter (loK key u)∧l.drop (dN key l u)=l.filter (isK key u)++l.filter (hiK key u):=by
  have e:=(tG (u:=u) h).1
  constructor
  · have:l.take (dN key l u)=(l.filter (loK key u)++(l.filter (isK key u)++l.filter (hiK key u))).take (l.filter (loK key u)).length:=by rw[← e]; rfl
    rw[this,List.take_left]
  · have:l.drop (dN key l u)=(l.filter (loK key u)++(l.filter (isK key u)++l.filter (hiK key u))).drop (l.filter (loK key u)).length:=by rw[← e]; rfl
    rw[this,List.drop_left]
theorem aRk {l:List α} {u:ByteArray} (h:jF key l u=false):l.filter (isK key u)=[]:=by
  rw[jF,List.any_eq_false] at h
  exact List.filter_eq_nil_iff.2 h
theorem aRl {l:List α} (h:dL key l) {u:ByteArray} (hh:jF key l u=true):∃ hk:dN key l u<l.length,key (l[dN key l u])=u∧l.filter (isK key u)=[l[dN key l u]]:=by
  obtain ⟨x,hx,hxu⟩:=List.any_eq_true.1 hh
  have h1:x∈l.filter (isK key u):=List.mem_filter.2 ⟨hx,hxu⟩
  obtain ⟨e1,e2⟩:=tG (u:=u) h
  have e3:l.filter (isK key u)=[x]:=by
    match hl:l.filter (isK key u),h1,e2 with
    | [],h1,_=>cases h1
    | [y],h1,_=>rw[List.mem_singleton.1 h1]
    | y::z::r,_,e2=>simp at e2
  have hd:=(rH h u).2
  rw[e3] at hd
  have hlt:dN key l u<l.length:=by
    have:=congrArg List.length hd
    simp only[List.length_drop,List.length_append,List.length_cons,List.length_nil] at this
    omega
  have hg:l[dN key l u]=x:=by
    have:=congrArg (fun r=>r[0]?) hd
    simp only[List.getElem?_drop,Nat.add_zero,List.cons_append,List.getElem?_cons_zero] at this
    rw[List.getElem?_eq_getElem hlt] at this
    exact Option.some.inj this
  refine⟨hlt,?_,?_⟩
  · rw[hg]; simpa [isK] using hxu
  · rw[e3,hg]
theorem aNc {l:List α} (h:dL key l) {u:ByteArray} (hh:jF key l u=true):l.drop (dN key l u+1)=l.filter (hiK key u):=by
  obtain ⟨hk,_,e⟩:=aRl h hh
  have hd:=(rH h u).2
  rw[e] at hd
  rw[← List.drop_drop,hd]; rfl
theorem aKh {l:List α} (h:dL key l) {u:ByteArray} (hh:jF key l u=true) (y:α):l.set (dN key l u) y=aD9 key l u [y]:=by
  obtain ⟨hk,_,_⟩:=aRl h hh
  rw[List.set_eq_take_append_cons_drop,if_pos hk,(rH h u).1,aNc h hh]; rfl
theorem aTl {l:List α} (h:dL key l) {u:ByteArray} (hh:jF key l u=false) (y:α):l.take (dN key l u)++y::l.drop (dN key l u)=aD9 key l u [y]:=by
  rw[(rH h u).1,(rH h u).2,aRk hh]; rfl
theorem aMp {l:List α} (h:dL key l) (u:ByteArray):l.filter (fun x=>!isK key u x)=aD9 key l u []:=by
  refine zB (key:=key) (oU h _) (aAc h (by simp) (by simp)) fun x=>?_
  rw[nS,List.mem_filter]
  simp [isK]
theorem has_set {l:List α} {u v:ByteArray} {ys:List α} (hy:∀ y∈ys,key y=u):jF key (aD9 key l u ys) v=if v=u then !ys.isEmpty else jF key l v:=by
  rw[Bool.eq_iff_iff]
  simp only[jF,List.any_eq_true,nS,isK,decide_eq_true_eq]
  by_cases hv:v=u
  · subst hv
    rw[if_pos rfl]
    constructor
    · rintro ⟨x,⟨_,h⟩ | h,e⟩
      · exact absurd e h
      · cases ys with
        | nil=>cases h
        | cons y r=>rfl
    · intro h
      cases ys with
      | nil=>cases h
      | cons y r=>exact⟨y,.inr (by simp),hy y (by simp)⟩
  · rw[if_neg hv,List.any_eq_true]
    constructor
    · rintro ⟨x,⟨h,_⟩ | h,e⟩
      · exact⟨x,h,by simp [isK,e]⟩
      · exact absurd ((hy x h).symm.trans e).symm hv
    · rintro ⟨x,h,e⟩
      have e':key x=v:=by simpa [isK] using e
      exact⟨x,.inl ⟨h,by rw[e']; exact hv⟩,e'⟩
end
abbrev cM:Us→ByteArray:=Prod.fst
abbrev dV:Tm→ByteArray:=Prod.fst
def ofU (l:List Us) (u:ByteArray):List bI:=((l.find? (isK cM u)).map Prod.snd).getD []
def nO (u:ByteArray) (ys:List bI):List Us:=if ys=[] then [] else [(u,ys)]
def uE (l:List Us) (u:ByteArray) (ys:List bI):List Us:=aD9 cM l u (nO u ys)
theorem aFn {u:ByteArray} {ys:List bI}:∀ y∈nO u ys,cM y=u:=by
  intro y hy; unfold nO at hy; split at hy
  · cases hy
  · rw[List.mem_singleton.1 hy]
theorem aFm {u:ByteArray} {ys:List bI}:(nO u ys).length≤1:=by unfold nO; split <;> simp
theorem vY {l:List Us} {u:ByteArray} {ys:List bI} (h:dL cM l):dL cM (uE l u ys):=aAc h aFn aFm
theorem pT {l:List Us} {u:ByteArray} (h:jF cM l u=false):ofU l u=[]:=by
  rw[jF,List.any_eq_false] at h
  rw[ofU,List.find?_eq_none.2 h]; rfl
theorem aEq {l:List Us} (h:dL cM l) {x:Us} (hx:x∈l):ofU l x.1=x.2:=by
  have:l.find? (isK cM x.1)=some x:=by
    have hs:(l.find? (isK cM x.1)).isSome=true:=List.find?_isSome.2 ⟨x,hx,by simp [isK]⟩
    obtain ⟨y,hy⟩:=Option.isSome_iff_exists.1 hs
    have h1:=List.mem_of_find?_eq_some hy
    have h2:=List.find?_some hy
    simp only[isK,decide_eq_true_eq] at h2
    rw[hy]
    have e:=(tG (u:=x.1) h).2
    have m1:x∈l.filter (isK cM x.1):=List.mem_filter.2 ⟨hx,by simp [isK]⟩
    have m2:y∈l.filter (isK cM x.1):=List.mem_filter.2 ⟨h1,by simp [isK,h2]⟩
    match hl:l.filter (isK cM x.1),m1,m2,e with
    | [z],m1,m2,_=>rw[List.mem_singleton.1 m1,List.mem_singleton.1 m2]
    | z::z'::r,_,_,e=>simp at e
  rw[ofU,this]; rfl
theorem aBz {l:List Us} (h:dL cM l) {u:ByteArray} (hh:jF cM l u=true):∃ hk:dN cM l u<l.length,l[dN cM l u]=(u,ofU l u):=by
  obtain ⟨hk,e,_⟩:=aRl h hh
  have:=aEq h (List.getElem_mem hk)
  have e':l[dN cM l u].1=u:=e
  rw[e'] at this
  exact⟨hk,Prod.ext e' this.symm⟩
theorem aTm {l:List Us} (h:dL cM l) {u v:ByteArray} {ys:List bI}:ofU (uE l u ys) v=if v=u then ys else ofU l v:=by
  by_cases hh:jF cM (uE l u ys) v=true
  · obtain ⟨hk,e⟩:=aBz (vY h) hh
    have hm:=List.getElem_mem hk
    rw[e,uE,nS] at hm
    by_cases hv:v=u
    · subst hv
      rw[if_pos rfl]
      rcases hm with ⟨_,h2⟩ | hm
      · exact absurd rfl h2
      · unfold nO at hm
        split at hm
        · cases hm
        · have:=(Prod.ext_iff.1 (List.mem_singleton.1 hm)).2
          simpa [uE,nO, *] using this
    · rw[if_neg hv]
      rcases hm with ⟨h1,_⟩ | hm
      · exact(aEq h h1).symm
      · exact absurd (aFn _ hm) hv
  · have hf:=Bool.eq_false_iff.2 hh
    rw[pT hf]
    rw[uE,has_set aFn] at hf
    by_cases hv:v=u
    · rw[if_pos hv] at hf ⊢
      unfold nO at hf
      split at hf
      · rename_i e; exact e.symm
      · simp at hf
    · rw[if_neg hv] at hf ⊢
      exact(pT hf).symm
def oM (l:List Us) (u:ByteArray) (x:bI):List Us:=if x.1.2≤x.1.1 then l else uE l u (iL (ofU l u) x)
def vS (l:List Tm) (u:ByteArray) (t:Int):List Tm:=aD9 dV l u [(u,t)]
def eO (s:Sta) (x:bI):Bool:=!(s.opn.any fun e=>decide (e.1.1=x.2.1)&&decide (e.2.2<x.1.2))&&(decide (0≤x.1.1)&&(decide (x.1.2≤s.now)&&(decide (1≤x.2.1)&&(decide (x.2.1≤999)&&(decide (1≤x.2.2)&&decide (x.2.2≤4))))))
def mG (s:Sta) (x:Us):Bool:=!x.2.isEmpty&&(vN x.2&&x.2.all (eO s))
def kT (s:Sta) (e:En):Bool:=decide (0≤e.2.1)&&(decide (e.2.1≤s.now)&&(decide (e.2.2≤s.now)||decide (e.2.2=1099511627776)))
def rJ (s:Sta) (x:Tm):Bool:=decide (0≤x.2)&&decide (x.2≤s.now)
def nxK {α:Type} (key:α→ByteArray) (a b:α):Bool:=decide (eR (key a) (key b)<0)
def oK {α:Type} (key:α→ByteArray) (l:List α):Bool:=nP (fun x=>cF (key x)) (nxK key) none l
def gY (s:Sta):Bool:=decide (0≤s.now)&&(decide (s.now<1099511627776)&&(decide (0≤s.hor)&&(decide (s.hor<1099511627776)&&(gX s.opn&&(s.opn.all (fun e=>decide (e.2.2≤s.now))&&(oK cM s.usr&&(s.usr.all (mG s)&&(rY s.sub&&(s.sub.all (kT s)&&(oK dV s.tmb&&s.tmb.all (rJ s)))))))))))
theorem aWx {α:Type} {key:α→ByteArray} (l:List α):oK key l=true↔(∀ x∈l,cF (key x)=true)∧dL key l:=by
  rw[oK,tH (fun a b=>eR (key a) (key b)<0) (fun x y=>by simp [nxK]) (fun x y z _ h1 h2=>iQ h1 h2)]
  simp [dL]
structure RightP (s:Sta):Prop where
  n0:0≤s.now
  n1:s.now<1099511627776
  h0:0≤s.hor
  h1:s.hor<1099511627776
  opn:gX s.opn=true
  late:∀ e∈s.opn,e.2.2≤s.now
  unm:∀ x∈s.usr,cF x.1=true
  usr:dL cM s.usr
  uok:∀ x∈s.usr,mG s x=true
  sub:rY s.sub=true
  sok:∀ e∈s.sub,kT s e=true
  tnm:∀ x∈s.tmb,cF x.1=true
  tmb:dL dV s.tmb
  tok:∀ x∈s.tmb,rJ s x=true
theorem jV {s:Sta}:gY s=true↔RightP s:=by
  simp only[gY,Bool.and_eq_true,decide_eq_true_eq,List.all_eq_true,aWx]
  constructor
  · rintro ⟨a,b,c,d,e,f,⟨g,g'⟩,h,i,j,⟨k,k'⟩,l⟩
    exact⟨a,b,c,d,e,f,g,g',h,i,j,k,k',l⟩
  · rintro ⟨a,b,c,d,e,f,g,g',h,i,j,k,k',l⟩
    exact⟨a,b,c,d,e,f,⟨g,g'⟩,h,i,j,⟨k,k'⟩,l⟩
structure Ev where
  kind:Int
  at':Int
  user:ByteArray
  other:ByteArray
  n:Int
  st:Int
  deriving DecidableEq
def evC (e:Ev):List AV:=[.s (.int .i64 e.kind),.s (.int .i64 e.at'),.s (.string e.user),.s (.string e.other),.s (.int .i64 e.n),.s (.int .i64 e.st)]
abbrev bs0:ByteArray:=⟨#[]⟩
def eS (e:Ev):Bool:=decide (1≤e.n)&&(decide (e.n≤999)&&(cF e.user&&decide (e.other=bs0)))
def cK (e:Ev):Bool:=decide (0≤e.at')&&(decide (e.at'<1099511627776)&&(
  if e.kind=1∨e.kind=2 then eS e&&(decide (1≤e.st)&&decide (e.st≤4))
  else if e.kind=3 then eS e&&decide (e.st=0)
  else if e.kind=4∨e.kind=5 then cF e.user&&(cF e.other&&(decide (e.n=0)&&decide (e.st=0)))
  else if e.kind=6 then decide (e.user=bs0)&&(decide (e.other=bs0)&&(decide (e.st=0)&&(decide (0≤e.n)&&decide (e.n<1099511627776))))
  else if e.kind=7 then cF e.user&&(decide (e.other=bs0)&&(decide (e.n=0)&&decide (e.st=0)))
  else false))
def gI (s:Sta) (u:ByteArray) (t:Int):Sta:=⟨s.now,s.hor,s.opn.filter (fun e=>!qQ u e),uE s.usr u [],s.sub.filter (fun e=>!aA0 u e),vS s.tmb u t⟩
def bU (s:Sta) (e:Ev):Sta×Int :=
  if e.kind=1 then ({ s with opn:=rZ s.opn ((e.n,e.user),(e.st,e.at')) },zI s.opn ((e.n,e.user),(e.st,e.at')))
  else if e.kind=2 then ({ s with opn:=sC s.opn e.n e.user e.st e.at',usr:=oM s.usr e.user (stR s.opn e.n e.user e.at') },jY s.opn e.n e.user)
  else if e.kind=3 then ({ s with opn:=sB s.opn e.n e.user,usr:=oM s.usr e.user (stR s.opn e.n e.user e.at') },jY s.opn e.n e.user)
  else if e.kind=4 then ({ s with sub:=if onB s.sub (e.user,e.other)=true then [] else lC s.sub (e.user,e.other) e.at' },if onB s.sub (e.user,e.other)=true then 90 else 0)
  else if e.kind=5 then ({ s with sub:=if onB s.sub (e.user,e.other)=true then mH s.sub (e.user,e.other) e.at' else [] },if onB s.sub (e.user,e.other)=true then 0 else 91)
  else if e.kind=6 then ({ s with hor:=max s.hor e.n },0)
  else (gI s e.user e.at',0)
def bP (s:Sta) (e:Ev):Sta×Int :=
  if cK e=true then (if e.at'<s.now then (uD,111) else (if (bU s e).2=0 then ({ (bU s e).1 with now:=e.at' },0) else (uD,(bU s e).2))) else (uD,110)
def gM (h:Int) (l:List bI):List bI:=l.filter fun x=>!decide (x.1.2≤h)
def jM (h:Int) (l:List Us):List Us:=l.flatMap fun x=>nO x.1 (gM h x.2)
def mF (s:Sta):Sta:={ s with usr:=jM s.hor s.usr,sub:=s.sub.filter fun e=>!decide (e.2.2≤s.hor) }
def dE (s:Sta) (u:ByteArray) (t:Int):List bI:=(gW s.opn u t).foldl iL (ofU s.usr u)
def hP (l:List Us):Nat:=(l.map fun x=>x.2.length).sum
def dZ (s:Sta):Nat:=s.opn.length+s.sub.length+s.tmb.length+hP s.usr
section
variable {α:Type} {key:α→ByteArray}
def BsI (l:List α) (key:α→ByteArray) (u:ByteArray) (i j:Nat):Prop:=i≤j∧j≤l.length∧(∀ (q:Nat) (hq:q<l.length),q<i→eR (key l[q]) u<0)∧(∀ (q:Nat) (hq:q<l.length),j≤q→¬ eR (key l[q]) u<0)
theorem BsI.start (l:List α) (u:ByteArray):BsI l key u 0 l.length:=⟨Nat.zero_le _,Nat.le_refl _,fun _ _ h=>absurd h (Nat.not_lt_zero _),fun q hq h=>absurd hq (by omega)⟩
theorem BsI.lo {l:List α} {u:ByteArray} {i j m:Nat} (h:BsI l key u i j) (hr:dL key l) (h1:i≤m) (h2:m<j) (hm:m<l.length) (hc:eR (key l[m]) u<0):BsI l key u (m+1) j:=by
  refine⟨h2,h.2.1,fun q hq hqm=>?_,h.2.2.2⟩
  by_cases e:q=m
  · subst e; exact hc
  · exact iQ (List.pairwise_iff_getElem.1 hr q m hq hm (by omega)) hc
theorem BsI.hi {l:List α} {u:ByteArray} {i j m:Nat} (h:BsI l key u i j) (hr:dL key l) (h1:i≤m) (h2:m<j) (hm:m<l.length) (hc:¬ eR (key l[m]) u<0):BsI l key u i m:=by
  refine⟨h1,by have:=h.2.1; omega,h.2.2.1,fun q hq hqm=>?_⟩
  by_cases e:q=m
  · subst e; exact hc
  · have h3:=List.pairwise_iff_getElem.1 hr m q hm hq (by omega)
    intro h4
    exact hc (iQ h3 h4)
theorem BsI.fin {l:List α} {u:ByteArray} {i j:Nat} (h:BsI l key u i j) (hr:dL key l) (hij:j≤i):dN key l u=i∧jF key l u=(decide (i<l.length)&&decide (∃ hi:i<l.length,eR (key l[i]) u=0)):=by
  have e:i=j:=by have:=h.1; omega
  subst e
  obtain ⟨_,h1,h2,h3⟩:=h
  have hp:l.filter (loK key u)=l.take i:=by
    conv=>lhs; rw[← List.take_append_drop i l]
    rw[List.filter_append]
    have a:(l.take i).filter (loK key u)=l.take i:=List.filter_eq_self.2 fun x hx=>by
      obtain ⟨q,hq,rfl⟩:=List.getElem_of_mem hx
      rw[List.length_take] at hq
      rw[List.getElem_take]
      simp only[loK,decide_eq_true_eq]
      exact h2 q (by omega) (by omega)
    have b:(l.drop i).filter (loK key u)=[]:=List.filter_eq_nil_iff.2 fun x hx=>by
      obtain ⟨q,hq,rfl⟩:=List.getElem_of_mem hx
      rw[List.length_drop] at hq
      rw[List.getElem_drop]
      simp only[loK,decide_eq_true_eq]
      exact h3 (i+q) (by omega) (by omega)
    rw[a,b,List.append_nil]
  refine⟨by rw[dN,hp,List.length_take]; omega,?_⟩
  rw[Bool.eq_iff_iff]
  simp only[jF,List.any_eq_true,isK,decide_eq_true_eq,Bool.and_eq_true]
  constructor
  · rintro ⟨x,hx,e⟩
    obtain ⟨q,hq,rfl⟩:=List.getElem_of_mem hx
    have hc:eR (key l[q]) u=0:=(uT _ _).2 e
    have hqi:i≤q:=by
      rcases Nat.lt_or_ge q i with h | h
      · have:=h2 q hq h; omega
      · exact h
    have hil:i<l.length:=by omega
    refine⟨hil,hil,?_⟩
    by_cases e2:q=i
    · subst e2; exact hc
    · exfalso
      have h4:=List.pairwise_iff_getElem.1 hr i q hil hq (by omega)
      have h5:=h3 i hil (Nat.le_refl _)
      have h6:=yK h4 (show eR (key l[q]) u≤0 by omega)
      exact h5 h6
  · rintro ⟨_,hi,e⟩
    exact⟨l[i],List.getElem_mem _,(uT _ _).1 e⟩
theorem BsI.fin_t {l:List α} {u:ByteArray} {i j:Nat} (h:BsI l key u i j) (hr:dL key l) (hij:j≤i) (hi:i<l.length):jF key l u=(eR (key l[i]) u == 0):=by
  rw[(h.fin hr hij).2,Bool.eq_iff_iff]
  simp only[Bool.and_eq_true,decide_eq_true_eq,beq_iff_eq]
  exact⟨fun⟨_,_,e⟩=>e,fun e=>⟨hi,hi,e⟩⟩
theorem BsI.fin_f {l:List α} {u:ByteArray} {i j:Nat} (h:BsI l key u i j) (hr:dL key l) (hij:j≤i) (hi:¬ i<l.length):jF key l u=false:=by
  rw[(h.fin hr hij).2]
  simp [hi]
end
theorem mN {l:List Se} {t:Int}:(l.any fun e=>decide (t<e.2.2))=!(l.all fun e=>decide (e.2.2≤t)):=by
  rw[List.not_all_eq_any_not]
  congr 1
  funext e
  rw[Bool.eq_iff_iff]
  simp only[decide_eq_true_eq,Bool.not_eq_true',decide_eq_false_iff_not,Int.not_le]
theorem pL {α:Type} {l:List α} {p:α→Bool}:(l.any fun x=>!p x)=!l.all p:=List.not_all_eq_any_not.symm
def eU (s:Sta) (u:ByteArray) (x:bI):Sta:={ s with usr:=oM s.usr u x }
theorem nJ {s:Sta} {u:ByteArray} {x:bI} (h:x.1.2≤x.1.1):eU s u x=s:=by rw[eU,oM,if_pos h]
theorem aUc {l:List bI} {x:bI} (h:¬ x.1.2≤x.1.1):iL l x≠[]:=fun e=>by
  have h1:=aGd l x
  rw[iL,if_neg h] at e
  rw[e] at h1; simp at h1
theorem aUb {l:List Us} {u:ByteArray} {x:bI} (hr:dL cM l) (hh:jF cM l u=true) (h:¬ x.1.2≤x.1.1) (hk:dN cM l u<l.length):l.set (dN cM l u) (l[dN cM l u].1,iL l[dN cM l u].2 x)=oM l u x:=by
  obtain ⟨_,e⟩:=aBz hr hh
  rw[e,oM,if_neg h,uE,nO,if_neg (aUc h),aKh hr hh]
theorem aYh {x:bI} (h:¬ x.1.2≤x.1.1):iL [] x=[x]:=by
  rw[iL,if_neg h]
  have h1:=iT x []
  exact List.perm_singleton.1 h1
theorem aYf {l:List Us} {u:ByteArray} {x:bI} (hr:dL cM l) (hh:jF cM l u=false) (h:¬ x.1.2≤x.1.1):List.flatten [l.take (dN cM l u),[(u,[x])],l.drop (dN cM l u)]=oM l u x:=by
  rw[oM,if_neg h,uE,nO,if_neg (aUc h),pT hh,aYh h,← aTl hr hh]
  simp
end Go.Abs
set_option linter.unusedVariables false
set_option linter.unusedSimpArgs false
namespace Go.Proofs.YtpkanhklapfajaaGreat
open Go Go.Abs
theorem vU {g:Nat} {cap:List AV} (hent:∀ args w,(callFunc g args).run Tryz.prog w=.ok (.enter g args) w) (hcl:cleanL (fun _=>false) cap=true) (p:Tm→Bool) (l:List Tm) (hl:l.length≤9223372036854775807) (hp:∀ x∈l,Den Tryz.prog g (.agg (tmC x)::cap) (·=.s (.bool (p x)))) :Den Tryz.prog 142 [.sl 2 (l.map tmC),.fn g cap]  (·=.s (.int .i64 (qH p l))):=by
 refine aR Tryz.func142 rfl (Nat.le_of_ble_eq_true rfl) (fun w0 A hf=>(aC (fun K1 hK1=>(aB (aE aA 1 rfl (aD (hK1 _ (aC (fun K2 hK2=>(aC (fun K3 hK3=>(aB (aE aA 3 rfl (aD (hK3 _ (aP ?_))))))))))))))))
 refine bT (ι:=Nat) (fun k=>⟨19,[(0,.sl 2 (l.map tmC)),(1,.fn g cap),(7,.s (.int .i64 ((l.map tmC).length:Nat))),(8,.s (.int .i64 (k:Nat)))],[]⟩) (fun k=>k≤l.length∧∀ (j:Nat) (hj:j<l.length),j<k→p l[j]=false) (fun k=>l.length - k) 0 ?_ ?_ ?_
 · exact⟨by omega,by omega⟩
 · exact cQ rfl
 ·
  rintro k hC
  obtain ⟨h1,h2⟩:=hC
  refine aC (fun K4 hK4=>(aB (aE aA 1 rfl (aD (hK4 _ (aC (fun K5 hK5=>(aL rfl (fun hc1=>?_) (fun hc1=>?_)))))))))
  ·
   simp only[bs] at hc1
   refine aN (hK5 _ (aC (fun K6 hK6=>(aP (aC (fun K7 hK7=>(aB (aE aA 2 rfl (aD (hK7 _ (aC (fun K8 hK8=>(aB (aE aA 3 rfl ?_))))))))))))))
   refine aH rfl (bG rfl rfl kF gR (by first | exact ixm (by omega) | assumption | exact⟨by decide,rfl⟩)) ?_
   refine aE aA 1 rfl (aI hf rfl (aK rfl rfl hent (by rw[gV,hcl]; rfl) (hp _ (List.getElem_mem _))) ?_)
   refine aD (hK8 _ (aL rfl (fun hc2=>?_) (fun hc2=>?_)))
   ·
    refine aC (fun K9 hK9=>(aB (aE aA 2 rfl (aD (hK9 _ (aJ ?_))))))
    refine⟨_,rfl,?_⟩
    refine dM ?_
    rw[oT (by omega) h2 (by assumption)]
   ·
    refine aN (hK6 _ (aB ?_))
    refine aH rfl (bO rfl rfl (by omega) (by omega)) ?_
    refine aE aA 1 rfl (aD ?_)
    exact⟨k+1,⟨by omega,fun j hj hjk=>by
      by_cases e:j=k
      · subst e; simp_all
      · exact h2 j hj (by omega)⟩,by omega,cQ rfl⟩
  ·
   simp only[bs] at hc1
   refine bF (hK2 _ (aC (fun K10 hK10=>(aB (aE aA 1 rfl (aD (hK10 _ (aJ ?_))))))))
   refine⟨_,rfl,?_⟩
   refine dM ?_
   rw[qU (fun j hj=>h2 j hj (by omega))]
theorem aHx {g:Nat} {cap:List AV} (hent:∀ args w,(callFunc g args).run Tryz.prog w=.ok (.enter g args) w) (hcl:cleanL (fun _=>false) cap=true) (p:Tm→Bool) (l:List Tm) (hl:l.length≤9223372036854775807) (hp:∀ x∈l,Den Tryz.prog g (.agg (tmC x)::cap) (·=.s (.bool (p x)))) :Den Tryz.prog 92 [.sl 2 (l.map tmC),.fn g cap]  (·=.s (.bool (l.any p))):=by
 refine aR Tryz.func92 rfl (Nat.le_of_ble_eq_true rfl) (fun w0 A hf=>(aC (fun K1 hK1=>(aB (aE aA 1 rfl (aD (hK1 _ (aC (fun K2 hK2=>(aB (aE aA 2 rfl (aI hf rfl (aK rfl rfl aDw (by show (true&&(cleanL (fun _=>false) cap&&true))=true; rw[hcl]; rfl) (vU hent hcl p l hl hp)) ?_))))))))))))
 refine aE aA 2 rfl (aD (hK2 _ (aJ ?_)))
 refine⟨_,rfl,?_⟩
 refine aO ?_
 rw[← pW]
theorem aD8 {g:Nat} {cap:List AV} (hent:∀ args w,(callFunc g args).run Tryz.prog w=.ok (.enter g args) w) (hcl:cleanL (fun _=>false) cap=true) (hcv:∀ m,convL m cap=cap) (p:Tm→Bool) (l:List Tm) (n:Nat) (hn:n=l.length) (hl:l.length≤9223372036854775807) (hp:∀ x∈l,Den Tryz.prog g (.agg (tmC x)::cap) (·=.s (.bool (p x)))) :DenM Tryz.prog 162 [.own E0 2 0 n,.fn g cap] 2 ((l.map tmC)) (fun r ys=>r=.own E0 2 0 (l.filter fun x=>!p x).length∧ys=((l.filter fun x=>!p x).map tmC)):=by
 subst hn
 have hq0:∀ j,((l.take j).filter fun x=>!p x).length≤j:=fun j=>iX _ l j
 have hq1:∀ j,((l.take j).filter fun x=>!p x).length≤l.length:=fun j=>iJ _ l j
 refine iK Tryz.func162 rfl (Nat.le_of_ble_eq_true rfl) (fun w0 x0 A hf=>?_)
 refine aC (fun K1 hK1=>(aB (aH rfl (bK) (aD (hK1 _ (aC (fun K2 hK2=>(aB (aE aA 2 rfl (aI hf rfl (sG rfl rfl (by show [AV.conv _ _,AV.fn g (convL _ cap)]=_; rw[hcv,cI (g:=E0) rfl (by simp)]) aDw (vU hent hcl p l hl hp) rfl) ?_))))))))))
 refine aE aA 1 rfl (aD (hK2 _ (aC (fun K3 hK3=>(aC (fun K4 hK4=>(aB (aE aA 2 rfl (aD (hK4 _ (aL rfl (fun hc1=>?_) (fun hc1=>?_))))))))))))
 ·
  simp only[bs] at hc1
  refine aC (fun K5 hK5=>(aB (aE aA 2 rfl (aD (hK5 _ (aJ ?_))))))
  have hno:qH p l=-1:=by simpa using hc1
  rcases eP p l with ⟨_,hn⟩ | ⟨k,hk,e,_⟩
  · exact⟨_,.own E0 2 0 l.length,(l.map tmC),Le.refl _,rfl,rfl,by rw[gU p l hn],by rw[gU p l hn]⟩
  · exfalso; omega
 ·
  simp only[bs] at hc1
  refine aN (hK3 _ (aC (fun K6 hK6=>(aC (fun K7 hK7=>(aB ?_))))))
  rcases eP p l with ⟨e0,_⟩ | ⟨k0,hk0,ek0,hpk0,hbef⟩
  · exact absurd e0 (by simpa using hc1)
  have hst:=lX (fun x=>!p x) l k0 hk0 (fun j hj hjk=>by simp [hbef j hj hjk]) (by simp [hpk0])
  rw[ek0]
  refine aE aA 1 rfl ?_
  refine aH rfl (bO rfl rfl (by omega) (by omega)) ?_
  refine aE aA 1 rfl (aD (hK7 _ (aP (bT (ι:=Nat) (fun j=>⟨42,[(0,.own E0 2 0 l.length),(1,.fn g cap),(5,.s (.int .i64 (((l.take j).filter fun x=>!p x).length:Nat))),(6,.s (.int .i64 (j:Nat)))],[(E0,.buf 2 ((jX (fun x=>!p x) l j).map tmC))]⟩) (fun j=>j≤l.length) (fun j=>l.length - j) (k0+1) ?_ ?_ ?_))))
  · exact hk0
  · rw[hst.1,hst.2]; exact kI ⟨rfl,rfl,rfl,rfl,trivial⟩
  ·
   rintro j hC
   let q:=fun x=>!p x
   have hle:((l.take j).filter q).length≤j:=hq0 j
   have hle2:((l.take j).filter fun x=>!p x).length≤j:=hq0 j
   refine aC (fun K8 hK8=>(aC (fun K9 hK9=>(aB (aE aA 4 rfl (aD (hK9 _ (aL rfl (fun hc2=>?_) (fun hc2=>?_)))))))))
   ·
    simp only[bs] at hc2
    refine aN (hK8 _ (aC (fun K10 hK10=>(aP (aC (fun K11 hK11=>(aB (aE aA 2 rfl ?_))))))))
    refine aH rfl (cB rfl rfl kF gR (by omega)) ?_
    refine aH rfl (cD rfl aWd gR rfl (qK (c:=2) (k:=j) (enc:=tmC) (by omega) (by rw[eQ]; omega) rfl) (cs':=tmC l[j]) (by rw[nV (c:=2) (k:=j) (enc:=tmC) (by omega) (by rw[eQ]; omega) rfl,qV q l j j (by omega) hle])) ?_
    refine bY hf rfl yC rfl gR rfl rfl rfl rfl (lf rfl) (aD (hK11 _ (aC (fun K12 hK12=>(aB (aE aA 2 rfl (aI hf rfl (aK rfl rfl hent (by rw[gV,hcl]; rfl) (hp _ (List.getElem_mem _))) ?_)))))))
    refine aE aA 1 rfl (aD (hK12 _ (aL rfl (fun hc3=>?_) (fun hc3=>?_))))
    ·
     simp only[bs] at hc3
     refine aC (fun K13 hK13=>(aB (aE aA 3 rfl ?_)))
     refine aH rfl (cB rfl rfl kF gR (by omega)) ?_
     refine bB hf rfl rfl gR rfl rfl (by simp [tmC,AV.cells,AV.one,Value.oneCell',splice]) (by simp [tmC,AV.cells,AV.leaf,Value.oneCell',splice]) (iS (c:=2) (k:=((l.take j).filter fun x=>!p x).length) (enc:=tmC) (v:=l[j]) (by omega) (by rw[eQ]; omega) rfl (Nat.le_refl _)) ?_
     refine aD (hK13 _ (aB ?_))
     rw[kY (fun x=>!p x) l j (by omega) (by simp_all)]
     refine aE aA 1 rfl ?_
     refine aH rfl (bO rfl rfl (by omega) (by omega)) ?_
     rw[nD (fun x=>!p x) l j (by omega) (by simp_all)]
     refine aE aA 1 rfl ?_
     refine bS ?_
     refine hK10 _ (aB (aE aA 1 rfl ?_))
     refine aH rfl (bO rfl rfl (by omega) (by omega)) ?_
     refine aE aA 1 rfl (aD ?_)
     exact⟨j+1,(by omega),by omega,cQ rfl⟩
    ·
     simp only[bs] at hc3
     rw[kZ (fun x=>!p x) l j (by omega) (by simp_all),nE (fun x=>!p x) l j (by omega) (by simp_all)]
     refine aN (hK10 _ (aB (aE aA 1 rfl ?_)))
     refine aH rfl (bO rfl rfl (by omega) (by omega)) ?_
     refine aE aA 1 rfl (aD ?_)
     exact⟨j+1,(by omega),by omega,cQ rfl⟩
   ·
    simp only[bs] at hc2
    refine bF (hK6 _ (aC (fun K14 hK14=>(aB (aE aA 2 rfl ?_)))))
    refine aH rfl (eW rfl kF gR rfl rfl (by omega) (by omega)) ?_
    refine xL hf mA yC (by simp [Value.oneCell']) rfl rfl ?_
    refine aD (hK14 _ (aC (fun K15 hK15=>(aB (aE aA 2 rfl ?_)))))
    refine aH rfl (eW rfl kF gR rfl rfl (by omega) (by omega)) ?_
    refine aE aA 1 rfl (aD (hK15 _ (aJ ?_)))
    have hjl:l.length≤j:=by omega
    have he:=oX (fun x=>!p x) l j hjl
    refine⟨_,_,_,Le.refl _,rfl,rfl,?_,?_⟩
    · rw[List.take_of_length_le hjl]; rfl
    · rw[List.take_of_length_le hjl,Nat.zero_add,Int.toNat_natCast,← List.map_take,he]
theorem aE6 (l:List Tm) (hl:l.length*24≤140737488355328) :DenO Tryz.prog 120 [.sl 2 (l.map tmC)] 2 (·=(l.map tmC)):=by
 refine gK Tryz.func120 rfl (Nat.le_of_ble_eq_true rfl) (fun w0 A hf=>?_)
 refine aC (fun K1 hK1=>(aB (aH rfl (bK) (aD (hK1 _ (aC (fun K2 hK2=>(aC (fun K3 hK3=>(aB (aE aA 1 rfl ?_)))))))))))
 refine oN rfl rfl rfl kF (fun b hb1=>?_)
 refine aD (hK3 _ (aL rfl (fun hc2=>?_) (fun hc2=>?_)))
 ·
  have hl0:l=[]:=by simpa using hb1 (by assumption)
  refine aC (fun K4 hK4=>(aB (mC hf 2 rfl rfl rfl (aD (hK4 _ (aJ ?_))))))
  exact⟨2,[],by decide,rfl,rfl,by rw[hl0]; rfl⟩
 ·
  refine aN (hK2 _ (aC (fun K5 hK5=>(aB (dR hf rfl rfl rfl mA rfl rfl rfl rfl (l2 rfl) ?_)))))
  refine aE aA 1 rfl (bH hf rfl mA rfl rfl rfl (.inl rfl) rfl rfl (by first | rfl | simp [eK,bL]) (by first | (simp only[maxLen,List.length_map,List.length_append,List.length_cons,List.length_nil]; omega) | (simp [maxLen] <;> omega)) (by first | (simp only[List.length_map,List.length_append,List.length_cons,List.length_nil]; omega) | (simp <;> omega)) ?_)
  refine bD (cX [7] rfl) (aE aA 1 rfl (aD (hK5 _ (aJ ?_))))
  refine⟨5,(l.map tmC),by decide,rfl,?_,rfl⟩
  show some (AV.own 5 2 0 (0+(l.map tmC).length))=_
  rw[Nat.zero_add]
theorem aHz {g:Nat} {cap:List AV} (hent:∀ args w,(callFunc g args).run Tryz.prog w=.ok (.enter g args) w) (hcl:cleanL (fun _=>false) cap=true) (p:bI→Bool) (l:List bI) (hl:l.length≤9223372036854775807) (hp:∀ x∈l,Den Tryz.prog g (.agg (stC x)::cap) (·=.s (.bool (p x)))) :Den Tryz.prog 81 [.sl 4 (l.map stC),.fn g cap]  (·=.s (.bool (l.any p))):=by
 refine aR Tryz.func81 rfl (Nat.le_of_ble_eq_true rfl) (fun w0 A hf=>(aC (fun K1 hK1=>(aB (aE aA 1 rfl (aD (hK1 _ (aC (fun K2 hK2=>(aB (aE aA 2 rfl (aI hf rfl (aK rfl rfl aDz (by show (true&&(cleanL (fun _=>false) cap&&true))=true; rw[hcl]; rfl) (wA hent hcl p l hl hp)) ?_))))))))))))
 refine aE aA 2 rfl (aD (hK2 _ (aJ ?_)))
 refine⟨_,rfl,?_⟩
 refine aO ?_
 rw[← pW]
theorem yL {g:Nat} {cap:List AV} (hent:∀ args w,(callFunc g args).run Tryz.prog w=.ok (.enter g args) w) (hcl:cleanL (fun _=>false) cap=true) (p:Se→Bool) (l:List Se) (hl:l.length≤9223372036854775807) (hp:∀ x∈l,Den Tryz.prog g (.agg (seC x)::cap) (·=.s (.bool (p x)))) :Den Tryz.prog 77 [.sl 4 (l.map seC),.fn g cap]  (·=.s (.bool (l.any p))):=by
 refine aR Tryz.func77 rfl (Nat.le_of_ble_eq_true rfl) (fun w0 A hf=>(aC (fun K1 hK1=>(aB (aE aA 1 rfl (aD (hK1 _ (aC (fun K2 hK2=>(aB (aE aA 2 rfl (aI hf rfl (aK rfl rfl xI (by show (true&&(cleanL (fun _=>false) cap&&true))=true; rw[hcl]; rfl) (rB hent hcl p l hl hp)) ?_))))))))))))
 refine aE aA 2 rfl (aD (hK2 _ (aJ ?_)))
 refine⟨_,rfl,?_⟩
 refine aO ?_
 rw[← pW]
theorem aIo {g:Nat} {cap:List AV} (hent:∀ args w,(callFunc g args).run Tryz.prog w=.ok (.enter g args) w) (hcl:cleanL (fun _=>false) cap=true) (p:En→Bool) (l:List En) (hl:l.length≤9223372036854775807) (hp:∀ x∈l,Den Tryz.prog g (.agg (enC x)::cap) (·=.s (.bool (p x)))) :Den Tryz.prog 89 [.sl 4 (l.map enC),.fn g cap]  (·=.s (.bool (l.any p))):=by
 refine aR Tryz.func89 rfl (Nat.le_of_ble_eq_true rfl) (fun w0 A hf=>(aC (fun K1 hK1=>(aB (aE aA 1 rfl (aD (hK1 _ (aC (fun K2 hK2=>(aB (aE aA 2 rfl (aI hf rfl (aK rfl rfl sS (by show (true&&(cleanL (fun _=>false) cap&&true))=true; rw[hcl]; rfl) (oC hent hcl p l hl hp)) ?_))))))))))))
 refine aE aA 2 rfl (aD (hK2 _ (aJ ?_)))
 refine⟨_,rfl,?_⟩
 refine aO ?_
 rw[← pW]
end Go.Proofs.YtpkanhklapfajaaGreat
set_option linter.unusedVariables false
set_option linter.unusedSimpArgs false
namespace Go.Proofs.YtpkanhklapfajaaGreat
open Go Go.Abs
theorem aU1 (l:List bI) (hl:l.length*32+32≤140737488355328) :Den Tryz.prog 47 [.sl 4 (l.map stC)]  (·=.sl 4 (l.map stC)):=by
 refine aR Tryz.func47 rfl (Nat.le_of_ble_eq_true rfl) (fun w0 A hf=>(aC (fun K1 hK1=>(aB (aH rfl (bK) (aD (hK1 _ (aC (fun K2 hK2=>(aB (mC hf 4 rfl rfl rfl (aD (hK2 _ (aC (fun K3 hK3=>(aC (fun K4 hK4=>?_)))))))))))))))))
 refine aB (aE aA 3 rfl (aD (hK4 _ (aP (bT (ι:=Nat) (fun k=>⟨19,[(3,.own 3 4 0 (l.take k).length),(6,.sl 4 (l.map stC)),(7,.s (.int .i64 ((l.map stC).length:Nat))),(8,.s (.int .i64 (k:Nat)))],[(3,.buf 4 ((l.take k).map stC))]⟩) (fun k=>k≤l.length) (fun k=>l.length - k) 0 ?_ ?_ ?_)))))
 · exact Nat.zero_le _
 · exact cQ rfl
 ·
  rintro k hC
  refine aC (fun K5 hK5=>(aB (aE aA 1 rfl (aD (hK5 _ (aC (fun K6 hK6=>(aL rfl (fun hc1=>?_) (fun hc1=>?_)))))))))
  ·
   simp only[bs] at hc1
   refine aN (hK6 _ (aC (fun K7 hK7=>(aP (aC (fun K8 hK8=>(aB ?_)))))))
   refine aH rfl (bG rfl rfl tT qD (by first | exact ixm (by omega) | assumption | exact⟨by decide,rfl⟩)) ?_
   refine aE aA 1 rfl (bY hf rfl aOz rfl qD rfl rfl rfl rfl (lf rfl) (aD (hK8 _ (aB ?_))))
   have htl:(l.take k).length=k:=by rw[List.length_take]; omega
   refine aE aA 2 rfl (aI hf rfl (aK rfl rfl aHn rfl (aNk l[k])) (aI hf rfl (aS gS rfl rfl rfl rfl (l2 rfl)) (bH hf rfl gS rfl rfl rfl (.inl rfl) (by rw[List.length_map]) rfl (by first | rfl | simp [eK,bL]) (by first | (simp only[maxLen,List.length_map,List.length_append,List.length_cons,List.length_nil]; omega) | (simp [maxLen] <;> omega)) (by first | (simp only[List.length_map,List.length_append,List.length_cons,List.length_nil]; omega) | (simp <;> omega)) ?_)))
   refine bD (cX [6,7,8,16] rfl) (aE aA 1 rfl ?_)
   refine bS ?_
   refine hK7 _ (aB ?_)
   refine aH rfl (bO rfl rfl (by omega) (by omega)) ?_
   refine aE aA 1 rfl (aD ?_)
   exact⟨k+1,by omega,by omega,cJ ⟨(by rw[tC l k (by omega)]; rfl),rfl,rfl,rfl,trivial⟩ (by rw[rD l stC k (by omega)]; rfl)⟩
  ·
   simp only[bs] at hc1
   refine bF (hK3 _ (aC (fun K9 hK9=>(aB (aE aA 2 rfl (aD (hK9 _ (aJ ?_))))))))
   refine⟨_,rfl,?_⟩
   refine(cI (g:=3) rfl (by rw[List.length_map])).trans ?_
   rw[List.take_of_length_le (by omega)]
theorem aMu (l:List bI) (hl:l.length≤9223372036854775807) :Den Tryz.prog 80 [.sl 4 (l.map stC)]  (·=.s (.bool (vN l))):=by
 refine aR Tryz.func80 rfl (Nat.le_of_ble_eq_true rfl) (fun w0 A hf=>(aC (fun K1 hK1=>(aB (aE aA 1 rfl (aD (hK1 _ (aC (fun K2 hK2=>(aC (fun K3 hK3=>(aB (aE aA 3 rfl (aD (hK3 _ (aP ?_))))))))))))))))
 refine bT (ι:=Nat) (fun k=>⟨30,[(0,.sl 4 (l.map stC)),(5,.sl 4 (l.map stC)),(6,.s (.int .i64 ((l.map stC).length:Nat))),(7,.s (.int .i64 (k:Nat)))],[]⟩) (fun k=>k≤l.length∧vN l=nP okS vJ (iV l k) (l.drop k)) (fun k=>l.length - k) 0 ?_ ?_ ?_
 · exact⟨Nat.zero_le _,rfl⟩
 · exact cQ rfl
 ·
  rintro k hC
  obtain ⟨h1,h2⟩:=hC
  refine aC (fun K4 hK4=>(aB (aE aA 1 rfl (aD (hK4 _ (aC (fun K5 hK5=>(aL rfl (fun hc1=>?_) (fun hc1=>?_)))))))))
  ·
   simp only[bs] at hc1
   refine aN (hK5 _ (aC (fun K6 hK6=>(aP (aC (fun K7 hK7=>(aB (aE aA 1 rfl ?_))))))))
   refine aH rfl (bG rfl rfl cC bC (by first | exact ixm (by omega) | assumption | exact⟨by decide,rfl⟩)) ?_
   refine aE aA 1 rfl (aW hf rfl rfl rfl eE (aE aA 1 rfl (bB hf rfl rfl bC rfl rfl (l1 rfl) (l4 rfl) rfl (bD (pH (nee 4) (sl':=[(0,_),(3,_),(4,_),(5,_),(6,_),(7,_)]) (m':=[]) ⟨⟨_,rfl,rfl⟩,⟨_,rfl,rfl⟩,⟨_,rfl,rfl⟩,⟨_,rfl,rfl⟩,⟨_,rfl,rfl⟩,⟨_,rfl,rfl⟩,trivial⟩ rfl) (aD (hK7 _ (aC (fun K8 hK8=>(cP hf bE (by kernel_rfl) rfl (aV aA 2 rfl (bJ [(13,_)] rfl rfl ⟨⟨rfl,rfl⟩,trivial⟩ rfl (aK rfl rfl jP rfl (mK l[k].1)) (aV aA 1 rfl (fC 15 false rfl (fun hg2=>?_) (fun hg2=>?_))))))))))))))
   ·
    simp only[bs] at hg2
    refine aV aA 3 rfl (fC 18 true rfl (fun hg3=>?_) (fun hg3=>?_))
    ·
     simp only[bs] at hg3
     refine aV aA 2 rfl ?_
     refine bQ [(20,_)] rfl rfl ⟨⟨rfl,rfl⟩,trivial⟩ rfl (eZ rfl rfl (by omega) (by omega)) ?_
     refine bQ [(19,_),(21,_)] rfl rfl ⟨⟨rfl,rfl⟩,⟨rfl,rfl⟩,trivial⟩ rfl (bG rfl rfl cC bC (hY (k:=k - 1) (by omega) (by omega))) (aV aA 2 rfl (bJ [(23,_),(24,_)] rfl rfl ⟨⟨rfl,rfl⟩,⟨rfl,rfl⟩,trivial⟩ rfl (aK rfl rfl rU rfl (wW l[k - 1] l[k])) (aV aA 3 rfl (cT [0,5,6,7,28] rfl rfl rfl (hK8 _ (aL rfl (fun hc4=>?_) (fun hc4=>?_)))))))
     ·
      simp only[bs] at hc4
      refine aC (fun K9 hK9=>(aB (aE aA 1 rfl (aD (hK9 _ (aJ ?_))))))
      refine⟨_,rfl,?_⟩
      refine aO ?_
      rw[fV h2 (by omega) (by omega) (show vJ _ _=false from by simp only[vJ,decide_eq_false_iff_not]; omega)]
     ·
      simp only[bs] at hc4
      refine aN (hK6 _ (aB ?_))
      refine aH rfl (bO rfl rfl (by omega) (by omega)) ?_
      refine aE aA 1 rfl (aD ?_)
      exact⟨k+1,⟨by omega,gF h2 (by omega) (show okS l[k]=true from by simp only[okS,decide_eq_true_eq]; omega) (fun h0=>by simp only[vJ,decide_eq_true_eq]; omega)⟩,by omega,cQ rfl⟩
    ·
     simp only[bs] at hg3
     refine aV aA 10 rfl (cT [0,5,6,7,28] rfl rfl rfl (hK8 _ (bW rfl (aN (hK6 _ (aB ?_))))))
     refine aH rfl (bO rfl rfl (by omega) (by omega)) ?_
     refine aE aA 1 rfl (aD ?_)
     exact⟨k+1,⟨by omega,gF h2 (by omega) (show okS l[k]=true from by simp only[okS,decide_eq_true_eq]; omega) (fun h0=>by simp only[vJ,decide_eq_true_eq]; omega)⟩,by omega,cQ rfl⟩
   ·
    simp only[bs] at hg2
    refine aV aA 3 rfl (aZ rfl rfl ?_)
    refine aZ rfl rfl ?_
    refine aZ rfl rfl ?_
    refine aZ rfl rfl ?_
    refine aZ rfl rfl ?_
    refine aZ rfl rfl ?_
    refine aZ rfl rfl ?_
    refine aZ rfl rfl ?_
    refine aV aA 2 rfl (cT [0,5,6,7,28] rfl rfl rfl (hK8 _ (bN rfl (aC (fun K10 hK10=>(aB (aE aA 1 rfl (aD (hK10 _ (aJ ?_))))))))))
    refine⟨_,rfl,?_⟩
    refine aO ?_
    rw[fM h2 (by omega) (show okS l[k]=false from by simp only[okS,decide_eq_false_iff_not]; omega)]
  ·
   simp only[bs] at hc1
   refine bF (hK2 _ (aC (fun K11 hK11=>(aB (aE aA 1 rfl (aD (hK11 _ (aJ ?_))))))))
   refine⟨_,rfl,?_⟩
   refine aO ?_
   rw[pP h2 (by omega)]
theorem aFt (l:List bI) (hl:l.length≤9223372036854775807) :Den Tryz.prog 94 [.sl 4 (l.map stC)]  (·=.s (.bool (vN l))):=by
 refine aR Tryz.func94 rfl (Nat.le_of_ble_eq_true rfl) (fun w0 A hf=>(aC (fun K1 hK1=>(aB (aE aA 1 rfl (aD (hK1 _ (aC (fun K2 hK2=>(aC (fun K3 hK3=>(aB (aE aA 1 rfl (aD (hK3 _ (aP ?_))))))))))))))))
 refine bT (ι:=Nat) (fun k=>⟨38,[(0,.sl 4 (l.map stC)),(3,.s (.int .i64 (k:Nat)))],[]⟩) (fun k=>k≤l.length∧vN l=nP okS vJ (iV l k) (l.drop k)) (fun k=>l.length - k) 0 ?_ ?_ ?_
 · exact⟨Nat.zero_le _,rfl⟩
 · exact cQ rfl
 ·
  rintro k hC
  obtain ⟨h1,h2⟩:=hC
  refine aC (fun K4 hK4=>(aC (fun K5 hK5=>(aB (aE aA 4 rfl (aD (hK5 _ (aL rfl (fun hc1=>?_) (fun hc1=>?_)))))))))
  ·
   simp only[bs] at hc1
   refine aN (hK4 _ (aC (fun K6 hK6=>(aP (aC (fun K7 hK7=>(cP hf bE (by kernel_rfl) rfl (aV aA 2 rfl ?_))))))))
   refine bQ [(10,_),(11,_)] rfl rfl ⟨⟨rfl,rfl⟩,⟨rfl,rfl⟩,trivial⟩ rfl (bG rfl rfl tT qD (by first | exact ixm (by omega) | assumption | exact⟨by decide,rfl⟩)) ?_
   refine aV aA 4 rfl ?_
   refine bQ [(15,_),(16,_)] rfl rfl ⟨⟨rfl,rfl⟩,⟨rfl,rfl⟩,trivial⟩ rfl (bG rfl rfl tT qD (by first | exact ixm (by omega) | assumption | exact⟨by decide,rfl⟩)) ?_
   refine aV aA 4 rfl (fC 21 false rfl (fun hg2=>?_) (fun hg2=>?_))
   ·
    simp only[bs] at hg2
    refine aV aA 3 rfl (fC 24 true rfl (fun hg3=>?_) (fun hg3=>?_))
    ·
     simp only[bs] at hg3
     refine aV aA 2 rfl ?_
     refine bQ [(26,_)] rfl rfl ⟨⟨rfl,rfl⟩,trivial⟩ rfl (eZ rfl rfl (by omega) (by omega)) ?_
     refine bQ [(25,_),(27,_)] rfl rfl ⟨⟨rfl,rfl⟩,⟨rfl,rfl⟩,trivial⟩ rfl (bG rfl rfl tT qD (hY (k:=k - 1) (by omega) (by omega))) (aV aA 3 rfl ?_)
     refine bQ [(30,_),(31,_)] rfl rfl ⟨⟨rfl,rfl⟩,⟨rfl,rfl⟩,trivial⟩ rfl (bG rfl rfl tT qD (by first | exact ixm (by omega) | assumption | exact⟨by decide,rfl⟩)) ?_
     refine aV aA 1 rfl (bJ [(29,_),(33,_)] rfl rfl ⟨⟨rfl,rfl⟩,⟨rfl,rfl⟩,trivial⟩ rfl (aK rfl rfl aQl rfl (aR3 l[k - 1] l[k])) (aV aA 3 rfl (cT [0,3,37] rfl rfl rfl (hK7 _ (aL rfl (fun hc4=>?_) (fun hc4=>?_))))))
     ·
      simp only[bs] at hc4
      refine aC (fun K8 hK8=>(aB (aE aA 1 rfl (aD (hK8 _ (aJ ?_))))))
      refine⟨_,rfl,?_⟩
      refine aO ?_
      rw[fV h2 (by omega) (by omega) (show vJ _ _=false from by simp only[vJ,decide_eq_false_iff_not]; omega)]
     ·
      simp only[bs] at hc4
      refine aN (hK6 _ (aB (aE aA 1 rfl ?_)))
      refine aH rfl (bO rfl rfl (by omega) (by omega)) ?_
      refine aE aA 1 rfl (aD ?_)
      exact⟨k+1,⟨by omega,gF h2 (by omega) (show okS l[k]=true from by simp only[okS,decide_eq_true_eq]; omega) (fun h0=>by simp only[vJ,decide_eq_true_eq]; omega)⟩,by omega,cQ rfl⟩
    ·
     simp only[bs] at hg3
     refine aV aA 13 rfl (cT [0,3,37] rfl rfl rfl (hK7 _ (bW rfl (aN (hK6 _ (aB (aE aA 1 rfl ?_)))))))
     refine aH rfl (bO rfl rfl (by omega) (by omega)) ?_
     refine aE aA 1 rfl (aD ?_)
     exact⟨k+1,⟨by omega,gF h2 (by omega) (show okS l[k]=true from by simp only[okS,decide_eq_true_eq]; omega) (fun h0=>by simp only[vJ,decide_eq_true_eq]; omega)⟩,by omega,cQ rfl⟩
   ·
    simp only[bs] at hg2
    refine aV aA 3 rfl (aZ rfl rfl ?_)
    refine aZ rfl rfl ?_
    refine aZ rfl rfl ?_
    refine aZ rfl rfl ?_
    refine aZ rfl rfl ?_
    refine aZ rfl rfl ?_
    refine aZ rfl rfl ?_
    refine aZ rfl rfl ?_
    refine aZ rfl rfl ?_
    refine aZ rfl rfl ?_
    refine aZ rfl rfl ?_
    refine aV aA 2 rfl (cT [0,3,37] rfl rfl rfl (hK7 _ (bN rfl (aC (fun K9 hK9=>(aB (aE aA 1 rfl (aD (hK9 _ (aJ ?_))))))))))
    refine⟨_,rfl,?_⟩
    refine aO ?_
    rw[fM h2 (by omega) (show okS l[k]=false from by simp only[okS,decide_eq_false_iff_not]; omega)]
  ·
   simp only[bs] at hc1
   refine bF (hK2 _ (aC (fun K10 hK10=>(aB (aE aA 1 rfl (aD (hK10 _ (aJ ?_))))))))
   refine⟨_,rfl,?_⟩
   refine aO ?_
   rw[pP h2 (by omega)]
theorem aUo (a b:List bI) (ha:a.length≤9223372036854775807) (hb:b.length≤9223372036854775807) :Den Tryz.prog 28 [.sl 4 (a.map stC),.sl 4 (b.map stC)]  (·=.s (.bool (decide (a=b)))):=by
 refine aR Tryz.func28 rfl (Nat.le_of_ble_eq_true rfl) (fun w0 A hf=>(aC (fun K1 hK1=>(aB (aE aA 1 rfl (aD (hK1 _ (aC (fun K2 hK2=>(aB (aE aA 2 rfl (aI hf rfl (aK rfl rfl aSx rfl (aQ2 a b ha hb)) (aE aA 1 rfl (aD (hK2 _ ?_)))))))))))))))
 refine aJ ?_
 refine⟨_,rfl,?_⟩
 rfl
theorem aR5 (l:List bI) (t:Int) (hl:l.length*32+32≤140737488355328) :Den Tryz.prog 68 [.sl 4 (l.map stC),.s (.int .i64 t)]  (·=.sl 4 ((l.filter (fun s:bI=>!decide (s.1.2≤t))).map stC)):=by
 refine aR Tryz.func68 rfl (Nat.le_of_ble_eq_true rfl) (fun w0 A hf=>(aC (fun K1 hK1=>(aB (aI hf rfl (cE rfl rfl (lf rfl)) (aH rfl (bK) (aD (hK1 _ (aC (fun K2 hK2=>(aB (aE aA 1 rfl (iN hf rfl rfl rfl rfl rfl vA rfl (uG l (by omega)) ?_)))))))))))))
 rintro _ rfl
 refine aH rfl (eY rfl) (gE hf 6 rfl rfl rfl rfl rfl aP9 (aEa aP8 rfl (fun _=>rfl) (fun s=>decide (s.1.2≤t)) l _ (by rw[List.length_map]) (by omega) (fun x _=>aOu x t)) ?_)
 rintro r zs ⟨rfl,rfl⟩
 refine aE aA 1 rfl (aD (hK2 _ (aJ ?_)))
 refine⟨_,rfl,?_⟩
 exact cI (g:=6) rfl (by rw[List.length_map])
theorem aJk (l:List bI) (hl:l.length≤9223372036854775807) :Den Tryz.prog 50 [.sl 4 (l.map stC)]  (·=.tup [.s (.int .i64 (aT0 l).1),.s (.bool (aT0 l).2)]):=by
 refine aR Tryz.func50 rfl (Nat.le_of_ble_eq_true rfl) (fun w0 A hf=>(aC (fun K1 hK1=>(aB (aE aA 2 rfl (aD (hK1 _ (aC (fun K2 hK2=>(aB (aE aA 2 rfl (aD (hK2 _ (aC (fun K3 hK3=>(aC (fun K4 hK4=>?_)))))))))))))))))
 refine aB (aE aA 3 rfl (aD (hK4 _ (aP (bT (ι:=Nat×Int×Bool) (fun(⟨k,n,b⟩:Nat×Int×Bool)=>⟨35,[(4,.s (.int .i64 n)),(5,.s (.bool b)),(8,.sl 4 (l.map stC)),(9,.s (.int .i64 ((l.map stC).length:Nat))),(10,.s (.int .i64 (k:Nat)))],[]⟩) (fun(⟨k,n,b⟩:Nat×Int×Bool)=>k≤l.length∧(n,b)=(l.take k).foldl lN (0,false)) (fun(⟨k,n,b⟩:Nat×Int×Bool)=>l.length - k) (0,0,false) ?_ ?_ ?_)))))
 · exact⟨Nat.zero_le _,rfl⟩
 · exact cQ rfl
 ·
  rintro ⟨k,n,b⟩ hC
  obtain ⟨h1,h2⟩:=hC
  refine aC (fun K5 hK5=>(aB (aE aA 1 rfl (aD (hK5 _ (aC (fun K6 hK6=>(aL rfl (fun hc1=>?_) (fun hc1=>?_)))))))))
  ·
   simp only[bs] at hc1
   refine aN (hK6 _ (aC (fun K7 hK7=>(aP (aC (fun K8 hK8=>(aB ?_)))))))
   refine aH rfl (bG rfl rfl cC bC (by first | exact ixm (by omega) | assumption | exact⟨by decide,rfl⟩)) ?_
   refine aE aA 1 rfl (bY hf rfl eE rfl bC rfl rfl rfl rfl (lf rfl) (aD (hK8 _ (aC (fun K9 hK9=>(aB (aE aA 2 rfl (aI hf rfl (aK rfl rfl jP rfl (mK _)) (aE aA 2 rfl (aU rfl rfl rfl (fun hg2=>?_) (fun hg2=>?_)))))))))))
   ·
    simp only[bs] at hg2
    refine aH rfl (fZ rfl) (aE aA 2 rfl (aU rfl rfl rfl (fun hg3=>?_) (fun hg3=>?_)))
    ·
     simp only[bs] at hg3
     refine aH rfl (bM rfl pZ cY rfl) ?_
     refine aE aA 6 rfl (aD (hK9 _ (aL rfl (fun hc4=>?_) (fun hc4=>?_))))
     ·
      simp only[bs] at hc4
      refine aB (aE aA 5 rfl ?_)
      refine bS ?_
      refine hK7 _ (aB ?_)
      refine aH rfl (bO rfl rfl (by omega) (by omega)) ?_
      refine aE aA 1 rfl (aD ?_)
      exact⟨(k+1,l[k].1.2,true),⟨by omega,by rw[jL l lN _ k (by omega),← h2,lN,if_pos (by simp only; first | exact⟨by omega,.inl (by assumption)⟩ | exact⟨by omega,.inr (by omega)⟩)]⟩,by simp only; omega,kI ⟨rfl,rfl,rfl,rfl,rfl,trivial⟩⟩
     ·
      simp only[bs] at hc4
      refine aN (hK7 _ (aB ?_))
      refine aH rfl (bO rfl rfl (by omega) (by omega)) ?_
      refine aE aA 1 rfl (aD ?_)
      exact⟨(k+1,n,b),⟨by omega,by rw[jL l lN _ k (by omega),← h2,lN,if_neg (by simp only; rintro ⟨e1,e2⟩; first | omega | (rcases e2 with e2 | e2; simp_all; omega))]⟩,by simp only; omega,kI ⟨rfl,rfl,rfl,rfl,rfl,trivial⟩⟩
    ·
     simp only[bs] at hg3
     refine aE aA 6 rfl (aD (hK9 _ (bN rfl (aB (aE aA 5 rfl ?_)))))
     refine bS ?_
     refine hK7 _ (aB ?_)
     refine aH rfl (bO rfl rfl (by omega) (by omega)) ?_
     refine aE aA 1 rfl (aD ?_)
     exact⟨(k+1,l[k].1.2,true),⟨by omega,by rw[jL l lN _ k (by omega),← h2,lN,if_pos (by simp only; first | exact⟨by omega,.inl (by assumption)⟩ | exact⟨by omega,.inr (by omega)⟩)]⟩,by simp only; omega,kI ⟨rfl,rfl,rfl,rfl,rfl,trivial⟩⟩
   ·
    simp only[bs] at hg2
    refine aE aA 2 rfl (dI rfl rfl rfl ?_)
    refine dI rfl rfl rfl ?_
    refine dI rfl rfl rfl ?_
    refine dI rfl rfl rfl ?_
    refine dI rfl rfl rfl ?_
    refine aE aA 2 rfl (aD (hK9 _ (bW rfl (aN (hK7 _ (aB ?_))))))
    refine aH rfl (bO rfl rfl (by omega) (by omega)) ?_
    refine aE aA 1 rfl (aD ?_)
    exact⟨(k+1,n,b),⟨by omega,by rw[jL l lN _ k (by omega),← h2,lN,if_neg (by simp only; rintro ⟨e1,e2⟩; first | omega | (rcases e2 with e2 | e2; simp_all; omega))]⟩,by simp only; omega,kI ⟨rfl,rfl,rfl,rfl,rfl,trivial⟩⟩
  ·
   simp only[bs] at hc1
   refine bF (hK3 _ (aC (fun K10 hK10=>(aB (aE aA 4 rfl (aD (hK10 _ (aJ ?_))))))))
   refine⟨_,rfl,?_⟩
   show AV.tup [.s (.int .i64 n),.s (.bool b)]=_
   rw[aT0,← vT l lN (0,false) k (by omega),← h2]
end Go.Proofs.YtpkanhklapfajaaGreat
set_option linter.unusedVariables false
set_option linter.unusedSimpArgs false
namespace Go.Proofs.YtpkanhklapfajaaGreat
open Go Go.Abs
theorem lT (n a b:Int) :Den Tryz.prog 78 [.s (.int .i64 n),.s (.int .i64 a),.s (.int .i64 b)]  (·=.s (.bool (decide (a≤n)&&decide (n≤b)))):=by
 refine aR Tryz.func78 rfl (Nat.le_of_ble_eq_true rfl) (fun w0 A hf=>(aC (fun K1 hK1=>(aB (aE aA 1 rfl (aD (hK1 _ (aC (fun K2 hK2=>(aB (aE aA 4 rfl (aU rfl rfl rfl (fun hg1=>?_) (fun hg1=>?_)))))))))))))
 ·
  simp only[bs] at hg1
  refine aH rfl (fZ rfl) (aE aA 4 rfl (aD (hK2 _ (aJ ?_))))
  refine⟨_,rfl,?_⟩
  refine aO ?_
  rw[Bool.eq_iff_iff]
  simp only[Bool.and_eq_true,decide_eq_true_eq,true_iff,Bool.false_eq_true,false_iff]
  omega
 ·
  simp only[bs] at hg1
  refine aE aA 4 rfl (aD (hK2 _ (aJ ?_)))
  refine⟨_,rfl,?_⟩
  refine aO ?_
  rw[Bool.eq_iff_iff]
  simp only[Bool.and_eq_true,decide_eq_true_eq,true_iff,Bool.false_eq_true,false_iff]
  omega
theorem lF (n a b:Int) :Den Tryz.prog 107 [.s (.int .i64 n),.s (.int .i64 a),.s (.int .i64 b)]  (·=.s (.bool (decide (a≤n)&&decide (n≤b)))):=by
 refine aR Tryz.func107 rfl (Nat.le_of_ble_eq_true rfl) (fun w0 A hf=>(aC (fun K1 hK1=>(aB (aE aA 1 rfl (aD (hK1 _ (aC (fun K2 hK2=>(aB (aE aA 4 rfl (aU rfl rfl rfl (fun hg1=>?_) (fun hg1=>?_)))))))))))))
 ·
  simp only[bs] at hg1
  refine aH rfl (fZ rfl) (aE aA 4 rfl (aD (hK2 _ (aJ ?_))))
  refine⟨_,rfl,?_⟩
  refine aO ?_
  rw[Bool.eq_iff_iff]
  simp only[Bool.and_eq_true,decide_eq_true_eq,true_iff,Bool.false_eq_true,false_iff]
  omega
 ·
  simp only[bs] at hg1
  refine aE aA 4 rfl (aD (hK2 _ (aJ ?_)))
  refine⟨_,rfl,?_⟩
  refine aO ?_
  rw[Bool.eq_iff_iff]
  simp only[Bool.and_eq_true,decide_eq_true_eq,true_iff,Bool.false_eq_true,false_iff]
  omega
theorem uU (x:Us) :Den Tryz.prog 86 [.agg (usC x)]  (·=.s (.string x.1)):=by
 refine aR Tryz.func86 rfl (Nat.le_of_ble_eq_true rfl) (fun w0 A hf=>(aC (fun K1 hK1=>(aB (aI hf rfl (cE rfl rfl (lf rfl)) (aE aA 1 rfl (aD (hK1 _ (aC (fun K2 hK2=>(aB (aE aA 3 rfl (aD (hK2 _ (aJ ?_)))))))))))))))
 refine⟨_,rfl,?_⟩
 rfl
theorem uB (x:Tm) :Den Tryz.prog 91 [.agg (tmC x)]  (·=.s (.string x.1)):=by
 refine aR Tryz.func91 rfl (Nat.le_of_ble_eq_true rfl) (fun w0 A hf=>(aC (fun K1 hK1=>(aB (aI hf rfl (cE rfl rfl (lf rfl)) (aE aA 1 rfl (aD (hK1 _ (aC (fun K2 hK2=>(aB (aE aA 3 rfl (aD (hK2 _ (aJ ?_)))))))))))))))
 refine⟨_,rfl,?_⟩
 rfl
theorem aH3 (e:Se) (s:Sta) :Den Tryz.prog 74 [.agg (seC e),.adr (aT s)]  (·=.s (.bool (decide (s.now<e.2.2)))):=by
 refine aR Tryz.func74 rfl (Nat.le_of_ble_eq_true rfl) (fun w0 A hf=>(aC (fun K1 hK1=>(aB (aI hf rfl (cE rfl rfl (lf rfl)) (aE aA 1 rfl (aD (hK1 _ (aC (fun K2 hK2=>(aB (aE aA 6 rfl (aD (hK2 _ (aJ ?_)))))))))))))))
 refine⟨_,rfl,?_⟩
 rfl
theorem aH4 (e:Se) (x:bI) :Den Tryz.prog 76 [.agg (seC e),.adr (stC x)]  (·=.s (.bool (decide (e.1.1=x.2.1)&&decide (e.2.2<x.1.2)))):=by
 refine aR Tryz.func76 rfl (Nat.le_of_ble_eq_true rfl) (fun w0 A hf=>(aC (fun K1 hK1=>(aB (aI hf rfl (cE rfl rfl (lf rfl)) (aE aA 1 rfl (aD (hK1 _ (aC (fun K2 hK2=>(aB (aE aA 6 rfl (aU rfl rfl rfl (fun hg1=>?_) (fun hg1=>?_))))))))))))))
 ·
  simp only[bs] at hg1
  refine aH rfl (bM rfl pZ cY rfl) ?_
  refine aE aA 7 rfl (aD (hK2 _ (aJ ?_)))
  refine⟨_,rfl,?_⟩
  refine aO ?_
  rw[Bool.eq_iff_iff]
  (simp_all[eO,mG,kT,rJ]; done)
 ·
  simp only[bs] at hg1
  refine aE aA 7 rfl (aD (hK2 _ (aJ ?_)))
  refine⟨_,rfl,?_⟩
  refine aO ?_
  rw[Bool.eq_iff_iff]
  (simp_all[eO,mG,kT,rJ]; done)
theorem aKl (x:bI) (s:Sta) (hs:s.opn.length≤9223372036854775807) :Den Tryz.prog 75 [.agg (stC x),.adr (aT s)]  (·=.s (.bool (!eO s x))):=by
 refine aR Tryz.func75 rfl (Nat.le_of_ble_eq_true rfl) (fun w0 A hf=>(aC (fun K1 hK1=>(aB (aI hf rfl (cE rfl rfl (lf rfl)) (aE aA 1 rfl (aD (hK1 _ (aC (fun K2 hK2=>(aB (aH rfl (eY rfl) (aE aA 1 rfl (aD (hK2 _ ?_)))))))))))))))
 refine aC (fun K3 hK3=>(aB (aE aA 3 rfl (aI hf rfl (aK rfl rfl aHe rfl (yL aSr rfl (fun e=>decide (e.1.1=x.2.1)&&decide (e.2.2<x.1.2)) s.opn hs (fun e _=>aH4 e x))) (aE aA 1 rfl (aU rfl rfl rfl (fun hg1=>?_) (fun hg1=>?_)))))))
 ·
  refine aH rfl (bM rfl pZ cY rfl) ?_
  refine aE aA 5 rfl (aU rfl rfl rfl (fun hg2=>?_) (fun hg2=>?_))
  ·
   simp only[bs] at hg2
   refine aH rfl (bM rfl pZ cY rfl) ?_
   refine aE aA 7 rfl (aU rfl rfl rfl (fun hg3=>?_) (fun hg3=>?_))
   ·
    simp only[bs] at hg3
    refine aH rfl (bM rfl aO6 cA rfl) ?_
    refine aE aA 1 rfl (aX rfl rfl rfl (aI hf rfl (aK rfl rfl pB rfl (lT _ _ _)) (aE aA 3 rfl (aU rfl rfl rfl (fun hg4=>?_) (fun hg4=>?_)))))
    ·
     simp only[bs] at hg4
     refine aH rfl (bM rfl aO5 cA rfl) ?_
     refine aE aA 1 rfl (aX rfl rfl rfl (aI hf rfl (aK rfl rfl pB rfl (lT _ _ _)) (aE aA 3 rfl (aD (hK3 _ (aJ ?_))))))
     refine⟨_,rfl,?_⟩
     refine aO ?_
     unfold eO
     generalize (s.opn.any fun e=>decide (e.1.1=x.2.1)&&decide (e.2.2<x.1.2))=bb at *
     rw[Bool.eq_iff_iff]
     (simp_all; done)
    ·
     simp only[bs] at hg4
     refine aE aA 5 rfl (aD (hK3 _ (aJ ?_)))
     refine⟨_,rfl,?_⟩
     refine aO ?_
     unfold eO
     generalize (s.opn.any fun e=>decide (e.1.1=x.2.1)&&decide (e.2.2<x.1.2))=bb at *
     rw[Bool.eq_iff_iff]
     (simp_all; omega)
   ·
    simp only[bs] at hg3
    refine aE aA 11 rfl (aD (hK3 _ (aJ ?_)))
    refine⟨_,rfl,?_⟩
    refine aO ?_
    unfold eO
    generalize (s.opn.any fun e=>decide (e.1.1=x.2.1)&&decide (e.2.2<x.1.2))=bb at *
    rw[Bool.eq_iff_iff]
    (simp_all; done)
  ·
   simp only[bs] at hg2
   refine aE aA 19 rfl (aD (hK3 _ (aJ ?_)))
   refine⟨_,rfl,?_⟩
   refine aO ?_
   unfold eO
   generalize (s.opn.any fun e=>decide (e.1.1=x.2.1)&&decide (e.2.2<x.1.2))=bb at *
   rw[Bool.eq_iff_iff]
   (simp_all; done)
 ·
  simp only[bs] at hg1
  refine aE aA 25 rfl (aD (hK3 _ (aJ ?_)))
  refine⟨_,rfl,?_⟩
  refine aO ?_
  unfold eO
  generalize (s.opn.any fun e=>decide (e.1.1=x.2.1)&&decide (e.2.2<x.1.2))=bb at *
  rw[Bool.eq_iff_iff]
  (simp_all; done)
theorem aH1 (x:Us) (s:Sta) (hs:s.opn.length≤9223372036854775807) (hx:x.2.length≤9223372036854775807) :Den Tryz.prog 79 [.agg (usC x),.adr [.fn 75 [.adr (aT s)]]]  (·=.s (.bool (!mG s x))):=by
 refine aR Tryz.func79 rfl (Nat.le_of_ble_eq_true rfl) (fun w0 A hf=>(aC (fun K1 hK1=>(aB (aI hf rfl (cE rfl rfl (lf rfl)) (aE aA 1 rfl (aD (hK1 _ (aC (fun K2 hK2=>(aB (aE aA 5 rfl (aU rfl rfl rfl (fun hg1=>?_) (fun hg1=>?_))))))))))))))
 ·
  simp only[bs] at hg1
  refine aH rfl (bM rfl aDe tX rfl) ?_
  refine aE aA 1 rfl (aX rfl rfl rfl (aI hf rfl (aK rfl rfl aSp rfl (aMu x.2 hx)) (aE aA 3 rfl (aU rfl rfl rfl (fun hg2=>?_) (fun hg2=>?_)))))
  ·
   simp only[bs] at hg2
   refine aH rfl (bM rfl aDe tX rfl) ?_
   refine aE aA 2 rfl (aX rfl rfl rfl (aI hf rfl (aK rfl rfl aSo rfl (aHz aSs rfl (fun y=>!eO s y) x.2 hx (fun y _=>aKl y s hs))) (aE aA 2 rfl (aD (hK2 _ (aJ ?_))))))
   refine⟨_,rfl,?_⟩
   refine aO ?_
   unfold mG
   have hna:(x.2.any fun y=>!eO s y)=!x.2.all (eO s):=List.not_all_eq_any_not.symm
   simp only[hna] at *
   generalize x.2.all (eO s)=bb at *
   generalize vN x.2=b2 at *
   rw[Bool.eq_iff_iff]
   (simp_all; done)
  ·
   simp only[bs] at hg2
   refine aE aA 5 rfl (aD (hK2 _ (aJ ?_)))
   refine⟨_,rfl,?_⟩
   refine aO ?_
   unfold mG
   have hna:(x.2.any fun y=>!eO s y)=!x.2.all (eO s):=List.not_all_eq_any_not.symm
   simp only[hna] at *
   generalize x.2.all (eO s)=bb at *
   generalize vN x.2=b2 at *
   rw[Bool.eq_iff_iff]
   (simp_all; done)
 ·
  simp only[bs] at hg1
  refine aE aA 11 rfl (aD (hK2 _ (aJ ?_)))
  refine⟨_,rfl,?_⟩
  refine aO ?_
  unfold mG
  have hna:(x.2.any fun y=>!eO s y)=!x.2.all (eO s):=List.not_all_eq_any_not.symm
  simp only[hna] at *
  generalize x.2.all (eO s)=bb at *
  generalize vN x.2=b2 at *
  rw[Bool.eq_iff_iff]
  (simp_all; done)
theorem aKk (e:En) (s:Sta) :Den Tryz.prog 82 [.agg (enC e),.adr (aT s)]  (·=.s (.bool (!kT s e))):=by
 refine aR Tryz.func82 rfl (Nat.le_of_ble_eq_true rfl) (fun w0 A hf=>(aC (fun K1 hK1=>(aB (aI hf rfl (cE rfl rfl (lf rfl)) (aE aA 1 rfl (aD (hK1 _ (aC (fun K2 hK2=>(aB (aE aA 5 rfl (aI hf rfl (aK rfl rfl pB rfl (lT _ _ _)) (aE aA 2 rfl (aU rfl rfl rfl (fun hg1=>?_) (fun hg1=>?_))))))))))))))))
 ·
  simp only[bs] at hg1
  refine aH rfl (bM rfl uX cY rfl) ?_
  refine aE aA 6 rfl (aU rfl rfl rfl (fun hg2=>?_) (fun hg2=>?_))
  ·
   simp only[bs] at hg2
   refine aH rfl (bM rfl uX cY rfl) ?_
   refine aE aA 6 rfl (aD (hK2 _ (aJ ?_)))
   refine⟨_,rfl,?_⟩
   refine aO ?_
   rw[Bool.eq_iff_iff]
   (simp_all[eO,mG,kT,rJ]; done)
  ·
   simp only[bs] at hg2
   refine aE aA 6 rfl (aD (hK2 _ (aJ ?_)))
   refine⟨_,rfl,?_⟩
   refine aO ?_
   rw[Bool.eq_iff_iff]
   (simp_all[eO,mG,kT,rJ]; done)
 ·
  simp only[bs] at hg1
  refine aE aA 6 rfl (dI rfl rfl rfl ?_)
  refine dI rfl rfl rfl ?_
  refine dI rfl rfl rfl ?_
  refine dI rfl rfl rfl ?_
  refine aE aA 3 rfl (aD (hK2 _ (aJ ?_)))
  refine⟨_,rfl,?_⟩
  refine aO ?_
  rw[Bool.eq_iff_iff]
  (simp_all[eO,mG,kT,rJ]; omega)
theorem aH2 (x:Tm) (s:Sta) :Den Tryz.prog 83 [.agg (tmC x),.adr (aT s)]  (·=.s (.bool (!rJ s x))):=by
 refine aR Tryz.func83 rfl (Nat.le_of_ble_eq_true rfl) (fun w0 A hf=>(aC (fun K1 hK1=>(aB (aI hf rfl (cE rfl rfl (lf rfl)) (aE aA 1 rfl (aD (hK1 _ (aC (fun K2 hK2=>(aB (aE aA 4 rfl (aI hf rfl (aK rfl rfl pB rfl (lT _ _ _)) (aE aA 2 rfl (aD ?_)))))))))))))))
 refine hK2 _ (aJ ?_)
 refine⟨_,rfl,?_⟩
 refine aO ?_
 rw[Bool.eq_iff_iff]
 (simp_all[eO,mG,kT,rJ]; done)
end Go.Proofs.YtpkanhklapfajaaGreat
set_option linter.unusedVariables false
set_option linter.unusedSimpArgs false
namespace Go.Proofs.YtpkanhklapfajaaGreat
open Go Go.Abs
theorem aL8 {g:Nat} {cap:List AV} (hent:∀ args w,(callFunc g args).run Tryz.prog w=.ok (.enter g args) w) (hcl:cleanL (fun _=>false) cap=true) (l:List Us) (u:ByteArray) (hl:l.length≤4611686018427387903) (hr:dL cM l) (hp:∀ x∈l,Den Tryz.prog g (.agg (usC x)::.s (.string u)::cap) (·=.s (.int .i64 (eR x.1 u)))) :Den Tryz.prog 143 [.sl 2 (l.map usC),.s (.string u),.fn g cap]  (·=.tup [.s (.int .i64 (dN cM l u:Nat)),.s (.bool (jF cM l u))]):=by
 refine aR Tryz.func143 rfl (Nat.le_of_ble_eq_true rfl) (fun w0 A hf=>(aC (fun K1 hK1=>(aB (aE aA 2 rfl (aD (hK1 _ (aC (fun K2 hK2=>(aB (aE aA 3 rfl (aD (hK2 _ (aC (fun K3 hK3=>(aB ?_))))))))))))))))
 refine aE aA 3 rfl (aD (hK3 _ (aC (fun K4 hK4=>(aP (bT (ι:=Nat×Nat) (fun(⟨i,j⟩:Nat×Nat)=>⟨49,[(0,.sl 2 (l.map usC)),(1,.s (.string u)),(2,.fn g cap),(8,.s (.int .i64 (((l.map usC)).length:Nat))),(9,.s (.int .i64 (i:Nat))),(10,.s (.int .i64 (j:Nat)))],[]⟩) (fun(⟨i,j⟩:Nat×Nat)=>BsI l cM u i j) (fun(⟨i,j⟩:Nat×Nat)=>j - i) (0,l.length) ?_ ?_ ?_))))))
 · exact BsI.start l u
 · exact kI ⟨rfl,rfl,rfl,rfl,rfl,(by rw[List.length_map]; rfl),trivial⟩
 ·
  rintro ⟨i,j⟩ hC
  have hi1:=hC.1
  have hi2:=hC.2.1
  refine aC (fun K5 hK5=>(aC (fun K6 hK6=>(aB (aE aA 3 rfl (aD (hK6 _ (aL rfl (fun hc1=>?_) (fun hc1=>?_)))))))))
  ·
   simp only[bs] at hc1
   refine aN (hK5 _ (aP (aC (fun K7 hK7=>(aB ?_)))))
   have hz:=aCa (a:=((i:Nat):Int)+((j:Nat):Int)) (b:=(((i+j) / 2:Nat):Int)) (by omega) (by omega) (by omega)
   have hm1:i≤(i+j) / 2:=by omega
   have hm2:(i+j) / 2<j:=by omega
   have hml:(i+j) / 2<l.length:=by omega
   refine aE aA 2 rfl (aH rfl (bO rfl rfl (by omega) (by omega)) (aH rfl (qF rfl Tryz.underlying3 Tryz.underlying228 hz.1) (aH rfl (aBw rfl hz.2.1 (by decide)) (aH rfl (qF rfl Tryz.underlying228 Tryz.underlying3 hz.2.2) (aE aA 1 rfl (aD (hK7 _ (aC (fun K8 hK8=>(aB (aE aA 3 rfl (aH rfl (bG rfl rfl fJ eG (hY (k:=(i+j) / 2) (by omega) (by omega))) (aE aA 2 rfl ?_)))))))))))))
   refine aI hf rfl (aK rfl rfl hent (by show (true&&(true&&cleanL (fun _=>false) cap))=true; rw[hcl]; rfl) (hp _ (List.getElem_mem hml))) ?_
   refine aE aA 1 rfl (aD (hK8 _ (aL rfl (fun hc2=>?_) (fun hc2=>?_))))
   ·
    simp only[bs] at hc2
    refine aB (aE aA 1 rfl ?_)
    refine aH rfl (bO rfl rfl (by omega) (by omega)) ?_
    refine aE aA 1 rfl ?_
    refine bS ?_
    exact⟨((i+j) / 2+1,j),hC.lo hr hm1 hm2 hml (by show eR l[(i+j) / 2].1 u<0; omega),by simp only; omega,kI ⟨rfl,rfl,rfl,rfl,rfl,rfl,trivial⟩⟩
   ·
    simp only[bs] at hc2
    refine aB (aE aA 2 rfl ?_)
    refine bS ?_
    exact⟨(i,(i+j) / 2),hC.hi hr hm1 hm2 hml (by show ¬ eR l[(i+j) / 2].1 u<0; omega),by simp only; omega,kI ⟨rfl,rfl,rfl,rfl,rfl,rfl,trivial⟩⟩
  ·
   simp only[bs] at hc1
   refine bF (hK4 _ (aC (fun K9 hK9=>(aB (aE aA 5 rfl (aU rfl rfl rfl (fun hg3=>?_) (fun hg3=>?_)))))))
   ·
    simp only[bs] at hg3
    refine aH rfl (fZ rfl) (aE aA 2 rfl (aX rfl rfl rfl ?_))
    refine aH rfl (bG rfl rfl fJ eG (by first | exact ixm (by omega) | assumption | exact⟨by decide,rfl⟩)) ?_
    refine aE aA 2 rfl (aX rfl rfl rfl (aI hf rfl (aK rfl rfl hent (by show (true&&(true&&cleanL (fun _=>false) cap))=true; rw[hcl]; rfl) (hp _ (List.getElem_mem (by omega)))) ?_))
    refine aE aA 4 rfl (aD (hK9 _ (aJ ?_)))
    refine⟨_,rfl,?_⟩
    (rw[(hC.fin hr (by omega)).1,hC.fin_t hr (by omega) (show i<l.length by omega)]; rfl)
   ·
    simp only[bs] at hg3
    refine aE aA 10 rfl (aD (hK9 _ (aJ ?_)))
    refine⟨_,rfl,?_⟩
    (rw[(hC.fin hr (by omega)).1,hC.fin_f hr (by omega) (by omega)]; rfl)
theorem aMa (x:Us) (u:ByteArray) :Den Tryz.prog 144 [.agg (usC x),.s (.string u),.adr [.fn 86 []]]  (·=.s (.int .i64 (eR x.1 u))):=by
 refine aR Tryz.func144 rfl (Nat.le_of_ble_eq_true rfl) (fun w0 A hf=>(aC (fun K1 hK1=>(aB (aI hf rfl (cE rfl rfl (lf rfl)) (aE aA 1 rfl (aD (hK1 _ (aC (fun K2 hK2=>(aB (aE aA 2 rfl (aI hf rfl (aK rfl rfl uZ rfl (uU x)) (aE aA 1 rfl (aI hf rfl (aK rfl rfl nK rfl (Nm.cmp_den x.1 u)) ?_)))))))))))))))
 refine aE aA 1 rfl (aD (hK2 _ (aJ ?_)))
 refine⟨_,rfl,?_⟩
 rfl
theorem aE1 (l:List Us) (u:ByteArray) (hl:l.length≤4611686018427387903) (hr:dL cM l) :Den Tryz.prog 96 [.sl 2 (l.map usC),.s (.string u),.fn 86 []]  (·=.tup [.s (.int .i64 (dN cM l u:Nat)),.s (.bool (jF cM l u))]):=by
 refine aR Tryz.func96 rfl (Nat.le_of_ble_eq_true rfl) (fun w0 A hf=>(aC (fun K1 hK1=>(aB (aI hf rfl (cE rfl rfl (lf rfl)) (aE aA 2 rfl (aD (hK1 _ (aC (fun K2 hK2=>(aB (aE aA 2 rfl (aH rfl (eY rfl) (aI hf rfl (aK rfl rfl aP5 rfl (aL8 aP4 rfl l u hl hr (fun x _=>aMa x u))) (aE aA 4 rfl ?_)))))))))))))))
 refine aD (hK2 _ (aJ ?_))
 refine⟨_,rfl,?_⟩
 rfl
theorem aMh {g:Nat} {cap:List AV} (hent:∀ args w,(callFunc g args).run Tryz.prog w=.ok (.enter g args) w) (hcl:cleanL (fun _=>false) cap=true) (l:List Tm) (u:ByteArray) (hl:l.length≤4611686018427387903) (hr:dL dV l) (hp:∀ x∈l,Den Tryz.prog g (.agg (tmC x)::.s (.string u)::cap) (·=.s (.int .i64 (eR x.1 u)))) :Den Tryz.prog 183 [.sl 2 (l.map tmC),.s (.string u),.fn g cap]  (·=.tup [.s (.int .i64 (dN dV l u:Nat)),.s (.bool (jF dV l u))]):=by
 refine aR Tryz.func183 rfl (Nat.le_of_ble_eq_true rfl) (fun w0 A hf=>(aC (fun K1 hK1=>(aB (aE aA 2 rfl (aD (hK1 _ (aC (fun K2 hK2=>(aB (aE aA 3 rfl (aD (hK2 _ (aC (fun K3 hK3=>(aB ?_))))))))))))))))
 refine aE aA 3 rfl (aD (hK3 _ (aC (fun K4 hK4=>(aP (bT (ι:=Nat×Nat) (fun(⟨i,j⟩:Nat×Nat)=>⟨49,[(0,.sl 2 (l.map tmC)),(1,.s (.string u)),(2,.fn g cap),(8,.s (.int .i64 (((l.map tmC)).length:Nat))),(9,.s (.int .i64 (i:Nat))),(10,.s (.int .i64 (j:Nat)))],[]⟩) (fun(⟨i,j⟩:Nat×Nat)=>BsI l dV u i j) (fun(⟨i,j⟩:Nat×Nat)=>j - i) (0,l.length) ?_ ?_ ?_))))))
 · exact BsI.start l u
 · exact kI ⟨rfl,rfl,rfl,rfl,rfl,(by rw[List.length_map]; rfl),trivial⟩
 ·
  rintro ⟨i,j⟩ hC
  have hi1:=hC.1
  have hi2:=hC.2.1
  refine aC (fun K5 hK5=>(aC (fun K6 hK6=>(aB (aE aA 3 rfl (aD (hK6 _ (aL rfl (fun hc1=>?_) (fun hc1=>?_)))))))))
  ·
   simp only[bs] at hc1
   refine aN (hK5 _ (aP (aC (fun K7 hK7=>(aB ?_)))))
   have hz:=aCa (a:=((i:Nat):Int)+((j:Nat):Int)) (b:=(((i+j) / 2:Nat):Int)) (by omega) (by omega) (by omega)
   have hm1:i≤(i+j) / 2:=by omega
   have hm2:(i+j) / 2<j:=by omega
   have hml:(i+j) / 2<l.length:=by omega
   refine aE aA 2 rfl (aH rfl (bO rfl rfl (by omega) (by omega)) (aH rfl (qF rfl Tryz.underlying3 Tryz.underlying228 hz.1) (aH rfl (aBw rfl hz.2.1 (by decide)) (aH rfl (qF rfl Tryz.underlying228 Tryz.underlying3 hz.2.2) (aE aA 1 rfl (aD (hK7 _ (aC (fun K8 hK8=>(aB (aE aA 3 rfl (aH rfl (bG rfl rfl kF gR (hY (k:=(i+j) / 2) (by omega) (by omega))) (aE aA 2 rfl ?_)))))))))))))
   refine aI hf rfl (aK rfl rfl hent (by show (true&&(true&&cleanL (fun _=>false) cap))=true; rw[hcl]; rfl) (hp _ (List.getElem_mem hml))) ?_
   refine aE aA 1 rfl (aD (hK8 _ (aL rfl (fun hc2=>?_) (fun hc2=>?_))))
   ·
    simp only[bs] at hc2
    refine aB (aE aA 1 rfl ?_)
    refine aH rfl (bO rfl rfl (by omega) (by omega)) ?_
    refine aE aA 1 rfl ?_
    refine bS ?_
    exact⟨((i+j) / 2+1,j),hC.lo hr hm1 hm2 hml (by show eR l[(i+j) / 2].1 u<0; omega),by simp only; omega,kI ⟨rfl,rfl,rfl,rfl,rfl,rfl,trivial⟩⟩
   ·
    simp only[bs] at hc2
    refine aB (aE aA 2 rfl ?_)
    refine bS ?_
    exact⟨(i,(i+j) / 2),hC.hi hr hm1 hm2 hml (by show ¬ eR l[(i+j) / 2].1 u<0; omega),by simp only; omega,kI ⟨rfl,rfl,rfl,rfl,rfl,rfl,trivial⟩⟩
  ·
   simp only[bs] at hc1
   refine bF (hK4 _ (aC (fun K9 hK9=>(aB (aE aA 5 rfl (aU rfl rfl rfl (fun hg3=>?_) (fun hg3=>?_)))))))
   ·
    simp only[bs] at hg3
    refine aH rfl (fZ rfl) (aE aA 2 rfl (aX rfl rfl rfl ?_))
    refine aH rfl (bG rfl rfl kF gR (by first | exact ixm (by omega) | assumption | exact⟨by decide,rfl⟩)) ?_
    refine aE aA 2 rfl (aX rfl rfl rfl (aI hf rfl (aK rfl rfl hent (by show (true&&(true&&cleanL (fun _=>false) cap))=true; rw[hcl]; rfl) (hp _ (List.getElem_mem (by omega)))) ?_))
    refine aE aA 4 rfl (aD (hK9 _ (aJ ?_)))
    refine⟨_,rfl,?_⟩
    (rw[(hC.fin hr (by omega)).1,hC.fin_t hr (by omega) (show i<l.length by omega)]; rfl)
   ·
    simp only[bs] at hg3
    refine aE aA 10 rfl (aD (hK9 _ (aJ ?_)))
    refine⟨_,rfl,?_⟩
    (rw[(hC.fin hr (by omega)).1,hC.fin_f hr (by omega) (by omega)]; rfl)
theorem aMj (x:Tm) (u:ByteArray) :Den Tryz.prog 184 [.agg (tmC x),.s (.string u),.adr [.fn 91 []]]  (·=.s (.int .i64 (eR x.1 u))):=by
 refine aR Tryz.func184 rfl (Nat.le_of_ble_eq_true rfl) (fun w0 A hf=>(aC (fun K1 hK1=>(aB (aI hf rfl (cE rfl rfl (lf rfl)) (aE aA 1 rfl (aD (hK1 _ (aC (fun K2 hK2=>(aB (aE aA 2 rfl (aI hf rfl (aK rfl rfl uY rfl (uB x)) (aE aA 1 rfl (aI hf rfl (aK rfl rfl nK rfl (Nm.cmp_den x.1 u)) ?_)))))))))))))))
 refine aE aA 1 rfl (aD (hK2 _ (aJ ?_)))
 refine⟨_,rfl,?_⟩
 rfl
theorem aQx (l:List Tm) (u:ByteArray) (hl:l.length≤4611686018427387903) (hr:dL dV l) :Den Tryz.prog 164 [.sl 2 (l.map tmC),.s (.string u),.fn 91 []]  (·=.tup [.s (.int .i64 (dN dV l u:Nat)),.s (.bool (jF dV l u))]):=by
 refine aR Tryz.func164 rfl (Nat.le_of_ble_eq_true rfl) (fun w0 A hf=>(aC (fun K1 hK1=>(aB (aI hf rfl (cE rfl rfl (lf rfl)) (aE aA 2 rfl (aD (hK1 _ (aC (fun K2 hK2=>(aB (aE aA 2 rfl (aH rfl (eY rfl) (aI hf rfl (aK rfl rfl aPd rfl (aMh aPc rfl l u hl hr (fun x _=>aMj x u))) (aE aA 4 rfl ?_)))))))))))))))
 refine aD (hK2 _ (aJ ?_))
 refine⟨_,rfl,?_⟩
 rfl
end Go.Proofs.YtpkanhklapfajaaGreat
set_option linter.unusedVariables false
set_option linter.unusedSimpArgs false
namespace Go.Proofs.YtpkanhklapfajaaGreat
open Go Go.Abs
theorem aBf (l:List bI) (s:bI) (hl:l.length*32+32≤140737488355328) :Den Tryz.prog 33 [.sl 4 (l.map stC),.agg (stC s)]  (·=.sl 4 ((iL l s).map stC)):=by
 refine aR Tryz.func33 rfl (Nat.le_of_ble_eq_true rfl) (fun w0 A hf=>(aC (fun K1 hK1=>(aB (aI hf rfl (cE rfl rfl (lf rfl)) (aH rfl (bK) (aD (hK1 _ (aC (fun K2 hK2=>(aC (fun K3 hK3=>(aB (aE aA 2 rfl (aI hf rfl (aK rfl rfl jP rfl (mK s.1)) (aD ?_))))))))))))))))
 refine hK3 _ (aL rfl (fun hc1=>?_) (fun hc1=>?_))
 ·
  simp only[bs] at hc1
  refine aC (fun K4 hK4=>(aB (aE aA 1 rfl (aI hf rfl (aK rfl rfl vA rfl (dA (uG _ (by omega)))) (aE aA 1 rfl (aD (hK4 _ (aJ ?_))))))))
  refine⟨_,rfl,?_⟩
  rw[iL,if_pos (by assumption)]; rfl
 ·
  simp only[bs] at hc1
  refine aN (hK2 _ (aC (fun K5 hK5=>(aB (aE aA 3 rfl (aD (hK5 _ (aC (fun K6 hK6=>(aP (bT (ι:=Nat) (fun k=>⟨37,[(0,.sl 4 (l.map stC)),(3,.adr (stC s)),(5,.s (.int .i64 (k:Nat)))],[]⟩) (fun k=>k≤l.length∧∀ (j:Nat) (hj:j<l.length),k≤j→0<jG l[j] s) (fun k=>k) l.length ?_ ?_ ?_)))))))))))
  · exact⟨Nat.le_refl _,by omega⟩
  · exact cJ ⟨rfl,rfl,aQ (by rw[List.length_map]),trivial⟩ rfl
  ·
   rintro k hC
   obtain ⟨h1,h2⟩:=hC
   refine aC (fun K7 hK7=>(aC (fun K8 hK8=>(cP hf bE (by kernel_rfl) rfl (aV aA 3 rfl (fC 15 true rfl (fun hg2=>?_) (fun hg2=>?_)))))))
   ·
    simp only[bs] at hg2
    refine aV aA 2 rfl ?_
    refine bQ [(17,_)] rfl rfl ⟨⟨rfl,rfl⟩,trivial⟩ rfl (eZ rfl rfl (by omega) (by omega)) ?_
    refine bQ [(16,_),(18,_)] rfl rfl ⟨⟨rfl,rfl⟩,⟨rfl,rfl⟩,trivial⟩ rfl (bG rfl rfl cC bC (hY (k:=k - 1) (by omega) (by omega))) (aV aA 2 rfl (bJ [(20,_),(21,_)] rfl rfl ⟨⟨rfl,rfl⟩,⟨rfl,rfl⟩,trivial⟩ rfl (aK rfl rfl rU rfl (wW l[k - 1] s)) (aV aA 2 rfl (cT [0,3,5,24] rfl rfl rfl (hK8 _ (aL rfl (fun hc3=>?_) (fun hc3=>?_)))))))
    ·
     simp only[bs] at hc3
     refine aN (hK7 _ (aP (aB (aE aA 1 rfl ?_))))
     refine aH rfl (eZ rfl rfl (by omega) (by omega)) ?_
     refine aE aA 1 rfl ?_
     refine bS ?_
     exact⟨k - 1,⟨by omega,fun j hj hkj=>by
      by_cases e:j=k - 1
      · subst e; assumption
      · exact h2 j hj (by omega)⟩,by omega,cJ ⟨rfl,rfl,aQ (by omega),trivial⟩ rfl⟩
    ·
     simp only[bs] at hc3
     refine bF (hK6 _ (aC (fun K9 hK9=>(cP hf bE (by kernel_rfl) rfl ?_))))
     have hins:=aKz s l k (by omega) h2 (fun h0 h=>by omega)
     refine aV aA 2 rfl (bQ [(27,_),(28,_)] rfl rfl ⟨⟨rfl,rfl⟩,⟨rfl,rfl⟩,trivial⟩ rfl (fO rfl cC bC rfl (pY rfl (by omega)) (by omega) (by simp only[List.length_map,Int.toNat_natCast] <;> omega) (pO (k:=k) (by omega))) ?_)
     refine aV aA 1 rfl (bJ [(30,_)] rfl rfl ⟨⟨rfl,rfl⟩,trivial⟩ rfl (aS gS rfl rfl rfl rfl (l2 rfl)) (aV aA 2 rfl (bQ [(32,_),(33,_)] rfl rfl ⟨⟨rfl,rfl⟩,⟨rfl,rfl⟩,trivial⟩ rfl (fO rfl cC bC (pY rfl (by omega)) rfl (by simp only[List.length_map,Int.toNat_natCast] <;> omega) (by omega) (lH (k:=k) (by omega))) ?_)))
     refine bJ [(29,_),(31,_),(34,_)] rfl rfl ⟨⟨rfl,rfl⟩,⟨rfl,rfl⟩,⟨rfl,rfl⟩,trivial⟩ rfl (aS aHt rfl rfl rfl rfl (l2 rfl)) (bJ [(35,_)] rfl rfl ⟨⟨rfl,rfl⟩,trivial⟩ rfl (aK rfl rfl aHf rfl ((show Den Tryz.prog _ _ (·=.sl 4 ((l.take k++s::l.drop k).map stC)) from (dA (aCp [l.take k,[s],l.drop k] (by simp) (by simp only[List.flatten_cons,List.flatten_nil,List.length_append,List.length_take,List.length_drop,List.length_cons,List.length_nil]; omega))).mono fun r h=>h.trans (by simp)))) ?_)
     refine aV aA 1 rfl (cT [4] rfl rfl rfl (hK9 _ (aJ ?_)))
     refine⟨_,rfl,?_⟩
     rw[iL,if_neg (by omega),hins]; rfl
   ·
    simp only[bs] at hg2
    refine aV aA 9 rfl (cT [0,3,5,24] rfl rfl rfl (hK8 _ (bW rfl (bF (hK6 _ (aC (fun K10 hK10=>(cP hf bE (by kernel_rfl) rfl ?_))))))))
    have hins:=aKz s l k (by omega) h2 (fun h0 h=>by omega)
    refine aV aA 2 rfl (bQ [(27,_),(28,_)] rfl rfl ⟨⟨rfl,rfl⟩,⟨rfl,rfl⟩,trivial⟩ rfl (fO rfl cC bC rfl (pY rfl (by omega)) (by omega) (by simp only[List.length_map,Int.toNat_natCast] <;> omega) (pO (k:=k) (by omega))) ?_)
    refine aV aA 1 rfl (bJ [(30,_)] rfl rfl ⟨⟨rfl,rfl⟩,trivial⟩ rfl (aS gS rfl rfl rfl rfl (l2 rfl)) (aV aA 2 rfl (bQ [(32,_),(33,_)] rfl rfl ⟨⟨rfl,rfl⟩,⟨rfl,rfl⟩,trivial⟩ rfl (fO rfl cC bC (pY rfl (by omega)) rfl (by simp only[List.length_map,Int.toNat_natCast] <;> omega) (by omega) (lH (k:=k) (by omega))) ?_)))
    refine bJ [(29,_),(31,_),(34,_)] rfl rfl ⟨⟨rfl,rfl⟩,⟨rfl,rfl⟩,⟨rfl,rfl⟩,trivial⟩ rfl (aS aHt rfl rfl rfl rfl (l2 rfl)) (bJ [(35,_)] rfl rfl ⟨⟨rfl,rfl⟩,trivial⟩ rfl (aK rfl rfl aHf rfl ((show Den Tryz.prog _ _ (·=.sl 4 ((l.take k++s::l.drop k).map stC)) from (dA (aCp [l.take k,[s],l.drop k] (by simp) (by simp only[List.flatten_cons,List.flatten_nil,List.length_append,List.length_take,List.length_drop,List.length_cons,List.length_nil]; omega))).mono fun r h=>h.trans (by simp)))) ?_)
    refine aV aA 1 rfl (cT [4] rfl rfl rfl (hK10 _ (aJ ?_)))
    refine⟨_,rfl,?_⟩
    rw[iL,if_neg (by omega),hins]; rfl
theorem aXx (l:List bI) (b:List Sp) (hl:l.length*32+32≤140737488355328) (hb0:b.length≤1000000000) (hlb:l.length*(dC b).length*32≤140737488351232) :Den Tryz.prog 29 [.sl 4 (l.map stC),.sl 2 (b.map spC)]  (·=.sl 4 ((sA l b).map stC)):=by
 have hnb:=aAp b
 refine aR Tryz.func29 rfl (Nat.le_of_ble_eq_true rfl) (fun w0 A hf=>(aC (fun K1 hK1=>(aB (aH rfl (bK) (aD (hK1 _ (aC (fun K2 hK2=>(aB (mC hf 4 rfl rfl rfl (aD (hK2 _ (aC (fun K3 hK3=>(aB ?_))))))))))))))))
 refine aE aA 1 rfl (aI hf rfl (aK rfl rfl vC rfl (aAq b (by omega))) (aE aA 1 rfl (aD (hK3 _ (aC (fun K4 hK4=>(aC (fun K5 hK5=>(aB (aE aA 3 rfl (aD (hK5 _ (aP (bT (ι:=Nat×List bI) (fun(⟨k,out⟩:Nat×List bI)=>⟨46,[(1,.sl 2 ((dC b).map spC)),(5,.own 5 4 0 out.length),(13,.sl 4 (l.map stC)),(14,.s (.int .i64 ((l.map stC).length:Nat))),(15,.s (.int .i64 (k:Nat)))],[(5,.buf 4 (out.map stC))]⟩) (fun(⟨k,out⟩:Nat×List bI)=>k≤l.length∧out=fF (l.take k) (dC b)∧out.length≤k*(dC b).length) (fun(⟨k,out⟩:Nat×List bI)=>l.length - k) (0,[]) ?_ ?_ ?_))))))))))))))
 · exact⟨Nat.zero_le _,rfl,Nat.zero_le _⟩
 · exact cQ rfl
 ·
  rintro ⟨k,out⟩ hC
  obtain ⟨h1,h2,h3⟩:=hC
  refine aC (fun K6 hK6=>(aB (aE aA 1 rfl (aD (hK6 _ (aC (fun K7 hK7=>(aL rfl (fun hc1=>?_) (fun hc1=>?_)))))))))
  ·
   simp only[bs] at hc1
   refine aN (hK7 _ (aC (fun K8 hK8=>(aP (aC (fun K9 hK9=>(aB ?_)))))))
   refine aH rfl (bG rfl rfl cC bC (by first | exact ixm (by omega) | assumption | exact⟨by decide,rfl⟩)) ?_
   refine aE aA 1 rfl (bY hf rfl eE rfl bC rfl rfl rfl rfl (lf rfl) (aD (hK9 _ (aC (fun K10 hK10=>(aB (aE aA 3 rfl (aD (hK10 _ (aP (bT (ι:=Nat×List bI) (fun(⟨j,o⟩:Nat×List bI)=>⟨46,[(1,.sl 2 ((dC b).map spC)),(5,.own 5 4 0 o.length),(7,.adr (stC l[k])),(13,.sl 4 (l.map stC)),(14,.s (.int .i64 ((l.map stC).length:Nat))),(15,.s (.int .i64 (k:Nat))),(19,.sl 2 ((dC b).map spC)),(20,.s (.int .i64 (((dC b).map spC).length:Nat))),(21,.s (.int .i64 (j:Nat)))],[(5,.buf 4 (o.map stC))]⟩) (fun(⟨j,o⟩:Nat×List bI)=>j≤(dC b).length∧o=out++((dC b).take j).flatMap (kU l[k])∧o.length≤k*(dC b).length+j) (fun(⟨j,o⟩:Nat×List bI)=>(dC b).length - j) (0,out) ?_ ?_ ?_)))))))))))
   · exact⟨Nat.zero_le _,by simp,by omega⟩
   · exact cQ rfl
   ·
    rintro ⟨j,o⟩ hC
    obtain ⟨h4,h5,h6⟩:=hC
    refine aC (fun K11 hK11=>(aB (aE aA 1 rfl (aD (hK11 _ (aC (fun K12 hK12=>(aL rfl (fun hc2=>?_) (fun hc2=>?_)))))))))
    ·
     simp only[bs] at hc2
     refine aN (hK12 _ (aC (fun K13 hK13=>(aP (aC (fun K14 hK14=>(aB ?_)))))))
     have hm:=Nat.mul_le_mul_right (dC b).length (show k+1≤l.length by omega)
     rw[Nat.add_mul,Nat.one_mul] at hm
     have hj:j<(dC b).length:=by omega
     refine aH rfl (bG rfl rfl jI cY (by first | exact ixm (by omega) | assumption | exact⟨by decide,rfl⟩)) ?_
     refine aE aA 1 rfl (bY hf rfl fI rfl cY rfl rfl rfl rfl (lf rfl) (aD (hK14 _ (aC (fun K15 hK15=>(aB (aE aA 3 rfl (aI hf rfl (aK rfl rfl vB rfl (xZ l[k].1 (dC b)[j])) (bY hf rfl fI rfl cY rfl rfl rfl rfl (lf rfl) (aD (hK15 _ (aC (fun K16 hK16=>(aB ?_))))))))))))))
     refine aE aA 1 rfl (aI hf rfl (aK rfl rfl jP rfl (mK (eD l[k].1 (dC b)[j]))) (aE aA 1 rfl (aD (hK16 _ (aL rfl (fun hc3=>?_) (fun hc3=>?_))))))
     ·
      simp only[bs] at hc3
      refine aB (aE aA 6 rfl (aH rfl (bR rfl eE qZ (l3 rfl) rfl) (aI hf rfl (aS gS rfl rfl rfl rfl (l2 rfl)) (bH hf rfl gS rfl rfl rfl (.inl rfl) (by rw[List.length_map]) rfl (by first | rfl | simp [eK,bL]) (by first | (simp only[maxLen,List.length_map,List.length_append,List.length_cons,List.length_nil]; omega) | (simp [maxLen] <;> omega)) (by first | (simp only[List.length_map,List.length_append,List.length_cons,List.length_nil]; omega) | (simp <;> omega)) ?_))))
      refine bD (cX [1,7,13,14,15,19,20,21,40] rfl) (aE aA 1 rfl ?_)
      refine bS ?_
      refine hK13 _ (aB ?_)
      refine aH rfl (bO rfl rfl (by omega) (by omega)) ?_
      refine aE aA 1 rfl (aD ?_)
      exact⟨(j+1,o++[(eD l[k].1 (dC b)[j],l[k].2)]),⟨by omega,by rw[h5,kM _ _ j (by omega),aAt (by omega),List.append_assoc],by rw[List.length_append]; simp only[List.length_cons,List.length_nil]; omega⟩,by simp only; omega,cJ ⟨rfl,(by rw[List.length_append]; rfl),rfl,rfl,rfl,rfl,rfl,rfl,rfl,trivial⟩ (by rw[List.map_append]; rfl)⟩
     ·
      simp only[bs] at hc3
      refine aN (hK13 _ (aB ?_))
      refine aH rfl (bO rfl rfl (by omega) (by omega)) ?_
      refine aE aA 1 rfl (aD ?_)
      exact⟨(j+1,o),⟨by omega,by rw[h5,kM _ _ j (by omega),sK (by omega),List.append_nil],by omega⟩,by simp only; omega,cJ ⟨rfl,rfl,rfl,rfl,rfl,rfl,rfl,rfl,rfl,trivial⟩ rfl⟩
    ·
     simp only[bs] at hc2
     refine bF (hK8 _ (aB ?_))
     refine aH rfl (bO rfl rfl (by omega) (by omega)) ?_
     refine aE aA 1 rfl (aD ?_)
     exact⟨(k+1,o),⟨by omega,by rw[h5,aOe (by omega),h2,List.take_of_length_le (show (dC b).length≤j by omega)],by rw[Nat.add_mul,Nat.one_mul]; omega⟩,by simp only; omega,cJ ⟨rfl,rfl,rfl,rfl,rfl,trivial⟩ rfl⟩
  ·
   simp only[bs] at hc1
   refine bF (hK4 _ (aC (fun K17 hK17=>(aB ?_))))
   have hk:k=l.length:=by omega
   have hm:=Nat.mul_le_mul_right (dC b).length (show k≤l.length by omega)
   refine aE aA 1 rfl (gE hf 5 rfl rfl rfl rfl rfl zV (nR rU cmpS_tri (fun x y=>wW x y) out _ rfl (by omega)) ?_)
   rintro r zs ⟨t,ht1,ht2,rfl⟩
   refine aD (hK17 _ (aC (fun K18 hK18=>(aB (aE aA 2 rfl (aD (hK18 _ (aJ ?_))))))))
   refine⟨_,rfl,?_⟩
   refine(cI (g:=5) rfl (by rw[List.length_map,ht1.length_eq])).trans ?_
   rw[vW ht1 ht2,h2,List.take_of_length_le (by omega)]; rfl
end Go.Proofs.YtpkanhklapfajaaGreat
set_option linter.unusedVariables false
set_option linter.unusedSimpArgs false
namespace Go.Proofs.YtpkanhklapfajaaGreat
open Go Go.Abs
theorem aCn (l:List Se) (u:ByteArray) (t:Int) (hl:l.length*40+40≤140737488355328) :Den Tryz.prog 97 [.sl 4 (l.map seC),.s (.string u),.s (.int .i64 t)]  (·=.sl 4 ((gW l u t).map stC)):=by
 refine aR Tryz.func97 rfl (Nat.le_of_ble_eq_true rfl) (fun w0 A hf=>(aC (fun K1 hK1=>(aB (aH rfl (bK) (aD (hK1 _ (aC (fun K2 hK2=>(aB (mC hf 4 rfl rfl rfl (aD (hK2 _ (aC (fun K3 hK3=>(aC (fun K4 hK4=>?_)))))))))))))))))
 refine aB (aE aA 3 rfl (aD (hK4 _ (aP (bT (ι:=Nat×List bI) (fun(⟨k,out⟩:Nat×List bI)=>⟨38,[(1,.s (.string u)),(2,.s (.int .i64 t)),(7,.own 7 4 0 out.length),(11,.sl 4 (l.map seC)),(12,.s (.int .i64 ((l.map seC).length:Nat))),(13,.s (.int .i64 (k:Nat)))],[(7,.buf 4 (out.map stC))]⟩) (fun(⟨k,out⟩:Nat×List bI)=>k≤l.length∧out=eT (l.take k) u t∧out.length≤k) (fun(⟨k,out⟩:Nat×List bI)=>l.length - k) (0,[]) ?_ ?_ ?_)))))
 · exact⟨Nat.zero_le _,rfl,Nat.le_refl _⟩
 · exact cQ rfl
 ·
  rintro ⟨k,out⟩ hC
  obtain ⟨h1,h2,h3⟩:=hC
  refine aC (fun K5 hK5=>(aB (aE aA 1 rfl (aD (hK5 _ (aC (fun K6 hK6=>(aL rfl (fun hc1=>?_) (fun hc1=>?_)))))))))
  ·
   simp only[bs,fY] at hc1
   refine aN (hK6 _ (aC (fun K7 hK7=>(aP (aC (fun K8 hK8=>(aB ?_)))))))
   refine aH rfl (bG rfl rfl fD dJ (by first | exact ixm (by omega) | assumption | exact⟨by decide,rfl⟩)) ?_
   refine aE aA 1 rfl (bY hf rfl qY rfl dJ rfl rfl rfl rfl (lf rfl) (aD (hK8 _ (aC (fun K9 hK9=>(aB (aE aA 2 rfl (aI hf rfl (aK rfl rfl xG rfl (yX l[k] t)) (bY hf rfl eE rfl bC rfl rfl rfl rfl (lf rfl) (aD (hK9 _ (aC (fun K10 hK10=>(aB ?_))))))))))))))
   refine aE aA 5 rfl (aU rfl rfl rfl (fun hg2=>?_) (fun hg2=>?_))
   ·
    simp only[bs,fY] at hg2
    refine aH rfl (bM rfl pZ cY rfl) ?_
    refine aE aA 1 rfl (aX rfl rfl rfl (aI hf rfl (aK rfl rfl jP rfl (mK (fY l[k] t).1)) (aE aA 2 rfl (aD (hK10 _ (aL rfl (fun hc3=>?_) (fun hc3=>?_)))))))
    ·
     simp only[bs,fY] at hc3
     refine aB (aE aA 2 rfl (aI hf rfl (aS gS rfl rfl rfl rfl (l2 rfl)) (bH hf rfl gS rfl rfl rfl (.inl rfl) (by rw[List.length_map]) rfl (by first | rfl | simp [eK,bL]) (by first | (simp only[maxLen,List.length_map,List.length_append,List.length_cons,List.length_nil]; omega) | (simp [maxLen] <;> omega)) (by first | (simp only[List.length_map,List.length_append,List.length_cons,List.length_nil]; omega) | (simp <;> omega)) ?_)))
     refine bD (cX [1,2,11,12,13,33] rfl) (aE aA 1 rfl ?_)
     refine bS ?_
     refine hK7 _ (aB ?_)
     refine aH rfl (bO rfl rfl (by omega) (by omega)) ?_
     refine aE aA 1 rfl (aD ?_)
     exact⟨(k+1,out++[fY l[k] t]),⟨by omega,by rw[h2,eT,eT,kM _ _ k (by omega),if_pos ⟨(show qQ u l[k]=true from by simp_all[qQ,toList_inj]),by first | omega | exact of_decide_eq_false hc3⟩],by rw[List.length_append]; simp only[List.length_cons,List.length_nil]; omega⟩,by simp only; omega,cJ ⟨rfl,rfl,(by first | rfl | (rw[List.length_append]; rfl)),rfl,rfl,rfl,trivial⟩ (by rw[List.map_append]; rfl)⟩
    ·
     simp only[bs,fY] at hc3
     refine aN (hK7 _ (aB ?_))
     refine aH rfl (bO rfl rfl (by omega) (by omega)) ?_
     refine aE aA 1 rfl (aD ?_)
     exact⟨(k+1,out),⟨by omega,by rw[h2,eT,eT,kM _ _ k (by omega),if_neg (by first | exact(fun hh=>(show ¬ qQ u l[k]=true from by simp_all[qQ,toList_inj]) hh.1) | (rintro ⟨_,hh⟩; exact hh (by first | omega | exact of_decide_eq_true hc3))),List.append_nil],by omega⟩,by simp only; omega,cJ ⟨rfl,rfl,(by first | rfl | (rw[List.length_append]; rfl)),rfl,rfl,rfl,trivial⟩ rfl⟩
   ·
    simp only[bs,fY] at hg2
    refine aE aA 4 rfl (aD (hK10 _ (bW rfl (aN (hK7 _ (aB ?_))))))
    refine aH rfl (bO rfl rfl (by omega) (by omega)) ?_
    refine aE aA 1 rfl (aD ?_)
    exact⟨(k+1,out),⟨by omega,by rw[h2,eT,eT,kM _ _ k (by omega),if_neg (by first | exact(fun hh=>(show ¬ qQ u l[k]=true from by simp_all[qQ,toList_inj]) hh.1) | (rintro ⟨_,hh⟩; exact hh (by first | omega | exact of_decide_eq_true hc3))),List.append_nil],by omega⟩,by simp only; omega,cJ ⟨rfl,rfl,(by first | rfl | (rw[List.length_append]; rfl)),rfl,rfl,rfl,trivial⟩ rfl⟩
  ·
   simp only[bs,fY] at hc1
   refine bF (hK3 _ (aC (fun K11 hK11=>(aB (aE aA 1 rfl (gE hf 7 rfl rfl rfl rfl rfl zV (nR rU cmpS_tri (fun x y=>wW x y) out _ rfl (by omega)) ?_))))))
   rintro r zs ⟨t0,ht1,ht2,rfl⟩
   refine aD (hK11 _ (aC (fun K12 hK12=>(aB (aE aA 2 rfl (aD (hK12 _ (aJ ?_))))))))
   refine⟨_,rfl,?_⟩
   refine(cI (g:=7) rfl (by rw[List.length_map,ht1.length_eq])).trans ?_
   rw[gW,vW ht1 ht2,h2,List.take_of_length_le (by omega)]
end Go.Proofs.YtpkanhklapfajaaGreat
set_option linter.unusedVariables false
set_option linter.unusedSimpArgs false
namespace Go.Proofs.YtpkanhklapfajaaGreat
open Go Go.Abs
theorem fQ (l:List Se) (hl:l.length*40+40≤140737488355328) :Den Tryz.prog 45 [.sl 4 (l.map seC)]  (·=.sl 4 (l.map seC)):=by
 refine aR Tryz.func45 rfl (Nat.le_of_ble_eq_true rfl) (fun w0 A hf=>(aC (fun K1 hK1=>(aB (aH rfl (bK) (aD (hK1 _ (aC (fun K2 hK2=>(aB (mC hf 4 rfl rfl rfl (aD (hK2 _ (aC (fun K3 hK3=>(aC (fun K4 hK4=>?_)))))))))))))))))
 refine aB (aE aA 3 rfl (aD (hK4 _ (aP (bT (ι:=Nat) (fun k=>⟨18,[(3,.own 3 4 0 (l.take k).length),(6,.sl 4 (l.map seC)),(7,.s (.int .i64 ((l.map seC).length:Nat))),(8,.s (.int .i64 (k:Nat)))],[(3,.buf 4 ((l.take k).map seC))]⟩) (fun k=>k≤l.length) (fun k=>l.length - k) 0 ?_ ?_ ?_)))))
 · exact Nat.zero_le _
 · exact cQ rfl
 ·
  rintro k hC
  refine aC (fun K5 hK5=>(aB (aE aA 1 rfl (aD (hK5 _ (aC (fun K6 hK6=>(aL rfl (fun hc1=>?_) (fun hc1=>?_)))))))))
  ·
   simp only[bs] at hc1
   refine aN (hK6 _ (aC (fun K7 hK7=>(aP (aC (fun K8 hK8=>(aB ?_)))))))
   refine aH rfl (bG rfl rfl tU qC (by first | exact ixm (by omega) | assumption | exact⟨by decide,rfl⟩)) ?_
   refine aE aA 1 rfl (bY hf rfl aOy rfl qC rfl rfl rfl rfl (lf rfl) (aD (hK8 _ (aB ?_))))
   have htl:(l.take k).length=k:=by rw[List.length_take]; omega
   refine aE aA 2 rfl (aI hf rfl (aS mB rfl rfl rfl rfl (l2 rfl)) (bH hf rfl mB rfl rfl rfl (.inl rfl) (by rw[List.length_map]) rfl (by first | rfl | simp [eK,bL]) (by first | (simp only[maxLen,List.length_map,List.length_append,List.length_cons,List.length_nil]; omega) | (simp [maxLen] <;> omega)) (by first | (simp only[List.length_map,List.length_append,List.length_cons,List.length_nil]; omega) | (simp <;> omega)) ?_))
   refine bD (cX [6,7,8,15] rfl) (aE aA 1 rfl ?_)
   refine bS ?_
   refine hK7 _ (aB ?_)
   refine aH rfl (bO rfl rfl (by omega) (by omega)) ?_
   refine aE aA 1 rfl (aD ?_)
   exact⟨k+1,by omega,by omega,cJ ⟨(by rw[tC l k (by omega)]; rfl),rfl,rfl,rfl,trivial⟩ (by rw[rD l seC k (by omega)]; rfl)⟩
  ·
   simp only[bs] at hc1
   refine bF (hK3 _ (aC (fun K9 hK9=>(aB (aE aA 2 rfl (aD (hK9 _ (aJ ?_))))))))
   refine⟨_,rfl,?_⟩
   refine(cI (g:=3) rfl (by rw[List.length_map])).trans ?_
   rw[List.take_of_length_le (by omega)]
theorem aHv (l:List Se) (u:ByteArray) (hl:l.length*40+40≤140737488355328) :Den Tryz.prog 158 [.sl 4 (l.map seC),.s (.string u)]  (·=.sl 4 ((l.filter (fun e=>!qQ u e)).map seC)):=by
 refine aR Tryz.func158 rfl (Nat.le_of_ble_eq_true rfl) (fun w0 A hf=>(aC (fun K1 hK1=>(aB (aI hf rfl (cE rfl rfl (lf rfl)) (aH rfl (bK) (aD (hK1 _ (aC (fun K2 hK2=>(aB (aE aA 1 rfl (iN hf rfl rfl rfl rfl rfl iR rfl (jJ l (by omega)) ?_)))))))))))))
 rintro _ rfl
 refine aH rfl (eY rfl) (gE hf 6 rfl rfl rfl rfl rfl aPh (aD4 aPg rfl (fun _=>rfl) (fun e=>qQ u e) l _ (by rw[List.length_map]) (by omega) (fun x _=>aD6 x u)) ?_)
 rintro r zs ⟨rfl,rfl⟩
 refine aE aA 1 rfl (aD (hK2 _ (aJ ?_)))
 refine⟨_,rfl,?_⟩
 exact cI (g:=6) rfl (by rw[List.length_map])
end Go.Proofs.YtpkanhklapfajaaGreat
set_option linter.unusedVariables false
set_option linter.unusedSimpArgs false
namespace Go.Proofs.YtpkanhklapfajaaGreat
open Go Go.Abs
theorem aVb (l:List En) (p:Pr) (t:Int) (hl:l.length*48+48≤140737488355328) :Den Tryz.prog 113 [.sl 4 (l.map enC),.agg (prC p),.s (.int .i64 t)]  (·=.tup [.sl 4 ((if onB l p then [] else lC l p t).map enC),.s (.int .i64 (if onB l p then 90 else 0))]):=by
 refine aR Tryz.func113 rfl (Nat.le_of_ble_eq_true rfl) (fun w0 A hf=>(aC (fun K1 hK1=>(aB (aI hf rfl (cE rfl rfl (lf rfl)) (aH rfl (bK) (aE aA 1 rfl (aD (hK1 _ (aC (fun K2 hK2=>(aC (fun K3 hK3=>(aB (aE aA 2 rfl (aI hf rfl (aK rfl rfl aPz rfl (aNy _ _ (by omega))) ?_))))))))))))))))
 refine aD (hK3 _ (aL rfl (fun hc1=>?_) (fun hc1=>?_)))
 ·
  refine aC (fun K4 hK4=>(aB (aH rfl (yN (k:=4)) (aE aA 1 rfl (aD (hK4 _ (aJ ?_)))))))
  refine⟨_,rfl,?_⟩
  rw[show onB l p=true by assumption]; rfl
 ·
  refine aN (hK2 _ (aC (fun K5 hK5=>(aB (aE aA 2 rfl (aH rfl (bR rfl fI jB (l3 rfl) rfl) (aH rfl (bR rfl lZ aG9 (l3 rfl) rfl) (bY hf rfl lZ rfl dQ rfl rfl rfl rfl (lf rfl) (aD (hK5 _ (aC (fun K6 hK6=>(aB (aE aA 1 rfl ?_))))))))))))))
  refine aH rfl (eY rfl) (aI hf rfl (aK rfl rfl sS rfl (oC aPy rfl (fun x=>decide (0<nW x (p,(t,1099511627776)))) l (by omega) (fun x _=>aRn x (p,(t,1099511627776))))) (aE aA 1 rfl (aD (hK6 _ (aC (fun K7 hK7=>(aC (fun K8 hK8=>(aB (aE aA 2 rfl (aD (hK8 _ (aL rfl (fun hc2=>?_) (fun hc2=>?_))))))))))))))
  ·
   simp only[bs] at hc2
   obtain ⟨k,hk⟩:∃ k:Nat,k=l.length:=⟨_,rfl⟩
   have hno:∀ x∈l,¬ 0<nW x (p,(t,1099511627776)):=by
     rcases eP (fun x=>decide (0<nW x (p,(t,1099511627776)))) l with ⟨_,h⟩ | ⟨k',_,e,_⟩
     · intro x hx; simpa using h x hx
     · exfalso; omega
   have hins:=aK1 (p,(t,1099511627776)) l k (by omega) (fun j hj _=>hno _ (List.getElem_mem hj)) (fun h=>by omega)
   refine aB (aE aA 2 rfl ?_)
   rw[List.length_map,← hk]
   refine aE aA 1 rfl (aD (hK7 _ (aC (fun K9 hK9=>(cP hf bE (by kernel_rfl) rfl (aV aA 2 rfl (bQ [(24,_),(25,_)] rfl rfl ⟨⟨rfl,rfl⟩,⟨rfl,rfl⟩,trivial⟩ rfl (fO rfl fX dQ rfl (pY rfl (by omega)) (by omega) (by simp only[List.length_map,Int.toNat_natCast] <;> omega) (pO (k:=k) (by omega))) ?_)))))))
   refine aV aA 1 rfl (bJ [(27,_)] rfl rfl ⟨⟨rfl,rfl⟩,trivial⟩ rfl (aS lA rfl rfl rfl rfl (l2 rfl)) (aV aA 2 rfl (bQ [(29,_),(30,_)] rfl rfl ⟨⟨rfl,rfl⟩,⟨rfl,rfl⟩,trivial⟩ rfl (fO rfl fX dQ (pY rfl (by omega)) rfl (by simp only[List.length_map,Int.toNat_natCast] <;> omega) (by omega) (lH (k:=k) (by omega))) ?_)))
   refine bJ [(26,_),(28,_),(31,_)] rfl rfl ⟨⟨rfl,rfl⟩,⟨rfl,rfl⟩,⟨rfl,rfl⟩,trivial⟩ rfl (aS aHs rfl rfl rfl rfl (l2 rfl)) (bJ [(32,_)] rfl rfl ⟨⟨rfl,rfl⟩,trivial⟩ rfl (aK rfl rfl aDu rfl ((show Den Tryz.prog _ _ (·=.sl 4 ((l.take k++(p,(t,1099511627776))::l.drop k).map enC)) from (dA (aC6 [l.take k,[(p,(t,1099511627776))],l.drop k] (by simp) (by simp only[List.flatten_cons,List.flatten_nil,List.length_append,List.length_take,List.length_drop,List.length_cons,List.length_nil]; omega))).mono fun r h=>h.trans (by simp)))) ?_)
   refine aV aA 2 rfl (cT [6,7] rfl rfl rfl (hK9 _ (aJ ?_)))
   refine⟨_,rfl,?_⟩
   rw[show onB l p=false from by first | assumption | (simp at *; assumption),← hins]; rfl
  ·
   simp only[bs] at hc2
   obtain ⟨k,hk,ek,hk1,hk2⟩:∃ k:Nat,∃ h:k<l.length,qH (fun x=>decide (0<nW x (p,(t,1099511627776)))) l=(k:Nat)∧0<nW l[k] (p,(t,1099511627776))∧∀ (j:Nat) (hj:j<l.length),j<k→¬ 0<nW l[j] (p,(t,1099511627776)):=by
     rcases eP (fun x=>decide (0<nW x (p,(t,1099511627776)))) l with ⟨e,_⟩ | ⟨k',h1,e,h2,h3⟩
     · exfalso; omega
     · exact⟨k',h1,e,by simpa using h2,fun j hj hjk=>by simpa using h3 j hj hjk⟩
   rw[ek]
   have hins:=aK1 (p,(t,1099511627776)) l k (by omega) hk2 (fun _=>hk1)
   refine aN (hK7 _ (aC (fun K10 hK10=>(cP hf bE (by kernel_rfl) rfl (aV aA 2 rfl (bQ [(24,_),(25,_)] rfl rfl ⟨⟨rfl,rfl⟩,⟨rfl,rfl⟩,trivial⟩ rfl (fO rfl fX dQ rfl (pY rfl (by omega)) (by omega) (by simp only[List.length_map,Int.toNat_natCast] <;> omega) (pO (k:=k) (by omega))) ?_))))))
   refine aV aA 1 rfl (bJ [(27,_)] rfl rfl ⟨⟨rfl,rfl⟩,trivial⟩ rfl (aS lA rfl rfl rfl rfl (l2 rfl)) (aV aA 2 rfl (bQ [(29,_),(30,_)] rfl rfl ⟨⟨rfl,rfl⟩,⟨rfl,rfl⟩,trivial⟩ rfl (fO rfl fX dQ (pY rfl (by omega)) rfl (by simp only[List.length_map,Int.toNat_natCast] <;> omega) (by omega) (lH (k:=k) (by omega))) ?_)))
   refine bJ [(26,_),(28,_),(31,_)] rfl rfl ⟨⟨rfl,rfl⟩,⟨rfl,rfl⟩,⟨rfl,rfl⟩,trivial⟩ rfl (aS aHs rfl rfl rfl rfl (l2 rfl)) (bJ [(32,_)] rfl rfl ⟨⟨rfl,rfl⟩,trivial⟩ rfl (aK rfl rfl aDu rfl ((show Den Tryz.prog _ _ (·=.sl 4 ((l.take k++(p,(t,1099511627776))::l.drop k).map enC)) from (dA (aC6 [l.take k,[(p,(t,1099511627776))],l.drop k] (by simp) (by simp only[List.flatten_cons,List.flatten_nil,List.length_append,List.length_take,List.length_drop,List.length_cons,List.length_nil]; omega))).mono fun r h=>h.trans (by simp)))) ?_)
   refine aV aA 2 rfl (cT [6,7] rfl rfl rfl (hK10 _ (aJ ?_)))
   refine⟨_,rfl,?_⟩
   rw[show onB l p=false from by first | assumption | (simp at *; assumption),← hins]; rfl
end Go.Proofs.YtpkanhklapfajaaGreat
set_option linter.unusedVariables false
set_option linter.unusedSimpArgs false
namespace Go.Proofs.YtpkanhklapfajaaGreat
open Go Go.Abs
theorem of_den (e:En) (p:Pr) :Den Tryz.prog 104 [.agg (enC e),.agg (prC p)]  (·=.s (.bool (ofB p e))):=by
 refine aR Tryz.func104 rfl (Nat.le_of_ble_eq_true rfl) (fun w0 A hf=>(aC (fun K1 hK1=>(aB (aI hf rfl (cE rfl rfl (lf rfl)) (aI hf rfl (cE rfl rfl (lf rfl)) (aE aA 1 rfl (aD (hK1 _ (aC (fun K2 hK2=>(aB (aE aA 6 rfl (aU rfl rfl rfl (fun hg1=>?_) (fun hg1=>?_)))))))))))))))
 ·
  simp only[bs] at hg1
  refine aH rfl (bM rfl aBh cU rfl) ?_
  refine aE aA 6 rfl (aD (hK2 _ (aJ ?_)))
  refine⟨_,rfl,?_⟩
  refine aO ?_
  unfold ofB
  rw[Bool.eq_iff_iff]
  simp_all[Prod.ext_iff,toList_inj]
 ·
  simp only[bs] at hg1
  refine aE aA 6 rfl (aD (hK2 _ (aJ ?_)))
  refine⟨_,rfl,?_⟩
  refine aO ?_
  unfold ofB
  rw[Bool.eq_iff_iff]
  simp_all[Prod.ext_iff,toList_inj]
theorem aR4 (a b:En) (h1:TS a.1.1) (h2:TS a.1.2) (h3:TS b.1.1) (h4:TS b.1.2) :Den Tryz.prog 93 [.agg (enC a),.agg (enC b)]  (·=.s (.bool (decide (nW a b<0)))):=by
 refine aR Tryz.func93 rfl (Nat.le_of_ble_eq_true rfl) (fun w0 A hf=>(aC (fun K1 hK1=>(aB (aI hf rfl (cE rfl rfl (lf rfl)) (aI hf rfl (cE rfl rfl (lf rfl)) (aE aA 1 rfl (aD (hK1 _ (aC (fun K2 hK2=>(aB (aE aA 4 rfl (aI hf rfl (aK rfl rfl vD rfl (Nm.refCmp_den _ _ (by first | assumption | exact(ht _ (List.getElem_mem _)).1 | exact(ht _ (List.getElem_mem _)).2) (by first | assumption | exact(ht _ (List.getElem_mem _)).1 | exact(ht _ (List.getElem_mem _)).2))) ?_))))))))))))))
 refine aE aA 1 rfl (aD (hK2 _ (aC (fun K3 hK3=>(aC (fun K4 hK4=>(aB (aE aA 2 rfl (aD (hK4 _ (aL rfl (fun hc1=>?_) (fun hc1=>?_))))))))))))
 ·
  simp only[bs] at hc1
  refine aC (fun K5 hK5=>(aB (aE aA 3 rfl (aD (hK5 _ (aJ ?_))))))
  refine⟨_,rfl,?_⟩
  refine aO ?_
  unfold nW tL xW
  simp only[orI,kH]
  rw[Bool.eq_iff_iff]
  (repeat' split) <;> simp_all <;> omega
 ·
  simp only[bs] at hc1
  refine aN (hK3 _ (aC (fun K6 hK6=>(aB (aE aA 4 rfl (aI hf rfl (aK rfl rfl vD rfl (Nm.refCmp_den _ _ (by first | assumption | exact(ht _ (List.getElem_mem _)).1 | exact(ht _ (List.getElem_mem _)).2) (by first | assumption | exact(ht _ (List.getElem_mem _)).1 | exact(ht _ (List.getElem_mem _)).2))) ?_))))))
  refine aE aA 1 rfl (aD (hK6 _ (aC (fun K7 hK7=>(aC (fun K8 hK8=>(aB (aE aA 2 rfl (aD (hK8 _ (aL rfl (fun hc2=>?_) (fun hc2=>?_))))))))))))
  ·
   simp only[bs] at hc2
   refine aC (fun K9 hK9=>(aB (aE aA 3 rfl (aD (hK9 _ (aJ ?_))))))
   refine⟨_,rfl,?_⟩
   refine aO ?_
   unfold nW tL xW
   simp only[orI,kH]
   rw[Bool.eq_iff_iff]
   (repeat' split) <;> simp_all <;> omega
  ·
   simp only[bs] at hc2
   refine aN (hK7 _ (aC (fun K10 hK10=>(aB (aE aA 6 rfl (aD (hK10 _ (aJ ?_))))))))
   refine⟨_,rfl,?_⟩
   refine aO ?_
   unfold nW tL xW
   simp only[orI,kH]
   rw[Bool.eq_iff_iff]
   (repeat' split) <;> simp_all <;> omega
end Go.Proofs.YtpkanhklapfajaaGreat
set_option linter.unusedVariables false
set_option linter.unusedSimpArgs false
namespace Go.Proofs.YtpkanhklapfajaaGreat
open Go Go.Abs
theorem aL4 (l:List En) (u:ByteArray) (hl:l.length*48+48≤140737488355328) :Den Tryz.prog 159 [.sl 4 (l.map enC),.s (.string u)]  (·=.sl 4 ((l.filter fun e=>!aA0 u e).map enC)):=by
 refine aR Tryz.func159 rfl (Nat.le_of_ble_eq_true rfl) (fun w0 A hf=>(aC (fun K1 hK1=>(aB (aI hf rfl (cE rfl rfl (lf rfl)) (aH rfl (bK) (aD (hK1 _ (aC (fun K2 hK2=>(aB (aE aA 1 rfl (iN hf rfl rfl rfl rfl rfl nN rfl (oW _ (by omega)) ?_)))))))))))))
 rintro _ rfl
 refine aH rfl (eY rfl) (gE hf 6 rfl rfl rfl rfl rfl aD2 (vL aPf rfl (fun _=>rfl) (aA0 u) l _ (by rw[List.length_map]) (by omega) (fun x _=>aKb x u)) ?_)
 rintro r zs ⟨rfl,rfl⟩
 refine aE aA 1 rfl (aD (hK2 _ (aJ ?_)))
 refine⟨_,rfl,?_⟩
 exact cI (g:=6) rfl (by rw[List.length_map])
theorem aV7 (l:List En) (t:Int) (hl:l.length*48+48≤140737488355328) :Den Tryz.prog 69 [.sl 4 (l.map enC),.s (.int .i64 t)]  (·=.sl 4 ((l.filter fun e=>!decide (e.2.2≤t)).map enC)):=by
 refine aR Tryz.func69 rfl (Nat.le_of_ble_eq_true rfl) (fun w0 A hf=>(aC (fun K1 hK1=>(aB (aI hf rfl (cE rfl rfl (lf rfl)) (aH rfl (bK) (aD (hK1 _ (aC (fun K2 hK2=>(aB (aE aA 1 rfl (iN hf rfl rfl rfl rfl rfl nN rfl (oW _ (by omega)) ?_)))))))))))))
 rintro _ rfl
 refine aH rfl (eY rfl) (gE hf 6 rfl rfl rfl rfl rfl aD2 (vL aP7 rfl (fun _=>rfl) (fun e=>decide (e.2.2≤t)) l _ (by rw[List.length_map]) (by omega) (fun x _=>aR7 x t)) ?_)
 rintro r zs ⟨rfl,rfl⟩
 refine aE aA 1 rfl (aD (hK2 _ (aJ ?_)))
 refine⟨_,rfl,?_⟩
 exact cI (g:=6) rfl (by rw[List.length_map])
theorem aC0 (l:List En) (p:Pr) (hl:l.length*48+48≤140737488355328) :Den Tryz.prog 53 [.sl 4 (l.map enC),.agg (prC p)]  (·=.sl 2 (dS l p |>.map spC)):=by
 refine aR Tryz.func53 rfl (Nat.le_of_ble_eq_true rfl) (fun w0 A hf=>(aC (fun K1 hK1=>(aB (aI hf rfl (cE rfl rfl (lf rfl)) (aH rfl (bK) (aD (hK1 _ (aC (fun K2 hK2=>(aB (mC hf 2 rfl rfl rfl (aD (hK2 _ (aC (fun K3 hK3=>?_))))))))))))))))
 refine aC (fun K4 hK4=>(aB (aE aA 3 rfl (aD (hK4 _ (aP (bT (ι:=Nat×List Sp) (fun(⟨k,out⟩:Nat×List Sp)=>⟨26,[(3,.adr (prC p)),(5,.own 5 2 0 out.length),(8,.sl 4 (l.map enC)),(9,.s (.int .i64 ((l.map enC).length:Nat))),(10,.s (.int .i64 (k:Nat)))],[(5,.buf 2 (out.map spC))]⟩) (fun(⟨k,out⟩:Nat×List Sp)=>k≤l.length∧out=(((l.take k).filter (ofB p)).map Prod.snd)∧out.length≤k) (fun(⟨k,out⟩:Nat×List Sp)=>l.length - k) (0,[]) ?_ ?_ ?_)))))))
 · exact⟨Nat.zero_le _,rfl,Nat.le_refl _⟩
 · exact cQ rfl
 ·
  rintro ⟨k,out⟩ hC
  obtain ⟨h1,h2,h3⟩:=hC
  refine aC (fun K5 hK5=>(aB (aE aA 1 rfl (aD (hK5 _ (aC (fun K6 hK6=>(aL rfl (fun hc1=>?_) (fun hc1=>?_)))))))))
  ·
   simp only[bs] at hc1
   refine aN (hK6 _ (aC (fun K7 hK7=>(aP (aC (fun K8 hK8=>(aB ?_)))))))
   refine aH rfl (bG rfl rfl fX dQ (by first | exact ixm (by omega) | assumption | exact⟨by decide,rfl⟩)) ?_
   refine aE aA 1 rfl (bY hf rfl lZ rfl dQ rfl rfl rfl rfl (lf rfl) (aD (hK8 _ (aC (fun K9 hK9=>(aB (aE aA 3 rfl (aH rfl (jS rfl rfl aG8 (aYc (x:=l[k].1) (y:=p))) (aD (hK9 _ (aL rfl (fun hc2=>?_) (fun hc2=>?_))))))))))))
   ·
    simp only[bs] at hc2
    refine aB (aE aA 3 rfl (aI hf rfl (aS iG rfl rfl rfl rfl (l2 rfl)) (bH hf rfl iG rfl rfl rfl (.inl rfl) (by rw[List.length_map]) rfl (by first | rfl | simp [eK,bL]) (by first | (simp only[maxLen,List.length_map,List.length_append,List.length_cons,List.length_nil]; omega) | (simp [maxLen] <;> omega)) (by first | (simp only[List.length_map,List.length_append,List.length_cons,List.length_nil]; omega) | (simp <;> omega)) ?_)))
    refine bD (cX [3,8,9,10,22] rfl) (aE aA 1 rfl ?_)
    refine bS ?_
    refine hK7 _ (aB ?_)
    refine aH rfl (bO rfl rfl (by omega) (by omega)) ?_
    refine aE aA 1 rfl (aD ?_)
    exact⟨(k+1,out++[l[k].2]),⟨by omega,by rw[h2,aXr (by omega) (by simp_all[ofB]),List.map_append]; rfl,by rw[List.length_append]; simp only[List.length_cons,List.length_nil]; omega⟩,by simp only; omega,cJ ⟨rfl,(by rw[List.length_append]; rfl),rfl,rfl,rfl,trivial⟩ (by rw[List.map_append]; rfl)⟩
   ·
    simp only[bs] at hc2
    refine aN (hK7 _ (aB ?_))
    refine aH rfl (bO rfl rfl (by omega) (by omega)) ?_
    refine aE aA 1 rfl (aD ?_)
    exact⟨(k+1,out),⟨by omega,by rw[h2,aXs (by omega) (by simp_all[ofB])],by omega⟩,by simp only; omega,cJ ⟨rfl,rfl,rfl,rfl,rfl,trivial⟩ rfl⟩
  ·
   simp only[bs] at hc1
   refine bF (hK3 _ (aC (fun K10 hK10=>(aB (bD (yA (sl':=[(5,.sl 2 (out.map spC))]) ⟨⟨_,rfl,uM (g:=5) rfl (by rw[List.length_map])⟩,trivial⟩) ?_)))))
   refine aE aA 1 rfl (aI hf rfl (aK rfl rfl vC rfl (aAq out (by omega))) (aE aA 1 rfl (aD (hK10 _ (aJ ?_)))))
   refine⟨_,rfl,?_⟩
   show AV.sl 2 ((dC out).map spC)=_
   rw[h2,List.take_of_length_le (by omega)]; rfl
theorem aFv (l:List En) (p:Pr) (hl:l.length≤100000000000) :Den Tryz.prog 55 [.sl 4 (l.map enC),.agg (prC p)]  (·=.sl 2 (dS l p |>.map spC)):=by
 refine aR Tryz.func55 rfl (Nat.le_of_ble_eq_true rfl) (fun w0 A hf=>(aC (fun K1 hK1=>(aB (aI hf rfl (cE rfl rfl (lf rfl)) (aH rfl (bK) (aD (hK1 _ (aC (fun K2 hK2=>(aB (mC hf 2 rfl rfl rfl (aD (hK2 _ (aC (fun K3 hK3=>?_))))))))))))))))
 refine aC (fun K4 hK4=>(aB (aE aA 1 rfl (aD (hK4 _ (aP (bT (ι:=Nat×List Sp) (fun(⟨k,out⟩:Nat×List Sp)=>⟨35,[(0,.sl 4 (l.map enC)),(3,.adr (prC p)),(5,.own 5 2 0 out.length),(6,.s (.int .i64 (k:Nat)))],[(5,.buf 2 (out.map spC))]⟩) (fun(⟨k,out⟩:Nat×List Sp)=>k≤l.length∧out=(((l.take k).filter (ofB p)).map Prod.snd)∧out.length≤k) (fun(⟨k,out⟩:Nat×List Sp)=>l.length - k) (0,[]) ?_ ?_ ?_)))))))
 · exact⟨Nat.zero_le _,rfl,Nat.le_refl _⟩
 · exact cQ rfl
 ·
  rintro ⟨k,out⟩ hC
  obtain ⟨h1,h2,h3⟩:=hC
  refine aC (fun K5 hK5=>(aC (fun K6 hK6=>(aB (aE aA 4 rfl (aD (hK6 _ (aL rfl (fun hc1=>?_) (fun hc1=>?_)))))))))
  ·
   simp only[bs] at hc1
   refine aN (hK5 _ (aC (fun K7 hK7=>(aP (aC (fun K8 hK8=>(cP hf bE (by kernel_rfl) rfl (aV aA 2 rfl ?_))))))))
   refine bQ [(13,_),(14,_)] rfl rfl ⟨⟨rfl,rfl⟩,⟨rfl,rfl⟩,trivial⟩ rfl (bG rfl rfl mP iU (by first | exact ixm (by omega) | assumption | exact⟨by decide,rfl⟩)) ?_
   refine aV aA 2 rfl (bJ [(16,_),(17,_)] rfl rfl ⟨⟨rfl,rfl⟩,⟨rfl,rfl⟩,trivial⟩ rfl (aK rfl rfl aQm rfl (of_den _ _)) (cT [0,3,5,6,18] rfl rfl rfl (hK8 _ (aL rfl (fun hc2=>?_) (fun hc2=>?_)))))
   ·
    refine gL hf (L:=#[true,true,true,true,true,true,true,true,true,true,true,true,true,false,false]) 13 2 bE (by kernel_rfl) rfl (by kernel_rfl) rfl ?_
    refine aV aA 3 rfl ?_
    refine bQ [(20,_),(21,_)] rfl rfl ⟨⟨rfl,rfl⟩,⟨rfl,rfl⟩,trivial⟩ rfl (bG rfl rfl mP iU (by first | exact ixm (by omega) | assumption | exact⟨by decide,rfl⟩)) ?_
    refine aV aA 4 rfl ?_
    refine bQ [(25,_),(26,_)] rfl rfl ⟨⟨rfl,rfl⟩,⟨rfl,rfl⟩,trivial⟩ rfl (bG rfl rfl mP iU (by first | exact ixm (by omega) | assumption | exact⟨by decide,rfl⟩)) ?_
    refine aV aA 2 rfl (bQ [(24,_),(29,_)] rfl rfl ⟨⟨rfl,rfl⟩,⟨rfl,rfl⟩,trivial⟩ rfl (bR rfl eL dP (l3 rfl) rfl) (bJ [(30,_)] rfl rfl ⟨⟨rfl,rfl⟩,trivial⟩ rfl (aS aY rfl rfl rfl rfl (l2 rfl)) (rM [0,3,5,6,19,31] rfl rfl rfl ?_)))
    refine aG 13 [] (by kernel_rfl) ⟨?_,trivial⟩
    ·
     refine⟨_,rfl,rfl,(ao rfl (bH hf rfl aY rfl rfl rfl (.inl rfl) (by rw[List.length_map]) rfl (by first | rfl | simp [eK,bL]) (by first | (simp only[maxLen,List.length_map,List.length_append,List.length_cons,List.length_nil]; omega) | (simp [maxLen] <;> omega)) (by first | (simp only[List.length_map,List.length_append,List.length_cons,List.length_nil]; omega) | (simp <;> omega)) ?_))⟩
     refine bD (cX [0,3,5,6,32] rfl) (aF (aG 14 [] (by kernel_rfl) ⟨?_,trivial⟩))
     ·
      refine⟨_,rfl,rfl,(ao rfl (aE aA 1 rfl (aF (bX (by kernel_rfl) ?_))))⟩
      refine hK7 _ (aB (aE aA 1 rfl ?_))
      refine aH rfl (bO rfl rfl (by omega) (by omega)) ?_
      refine aE aA 1 rfl (aD ?_)
      exact⟨(k+1,out++[l[k].2]),⟨by omega,by rw[h2,aXr (by omega) (by simp_all[ofB]),List.map_append]; rfl,by rw[List.length_append]; simp only[List.length_cons,List.length_nil]; omega⟩,by simp only; omega,cJ ⟨rfl,rfl,(by rw[List.length_append]; rfl),rfl,trivial⟩ (by rw[List.map_append]; rfl)⟩
   ·
    refine aN (hK7 _ (aB (aE aA 1 rfl ?_)))
    refine aH rfl (bO rfl rfl (by omega) (by omega)) ?_
    refine aE aA 1 rfl (aD ?_)
    exact⟨(k+1,out),⟨by omega,by rw[h2,aXs (by omega) (by simp_all[ofB])],by omega⟩,by simp only; omega,cJ ⟨rfl,rfl,rfl,rfl,trivial⟩ rfl⟩
  ·
   simp only[bs] at hc1
   refine bF (hK3 _ (aC (fun K9 hK9=>(aB (bD (yA (sl':=[(5,.sl 2 (out.map spC))]) ⟨⟨_,rfl,uM (g:=5) rfl (by rw[List.length_map])⟩,trivial⟩) ?_)))))
   refine aE aA 1 rfl (aI hf rfl (aK rfl rfl aQp rfl (aM4 out (by omega))) (aE aA 1 rfl (aD (hK9 _ (aJ ?_)))))
   refine⟨_,rfl,?_⟩
   show AV.sl 2 ((dC out).map spC)=_
   rw[h2,List.take_of_length_le (by omega)]; rfl
end Go.Proofs.YtpkanhklapfajaaGreat
set_option linter.unusedVariables false
set_option linter.unusedSimpArgs false
namespace Go.Abs
def aTj (x:List En) (p:Pr) (t:Int):List En:=if onB x p=true then mH x p t else lC x p t
def aYq (x:List En) (a:Int):Prop:=rY x=true∧∀ e∈x,e.2.1≤a∧(e.2.2=1099511627776∨e.2.2≤a)∧TS e.1.1∧TS e.1.2
theorem ordE_eq {a b:En}:nW a b=0↔a.1=b.1∧a.2.1=b.2.1:=by
  rw[wH,tO,aF3]
  refine and_congr_right fun _=>?_
  unfold kH; (repeat' split) <;> omega
theorem aAy {e:En}:∀ {l:List En},l.Pairwise RisR→(∀ x∈l,¬ 0<nW x e→RisR x e)→(∀ x∈l,0<nW x e→RisR e x)→(aB7 l e).Pairwise RisR
  | [],_,_,_=>by simp [aB7]
  | x::l,h,h1,h2=>by
    obtain ⟨hx,hl⟩:=List.pairwise_cons.1 h
    rw[aB7]
    split
    · rename_i h0
      refine List.pairwise_cons.2 ⟨fun y hy=>?_,h⟩
      rcases List.mem_cons.1 hy with rfl | hy
      · exact h2 _ (by simp) h0
      · refine h2 y (by simp [hy]) ?_
        have e1:=ordE_tri.lt_tr (show nW e x<0 by have:=ordE_tri.swap e x; omega) (hx y hy).1
        have:=ordE_tri.swap e y; omega
    · rename_i h0
      refine List.pairwise_cons.2 ⟨fun y hy=>?_,aAy hl (fun z hz=>h1 z (by simp [hz])) (fun z hz=>h2 z (by simp [hz]))⟩
      rcases wQ.1 hy with rfl | hy
      · exact h1 x (by simp) h0
      · exact hx y hy
theorem aAe {p:Pr} {t:Int} {y:En}:∀ {l:List En},y∈mH l p t→y∈l∨∃ e∈l,iI p e=true∧e.2.1<t∧y=(e.1,(e.2.1,t))
  | [],h=>by simp [mH] at h
  | x::l,h=>by
    rw[mH] at h
    split at h
    · rename_i hf
      rcases List.mem_append.1 h with h | h
      · unfold wD at h
        split at h
        · simp at h
        · simp only[List.mem_singleton] at h
          exact .inr ⟨x,by simp,hf,by omega,h⟩
      · exact .inl (by simp [h])
    · rcases List.mem_cons.1 h with h | h
      · exact .inl (by simp [h])
      · rcases aAe h with h | ⟨e,he,h⟩
        · exact .inl (by simp [h])
        · exact .inr ⟨e,by simp [he],h⟩
theorem aVd {p:Pr} {e:En}:iI p e=true↔e.1=p∧e.2.2=1099511627776:=by simp [iI]
theorem aAd {p:Pr} {t:Int}:∀ {l:List En},l.Pairwise RisR→(∀ y∈l,y.2.1<1099511627776)→(mH l p t).Pairwise RisR
  | [],_,_=>by simp [mH]
  | x::l,h,h1=>by
    obtain ⟨hx,hl⟩:=List.pairwise_cons.1 h
    rw[mH]
    split
    · rename_i hf
      have hF:=(aVd.1 hf).2
      unfold wD
      split
      · exact hl
      · refine List.pairwise_cons.2 ⟨fun y hy=>⟨(hx y hy).1,fun e=>?_⟩,hl⟩
        have:=(hx y hy).2 e
        have:=h1 y (List.mem_cons_of_mem _ hy)
        omega
    · refine List.pairwise_cons.2 ⟨fun y hy=>?_,aAd hl (fun z hz=>h1 z (by simp [hz]))⟩
      rcases aAe hy with hy | ⟨e,he,_,_,rfl⟩
      · exact hx y hy
      · exact⟨(hx e he).1,fun e'=>(hx e he).2 e'⟩
theorem aJq {x:List En} {a t:Int} {p:Pr} (h:aYq x a) (h1:a≤t) (h2:t<1099511627776) (r1:cF p.1=true) (r2:cF p.2=true) (s1:TS p.1) (s2:TS p.2):aYq (aTj x p t) t:=by
  obtain ⟨hr,he⟩:=h
  obtain ⟨ho,hp⟩:=(wC x).1 hr
  have hT:∀ e∈x,e.2.1<e.2.2:=fun e hm=>by have:=ho e hm; simp only[okE,Bool.and_eq_true,decide_eq_true_eq] at this; exact this.1
  have hF:∀ e∈x,e.2.1<1099511627776:=fun e hm=>by have:=(he e hm).1; omega
  unfold aTj
  split
  · refine⟨(wC _).2 ⟨fun y hy=>?_,aAd hp hF⟩,fun y hy=>?_⟩
    · rcases aAe hy with hy | ⟨e,hm,_,hlt,rfl⟩
      · exact ho y hy
      · have:=ho e hm
        simp only[okE,Bool.and_eq_true,decide_eq_true_eq] at this ⊢
        exact⟨hlt,this.2⟩
    · rcases aAe hy with hy | ⟨e,hm,_,hlt,rfl⟩
      · obtain ⟨q1,q2,q3⟩:=he y hy
        exact⟨by omega,by omega,q3⟩
      · obtain ⟨q1,q2,q3⟩:=he e hm
        exact⟨by simp only; omega,.inr (by simp),q3⟩
  · rename_i hon
    refine⟨(wC _).2 ⟨fun y hy=>?_,aAy hp (fun y hy hle=>?_) (fun y hy hlt=>?_)⟩,fun y hy=>?_⟩
    · rcases wQ.1 hy with rfl | hy
      · simp [okE,h2,r1,r2]
      · exact ho y hy
    · have hne:¬ (y.1=p∧y.2.2=1099511627776):=fun hh=>hon (onB_iff.2 ⟨y,hy,hh⟩)
      obtain ⟨q1,q2,_⟩:=he y hy
      have q4:=hT y hy
      have hyt:y.1=p→y.2.2≤t:=fun e=>by rcases q2 with q2 | q2; exact absurd ⟨e,q2⟩ hne; omega
      refine⟨?_,fun e=>by simp only at e ⊢; exact hyt e⟩
      rcases Int.lt_or_eq_of_le (show nW y (p,(t,1099511627776))≤0 by omega) with e | e
      · exact e
      · exfalso
        obtain ⟨e1,e2⟩:=ordE_eq.1 e
        have:=hyt e1
        simp only at e2; omega
    · refine⟨by have:=ordE_tri.swap y (p,(t,1099511627776)); omega,fun e=>?_⟩
      exfalso
      simp only at e
      have q1:=(he y hy).1
      have:nW y (p,(t,1099511627776))=kH y.2.1 t:=by
        rw[wH,wN,if_neg (by simp [aF3,← e])]
      rw[this] at hlt
      unfold kH at hlt
      (repeat' split at hlt) <;> omega
    · rcases wQ.1 hy with rfl | hy
      · exact⟨Int.le_refl _,.inl rfl,s1,s2⟩
      · obtain ⟨q1,q2,q3⟩:=he y hy
        exact⟨by omega,by omega,q3⟩
end Go.Abs
set_option linter.unusedVariables false
set_option linter.unusedSimpArgs false
namespace Go.Abs
theorem tB {s:ByteArray} (h:cF s=true):TS s:=by
  simp only[cF,Bool.and_eq_true,decide_eq_true_eq] at h
  have:=h.1.2
  show s.size≤_
  omega
theorem mJ {s:Sta} {x:bI}:eO s x=true↔(∀ e∈s.opn,e.1.1=x.2.1→x.1.2≤e.2.2)∧0≤x.1.1∧x.1.2≤s.now∧1≤x.2.1∧x.2.1≤999∧1≤x.2.2∧x.2.2≤4:=by
  simp only[eO,Bool.and_eq_true,decide_eq_true_eq,Bool.not_eq_true',List.any_eq_false,not_and,Int.not_lt]
theorem nX {s:Sta} {x:Us}:mG s x=true↔x.2≠[]∧vN x.2=true∧∀ y∈x.2,eO s y=true:=by
  simp only[mG,Bool.and_eq_true,Bool.not_eq_true',List.isEmpty_eq_false_iff,List.all_eq_true,ne_eq]
theorem hJ {s:Sta} {e:En}:kT s e=true↔0≤e.2.1∧e.2.1≤s.now∧(e.2.2≤s.now∨e.2.2=1099511627776):=by
  simp only[kT,Bool.and_eq_true,Bool.or_eq_true,decide_eq_true_eq]
theorem lJ {s:Sta} {x:Tm}:rJ s x=true↔0≤x.2∧x.2≤s.now:=by
  simp only[rJ,Bool.and_eq_true,decide_eq_true_eq]
theorem aBx {e:Se}:fW e=true↔cF e.1.2=true∧1≤e.1.1∧e.1.1≤999∧1≤e.2.1∧e.2.1≤4∧0≤e.2.2∧e.2.2≤1099511627775:=by
  simp only[fW,Bool.and_eq_true,decide_eq_true_eq,and_assoc]
theorem aI2 {s:Sta} (h:RightP s) {e:Se} (he:e∈s.opn):cF e.1.2=true∧1≤e.1.1∧e.1.1≤999∧1≤e.2.1∧e.2.1≤4∧0≤e.2.2∧e.2.2≤1099511627775 :=
  aBx.1 (((kS _).1 h.opn).1.1 e he)
theorem aEr {l:List Us} {u:ByteArray} {p:Us→Prop} (h:dL cM l) (hp:∀ x∈l,p x) (h0:p (u,[])):p (u,ofU l u):=by
  by_cases hh:jF cM l u=true
  · obtain ⟨hk,e⟩:=aBz h hh
    rw[← e]; exact hp _ (List.getElem_mem hk)
  · rw[pT (Bool.eq_false_iff.2 hh)]; exact h0
theorem aBy {s:Sta} (h:RightP s) (u:ByteArray):vN (ofU s.usr u)=true∧∀ y∈ofU s.usr u,eO s y=true:=by
  have:=aEr (u:=u) (p:=fun x=>vN x.2=true∧∀ y∈x.2,eO s y=true) h.usr (fun x hx=>(nX.1 (h.uok x hx)).2) ⟨rfl,by simp⟩
  exact this
theorem aYi {l:List bI} {x y:bI} (h:y∈iL l x):y=x∨y∈l:=by
  unfold iL at h
  split at h
  · exact .inr h
  · exact List.mem_cons.1 ((iT x l).mem_iff.1 h)
theorem aE7 {s:Sta} {t:Int} {opn':List Se} {e:Se} (h:RightP s) (ht:s.now≤t) (ht1:t<1099511627776) (he:e∈s.opn) (hr:gX opn'=true) (hl:∀ x∈opn',x.2.2≤t)
    (hb:∀ x∈opn',(x∈s.opn∧x.1.1≠e.1.1)∨t≤x.2.2):RightP ⟨t,s.hor,opn',oM s.usr e.1.2 (fY e t),s.sub,s.tmb⟩:=by
  obtain ⟨g1,g2,g3,g4,g5,g6,g7⟩:=aI2 h he
  have hold:∀ y,eO s y=true→eO ⟨t,s.hor,opn',oM s.usr e.1.2 (fY e t),s.sub,s.tmb⟩ y=true:=fun y hy=>by
    obtain ⟨a1,a2,a3,a4⟩:=mJ.1 hy
    refine mJ.2 ⟨fun x hx hn=>?_,a2,Int.le_trans a3 ht,a4⟩
    rcases hb x hx with ⟨h1,_⟩ | h1
    · exact a1 x h1 hn
    · exact Int.le_trans a3 (Int.le_trans ht h1)
  have hold2:∀ x,mG s x=true→mG ⟨t,s.hor,opn',oM s.usr e.1.2 (fY e t),s.sub,s.tmb⟩ x=true:=fun x hx=>by
    obtain ⟨a1,a2,a3⟩:=nX.1 hx
    exact nX.2 ⟨a1,a2,fun y hy=>hold y (a3 y hy)⟩
  have hmem:∀ x∈oM s.usr e.1.2 (fY e t),x∈s.usr∨(e.2.2<t∧x=(e.1.2,iL (ofU s.usr e.1.2) (fY e t))):=fun x hx=>by
    unfold oM at hx
    split at hx
    · exact .inl hx
    · rename_i hlt
      rcases nS.1 hx with ⟨hx,_⟩ | hx
      · exact .inl hx
      · unfold nO at hx
        split at hx
        · cases hx
        · exact .inr ⟨Int.not_le.1 hlt,List.mem_singleton.1 hx⟩
  refine⟨Int.le_trans h.n0 ht,ht1,h.h0,h.h1,hr,hl,fun x hx=>?_,?_,fun x hx=>?_,h.sub,fun y hy=>?_,h.tnm,h.tmb,fun x hx=>?_⟩
  · rcases hmem x hx with hx | ⟨_,rfl⟩
    · exact h.unm x hx
    · exact g1
  · show dL cM (oM s.usr e.1.2 (fY e t))
    unfold oM
    split
    · exact h.usr
    · exact vY h.usr
  · rcases hmem x hx with hx | ⟨hlt,rfl⟩
    · exact hold2 x (h.uok x hx)
    · obtain ⟨q1,q2⟩:=aBy h e.1.2
      refine nX.2 ⟨fun e0=>?_,?_,fun y hy=>?_⟩
      · have h1:=aGd (ofU s.usr e.1.2) (fY e t)
        simp only at e0
        rw[iL,if_neg (show ¬ (fY e t).1.2≤(fY e t).1.1 from Int.not_le.2 hlt)] at e0
        rw[e0] at h1; simp at h1
      · show vN (iL (ofU s.usr e.1.2) (fY e t))=true
        rw[ris_add q1,Bool.not_eq_true',List.any_eq_false]
        intro y hy hye
        simp only[decide_eq_true_eq] at hye
        have:=(mJ.1 (q2 y hy)).1 e he (by rw[hye]; rfl)
        rw[hye] at this
        exact absurd hlt (Int.not_lt.2 this)
      · rcases aYi hy with rfl | hy
        · refine mJ.2 ⟨fun x hx hn=>?_,g6,Int.le_refl _,g2,g3,g4,g5⟩
          rcases hb x hx with ⟨_,h1⟩ | h1
          · exact absurd hn h1
          · exact h1
        · exact hold y (q2 y hy)
  · obtain ⟨a,b,c⟩:=hJ.1 (h.sok y hy)
    exact hJ.2 ⟨a,Int.le_trans b ht,c.imp (fun c=>Int.le_trans c ht) id⟩
  · obtain ⟨a,b⟩:=lJ.1 (h.tok x hx)
    exact lJ.2 ⟨a,Int.le_trans b ht⟩
theorem rE {s s':Sta} (h:RightP s) (ht:s.now≤s'.now) (ht1:s'.now<1099511627776) (h0:0≤s'.hor) (h1:s'.hor<1099511627776) (hr:gX s'.opn=true) (hl:∀ x∈s'.opn,x.2.2≤s'.now)
    (hb:∀ x∈s'.opn,x∈s.opn∨s.now≤x.2.2) (hu:∀ x∈s'.usr,x∈s.usr) (hu2:dL cM s'.usr) (hs:rY s'.sub=true) (hs2:∀ e∈s'.sub,kT s' e=true) (htm:dL dV s'.tmb) (htm2:∀ x∈s'.tmb,x∈s.tmb∨(cF x.1=true∧0≤x.2∧x.2≤s'.now)):RightP s':=by
  have hold:∀ y,eO s y=true→eO s' y=true:=fun y hy=>by
    obtain ⟨a1,a2,a3,a4⟩:=mJ.1 hy
    refine mJ.2 ⟨fun x hx hn=>?_,a2,Int.le_trans a3 ht,a4⟩
    rcases hb x hx with h1 | h1
    · exact a1 x h1 hn
    · exact Int.le_trans a3 h1
  refine⟨Int.le_trans h.n0 ht,ht1,h0,h1,hr,hl,fun x hx=>h.unm x (hu x hx),hu2,fun x hx=>?_,hs,hs2,fun x hx=>?_,htm,fun x hx=>?_⟩
  · obtain ⟨a1,a2,a3⟩:=nX.1 (h.uok x (hu x hx))
    exact nX.2 ⟨a1,a2,fun y hy=>hold y (a3 y hy)⟩
  · rcases htm2 x hx with h2 | h2
    · exact h.tnm x h2
    · exact h2.1
  · rcases htm2 x hx with h2 | h2
    · obtain ⟨a,b⟩:=lJ.1 (h.tok x h2)
      exact lJ.2 ⟨a,Int.le_trans b ht⟩
    · exact lJ.2 h2.2
theorem aBt {s:Sta} (h:RightP s) {t:Int} (ht:s.now≤t) {u:List Us} {o:List Se} {hr:Int} {tm:List Tm}:∀ e∈s.sub,kT ⟨t,hr,o,u,s.sub,tm⟩ e=true:=fun e he=>by
  obtain ⟨a,b,c⟩:=hJ.1 (h.sok e he)
  exact hJ.2 ⟨a,Int.le_trans b ht,c.imp (fun c=>Int.le_trans c ht) id⟩
theorem aFp {s:Sta} (h:RightP s):aYq s.sub s.now:=by
  refine⟨h.sub,fun e he=>?_⟩
  obtain ⟨a,b,c⟩:=hJ.1 (h.sok e he)
  have:=((wC _).1 h.sub).1 e he
  simp only[okE,Bool.and_eq_true,decide_eq_true_eq] at this
  exact⟨b,c.symm,tB this.2.1,tB this.2.2⟩
theorem ev_at {e:Ev} (h:cK e=true):0≤e.at'∧e.at'<1099511627776:=by
  simp only[cK,Bool.and_eq_true,decide_eq_true_eq] at h
  exact⟨h.1,h.2.1⟩
theorem aGq {e:Ev} (h:cK e=true):(e.kind=1∧eS e=true∧1≤e.st∧e.st≤4)∨(e.kind=2∧eS e=true∧1≤e.st∧e.st≤4)∨(e.kind=3∧eS e=true∧e.st=0)∨(e.kind=4∧cF e.user=true∧cF e.other=true∧e.n=0∧e.st=0)∨(e.kind=5∧cF e.user=true∧cF e.other=true∧e.n=0∧e.st=0)∨(e.kind=6∧e.user=bs0∧e.other=bs0∧e.st=0∧0≤e.n∧e.n<1099511627776)∨(e.kind=7∧cF e.user=true∧e.other=bs0∧e.n=0∧e.st=0):=by
  simp only[cK,Bool.and_eq_true,decide_eq_true_eq] at h
  obtain ⟨_,_,h⟩:=h
  split at h
  · rename_i hk
    simp only[Bool.and_eq_true,decide_eq_true_eq] at h
    rcases hk with hk | hk
    · exact .inl ⟨hk,h⟩
    · exact .inr (.inl ⟨hk,h⟩)
  · split at h
    · rename_i hk
      simp only[Bool.and_eq_true,decide_eq_true_eq] at h
      exact .inr (.inr (.inl ⟨hk,h⟩))
    · split at h
      · rename_i hk
        simp only[Bool.and_eq_true,decide_eq_true_eq] at h
        rcases hk with hk | hk
        · exact .inr (.inr (.inr (.inl ⟨hk,h⟩)))
        · exact .inr (.inr (.inr (.inr (.inl ⟨hk,h⟩))))
      · split at h
        · rename_i hk
          simp only[Bool.and_eq_true,decide_eq_true_eq] at h
          exact .inr (.inr (.inr (.inr (.inr (.inl ⟨hk,h⟩)))))
        · split at h
          · rename_i hk
            simp only[Bool.and_eq_true,decide_eq_true_eq] at h
            exact .inr (.inr (.inr (.inr (.inr (.inr ⟨hk,h⟩)))))
          · cases h
theorem aMq {e:Ev}:eS e=true↔1≤e.n∧e.n≤999∧cF e.user=true∧e.other=bs0:=by
  simp only[eS,Bool.and_eq_true,decide_eq_true_eq]
theorem aGx {l:List Se} {n:Int} {u:ByteArray} (h:jY l n u=0):∃ pre e post,l=pre++e::post∧e.1=(n,u)∧aRr l n=e∧(∀ st t,aOp l n st t=pre++(e.1,(st,t))::post)∧aOl l n=pre++post:=by
  obtain ⟨k,hk,ek,h1,h2,h3⟩:=aLl h
  refine⟨l.take k,l[k],l.drop (k+1),?_,?_,?_,fun st t=>?_,?_⟩
  · rw[← List.drop_eq_getElem_cons hk,List.take_append_drop]
  · exact Prod.ext (by simpa [isN] using h1) h2
  · exact(qR n u 0 0 l k hk h3 h1).2.1
  · rw[(qR n u st t l k hk h3 h1).2.2.2.1,List.set_eq_take_append_cons_drop,if_pos hk]
  · exact(qR n u 0 0 l k hk h3 h1).2.2.2.2
theorem aT6 {pre post:List Se} {e:Se} (h:gX (pre++e::post)=true):gX (pre++post)=true∧∀ x∈pre++post,x∈pre++e::post∧x.1.1≠e.1.1:=by
  obtain ⟨⟨h1,h2⟩,h3⟩:=(kS _).1 h
  have hm:∀ x∈pre++post,x∈pre++e::post:=fun x hx=>by
    rcases List.mem_append.1 hx with hx | hx
    · exact List.mem_append_left _ hx
    · exact List.mem_append_right _ (List.mem_cons_of_mem _ hx)
  obtain ⟨p1,p2,p3⟩:=List.pairwise_append.1 h2
  obtain ⟨p4,p5⟩:=List.pairwise_cons.1 p2
  refine⟨(kS _).2 ⟨⟨fun x hx=>h1 x (hm x hx),List.pairwise_append.2 ⟨p1,p5,fun a ha b hb=>p3 a ha b (List.mem_cons_of_mem _ hb)⟩⟩,by simp only[List.length_append,List.length_cons] at h3 ⊢; omega⟩,fun x hx=>⟨hm x hx,?_⟩⟩
  rcases List.mem_append.1 hx with hx | hx
  · have:=p3 x hx e (by simp); omega
  · have:=p4 x hx; omega
theorem chg_ris {pre post:List Se} {e e':Se} (h:gX (pre++e::post)=true) (he:fW e'=true) (hn:e'.1.1=e.1.1):gX (pre++e'::post)=true:=by
  obtain ⟨⟨h1,h2⟩,h3⟩:=(kS _).1 h
  obtain ⟨p1,p2,p3⟩:=List.pairwise_append.1 h2
  obtain ⟨p4,p5⟩:=List.pairwise_cons.1 p2
  refine(kS _).2 ⟨⟨fun x hx=>?_,List.pairwise_append.2 ⟨p1,List.pairwise_cons.2 ⟨fun b hb=>by rw[hn]; exact p4 b hb,p5⟩,fun a ha b hb=>?_⟩⟩,by simp only[List.length_append,List.length_cons] at h3 ⊢; omega⟩
  · rcases List.mem_append.1 hx with hx | hx
    · exact h1 x (List.mem_append_left _ hx)
    · rcases List.mem_cons.1 hx with rfl | hx
      · exact he
      · exact h1 x (List.mem_append_right _ (List.mem_cons_of_mem _ hx))
  · rcases List.mem_cons.1 hb with rfl | hb
    · rw[hn]; exact p3 a ha e (by simp)
    · exact p3 a ha b (List.mem_cons_of_mem _ hb)
theorem aMv {l:List Se} (q:Se→Bool) (h:gX l=true):gX (l.filter q)=true:=by
  obtain ⟨⟨h1,h2⟩,h3⟩:=(kS _).1 h
  exact(kS _).2 ⟨⟨fun x hx=>h1 x (List.mem_filter.1 hx).1,h2.filter q⟩,Nat.le_trans (List.length_filter_le _ _) h3⟩
theorem aWl {l:List Tm} {u:ByteArray} {t:Int} (h:dL dV l):dL dV (vS l u t):=aAc h (by simp) (by simp)
theorem aRw {s:Sta} {e:Ev} (h:RightP s) (he:cK e=true) (ht:s.now≤e.at') (h0:(bU s e).2=0):RightP { (bU s e).1 with now:=e.at' }:=by
  obtain ⟨t0,t1⟩:=ev_at he
  rcases aGq he with ⟨hk,hs,s1,s2⟩ | ⟨hk,hs,s1,s2⟩ | ⟨hk,hs,s1⟩ | ⟨hk,r1,r2,n0,s0⟩ | ⟨hk,r1,r2,n0,s0⟩ | ⟨hk,r1,r2,s0,n0,n1⟩ | ⟨hk,r1,r2,n0,s0⟩
  · obtain ⟨m1,m2,m3,m4⟩:=aMq.1 hs
    rw[bU,if_pos hk] at h0 ⊢
    simp only at h0 ⊢
    rw[show rZ s.opn ((e.n,e.user),(e.st,e.at'))=aKt s.opn ((e.n,e.user),(e.st,e.at')) from if_pos h0]
    have hm:∀ x∈aKt s.opn ((e.n,e.user),(e.st,e.at')),x=((e.n,e.user),(e.st,e.at'))∨x∈s.opn:=fun x hx=>aAz.1 hx
    have h1:gX [((e.n,e.user),(e.st,e.at'))]=true:=(kS _).2 ⟨⟨fun x hx=>by rw[List.mem_singleton.1 hx]; exact aBx.2 ⟨m3,m1,m2,s1,s2,t0,by show e.at'≤_; omega⟩,List.pairwise_singleton _ _⟩,by simp⟩
    refine rE h ht t1 h.h0 h.h1 (opn_ris h.opn h1 h0) (fun x hx=>?_) (fun x hx=>?_) (fun _ hx=>hx) h.usr h.sub (aBt h ht) h.tmb (fun _ hx=>.inl hx)
    · rcases hm x hx with rfl | hx
      · exact Int.le_refl _
      · exact Int.le_trans (h.late x hx) ht
    · rcases hm x hx with rfl | hx
      · exact .inr ht
      · exact .inl hx
  · obtain ⟨m1,m2,m3,m4⟩:=aMq.1 hs
    rw[bU,if_neg (by omega),if_pos hk] at h0 ⊢
    simp only at h0 ⊢
    obtain ⟨pre,x,post,e1,e2,e3,e4,e5⟩:=aGx h0
    have hx:x∈s.opn:=by rw[e1]; simp
    have hn:x.1.1=e.n∧x.1.2=e.user:=by rw[e2]; exact⟨rfl,rfl⟩
    have hr:=h.opn
    rw[e1] at hr
    obtain ⟨q1,q2⟩:=aT6 hr
    rw[show sC s.opn e.n e.user e.st e.at'=pre++(x.1,(e.st,e.at'))::post from by rw[sC,if_pos h0,e4],show stR s.opn e.n e.user e.at'=fY x e.at' from by rw[stR,if_pos h0,e3],← hn.2]
    have hm:∀ y∈pre++(x.1,(e.st,e.at'))::post,y=(x.1,(e.st,e.at'))∨y∈pre++post:=fun y hy=>by
      rcases List.mem_append.1 hy with hy | hy
      · exact .inr (List.mem_append_left _ hy)
      · rcases List.mem_cons.1 hy with hy | hy
        · exact .inl hy
        · exact .inr (List.mem_append_right _ hy)
    refine aE7 h ht t1 hx (chg_ris hr (aBx.2 ⟨by show cF x.1.2=true; rw[hn.2]; exact m3,by show 1≤x.1.1; omega,by show x.1.1≤999; omega,s1,s2,t0,by show e.at'≤_; omega⟩) rfl) (fun y hy=>?_) (fun y hy=>?_)
    · rcases hm y hy with rfl | hy
      · exact Int.le_refl _
      · exact Int.le_trans (h.late y (by rw[e1]; exact(q2 y hy).1)) ht
    · rcases hm y hy with rfl | hy
      · exact .inr (Int.le_refl _)
      · exact .inl ⟨by rw[e1]; exact(q2 y hy).1,(q2 y hy).2⟩
  · rw[bU,if_neg (by omega),if_neg (by omega),if_pos hk] at h0 ⊢
    simp only at h0 ⊢
    obtain ⟨pre,x,post,e1,e2,e3,e4,e5⟩:=aGx h0
    have hx:x∈s.opn:=by rw[e1]; simp
    have hn:x.1.2=e.user:=by rw[e2]
    have hr:=h.opn
    rw[e1] at hr
    obtain ⟨q1,q2⟩:=aT6 hr
    rw[show sB s.opn e.n e.user=pre++post from by rw[sB,if_pos h0,e5],show stR s.opn e.n e.user e.at'=fY x e.at' from by rw[stR,if_pos h0,e3],← hn]
    exact aE7 h ht t1 hx q1 (fun y hy=>Int.le_trans (h.late y (by rw[e1]; exact(q2 y hy).1)) ht) (fun y hy=>.inl ⟨by rw[e1]; exact(q2 y hy).1,(q2 y hy).2⟩)
  · rw[bU,if_neg (by omega),if_neg (by omega),if_neg (by omega),if_pos hk] at h0 ⊢
    simp only at h0 ⊢
    have hon:¬ onB s.sub (e.user,e.other)=true:=fun hh=>by rw[if_pos hh] at h0; omega
    rw[if_neg hon]
    have hg:=aJq (p:=(e.user,e.other)) (aFp h) ht t1 r1 r2 (tB r1) (tB r2)
    rw[aTj,if_neg hon] at hg
    refine rE h ht t1 h.h0 h.h1 h.opn (fun x hx=>Int.le_trans (h.late x hx) ht) (fun _ hx=>.inl hx) (fun _ hx=>hx) h.usr hg.1 (fun y hy=>hJ.2 ⟨?_,(hg.2 y hy).1,(hg.2 y hy).2.1.symm⟩) h.tmb (fun _ hx=>.inl hx)
    rcases wQ.1 hy with rfl | hy
    · exact t0
    · exact(hJ.1 (h.sok y hy)).1
  · rw[bU,if_neg (by omega),if_neg (by omega),if_neg (by omega),if_neg (by omega),if_pos hk] at h0 ⊢
    simp only at h0 ⊢
    have hon:onB s.sub (e.user,e.other)=true:=by
      by_cases hh:onB s.sub (e.user,e.other)=true
      · exact hh
      · rw[if_neg hh] at h0; omega
    rw[if_pos hon]
    have hg:=aJq (p:=(e.user,e.other)) (aFp h) ht t1 r1 r2 (tB r1) (tB r2)
    rw[aTj,if_pos hon] at hg
    refine rE h ht t1 h.h0 h.h1 h.opn (fun x hx=>Int.le_trans (h.late x hx) ht) (fun _ hx=>.inl hx) (fun _ hx=>hx) h.usr hg.1 (fun y hy=>hJ.2 ⟨?_,(hg.2 y hy).1,(hg.2 y hy).2.1.symm⟩) h.tmb (fun _ hx=>.inl hx)
    rcases aAe hy with hy | ⟨z,hz,_,_,rfl⟩
    · exact(hJ.1 (h.sok y hy)).1
    · exact(hJ.1 (h.sok z hz)).1
  · rw[bU,if_neg (by omega),if_neg (by omega),if_neg (by omega),if_neg (by omega),if_neg (by omega),if_pos hk] at h0 ⊢
    have:=h.h0
    have:=h.h1
    exact rE h ht t1 (by show 0≤max s.hor e.n; omega) (by show max s.hor e.n<_; omega) h.opn (fun x hx=>Int.le_trans (h.late x hx) ht) (fun _ hx=>.inl hx) (fun _ hx=>hx) h.usr h.sub (aBt h ht) h.tmb (fun _ hx=>.inl hx)
  · rw[bU,if_neg (by omega),if_neg (by omega),if_neg (by omega),if_neg (by omega),if_neg (by omega),if_neg (by omega)] at h0 ⊢
    refine rE h ht t1 h.h0 h.h1 (aMv _ h.opn) (fun x hx=>Int.le_trans (h.late x (List.mem_filter.1 hx).1) ht) (fun x hx=>.inl (List.mem_filter.1 hx).1) (fun x hx=>?_) (vY h.usr) (aCr _ h.sub) (fun y hy=>aBt (o:=[]) (u:=[]) (hr:=0) (tm:=[]) h ht y (List.mem_filter.1 hy).1) (aWl h.tmb) (fun x hx=>?_)
    · rcases nS.1 hx with hx | hx
      · exact hx.1
      · unfold nO at hx; rw[if_pos rfl] at hx; cases hx
    · rcases nS.1 hx with hx | hx
      · exact .inl hx.1
      · rw[List.mem_singleton.1 hx]; exact .inr ⟨r1,t0,Int.le_refl _⟩
theorem wY {s:Sta} {e:Ev} (h:RightP s) (h0:(bP s e).2=0):RightP (bP s e).1:=by
  unfold bP at h0 ⊢
  split at h0
  · rename_i he
    rw[if_pos he]
    split at h0
    · simp at h0
    · rename_i ht
      rw[if_neg ht]
      split at h0
      · rename_i h2
        rw[if_pos h2]
        exact aRw h he (Int.not_lt.1 ht) h2
      · rename_i h2; exact absurd h0 h2
  · simp at h0
theorem aFb:RightP uD:=jV.1 (by decide)
theorem aYg (l:List Us) (u:ByteArray) (x:bI) (h:dL cM l):(oM l u x).length≤l.length+1:=by
  unfold oM; split
  · omega
  · have e:=(tG (u:=u) h).1
    have e2:=congrArg List.length e
    have:=@aFm u (iL (ofU l u) x)
    simp only[uE,aD9,List.length_append] at *
    omega
end Go.Abs
set_option linter.unusedVariables false
set_option linter.unusedSimpArgs false
namespace Go.Abs
open Go
theorem aWh (a b:Int):IntKind.i64.wrap (IntKind.i64.wrap a+b)=IntKind.i64.wrap (a+b):=by
  rw[IntKind.wrap_i64,IntKind.wrap_i64,IntKind.wrap_i64]; omega
theorem aOh {l:List Us} {k:Nat} (hk:k<l.length):hP (l.take (k+1))=hP (l.take k)+l[k].2.length:=by
  rw[hP,hP,rD l _ k hk,List.sum_append]; simp
theorem bZ {a:ByteArray}:a.toList=[]↔a=bs0:=by
  have:bs0.toList=[]:=by rw[pN]
  rw[← this,toList_inj]
theorem has_not {α:Type} {key:α→ByteArray} {l:List α} {u:ByteArray}:jF key (l.filter fun x=>!isK key u x) u=false:=by
  rw[jF,List.any_eq_false]
  intro x hx
  have:=(List.mem_filter.1 hx).2
  simpa using this
theorem aMc {l:List Tm} {u:ByteArray} {t:Int} (h:dL dV l):(l.filter fun x=>!isK dV u x).take (dN dV (l.filter fun x=>!isK dV u x) u)++(u,t)::(l.filter fun x=>!isK dV u x).drop (dN dV (l.filter fun x=>!isK dV u x) u)=vS l u t:=by
  rw[aTl (key:=dV) (oU h _) has_not,vS]
  refine zB (key:=dV) (aAc (oU h _) (by simp) (by simp)) (aAc h (by simp) (by simp)) fun x=>?_
  rw[nS,nS,List.mem_filter]
  simp only[isK,Bool.not_eq_true',decide_eq_false_iff_not]
  constructor
  · rintro (⟨⟨a,_⟩,b⟩ | a)
    · exact .inl ⟨a,b⟩
    · exact .inr a
  · rintro (⟨a,b⟩ | a)
    · exact .inl ⟨⟨a,b⟩,b⟩
    · exact .inr a
theorem aUj {l:List Tm} {u:ByteArray} {t:Int} (h:dL dV l):((l.filter fun x=>!isK dV u x).map tmC).take (dN dV (l.filter fun x=>!isK dV u x) u)++[.s (.string u),.s (.int .i64 t)]::((l.filter fun x=>!isK dV u x).map tmC).drop (dN dV (l.filter fun x=>!isK dV u x) u)=(vS l u t).map tmC:=by
  rw[← aMc h]
  simp only[List.map_append,List.map_cons,List.map_take,List.map_drop]; rfl
theorem aWm {l:List Tm} {u:ByteArray} {t:Int}:(vS l u t).length≤l.length+1:=by
  have:(vS l u t).length=(l.filter (loK dV u)).length+((l.filter (hiK dV u)).length+1):=by simp [vS,aD9]
  have h2:(l.filter (loK dV u)).length+(l.filter (hiK dV u)).length≤l.length:=by
    induction l with
    | nil=>simp
    | cons x l ih =>
      simp only[List.filter_cons]
      have:¬ (loK dV u x=true∧hiK dV u x=true):=by
        rintro ⟨a,b⟩
        simp only[loK,hiK,decide_eq_true_eq] at a b
        omega
      have ih:=ih (by simp [vS,aD9])
      by_cases a:loK dV u x=true <;> by_cases b:hiK dV u x=true <;> simp [a,b] <;> first | omega | exact absurd ⟨a,b⟩ this
  omega
theorem erU {s:Sta} {u:ByteArray} {t:Int} (hr:dL cM s.usr):(s.usr.filter fun x=>!isK cM u x)=(gI s u t).usr:=by
  show _=uE s.usr u []
  rw[uE,nO,if_pos rfl]
  exact aMp hr u
theorem erUl {s:Sta} {u:ByteArray} {t:Int} (hr:dL cM s.usr):(s.usr.filter fun x=>!isK cM u x).length=((gI s u t).usr.map usC).length:=by rw[List.length_map,erU hr]
theorem erTl {l:List Tm} {u:ByteArray} {t:Int} (h:dL dV l):(l.filter fun x=>!isK dV u x).length+1=((vS l u t).map tmC).length:=by
  have hp:=aAm (key:=dV) (l.filter fun x=>!isK dV u x) u
  rw[← aMc h,List.length_map,List.length_append,List.length_cons,List.length_take,List.length_drop]
  omega
theorem hZ {P:Program} {t:TypeId} {k:IntKind} {a b:Int} (h:a≠b):uW P .eql t (.int k a) (.int k b)=some (.bool false):=by
  simp [uW,aCh,h]
theorem aWu {l:List Us} {u:ByteArray} (h:dL cM l):(uE l u []).length≤l.length:=by
  have e:uE l u []=l.filter fun x=>!isK cM u x:=by rw[uE,nO,if_pos rfl]; exact(aMp h u).symm
  rw[e]; exact List.length_filter_le _ _
theorem erSz {n m:Nat} {s:Sta} {u:ByteArray} {t:Int} (hz:SzS n s) (hr:dL cM s.usr) (hm:n+24≤m):SzS m (gI s u t):=by
  have h1:=List.length_filter_le (fun e=>!qQ u e) s.opn
  have h2:=List.length_filter_le (fun e=>!aA0 u e) s.sub
  have h3:=aWu (u:=u) hr
  have h4:=aWm (l:=s.tmb) (u:=u) (t:=t)
  have z1:=hz.o
  have z2:=hz.u
  have z3:=hz.b
  have z4:=hz.t
  refine⟨?_,?_,?_,?_,fun x hx=>?_⟩
  · show (s.opn.filter fun e=>!qQ u e).length*40≤m
    omega
  · show (uE s.usr u []).length*40≤m
    omega
  · show (s.sub.filter fun e=>!aA0 u e).length*48≤m
    omega
  · show (vS s.tmb u t).length*24≤m
    omega
  · have hx':x∈uE s.usr u []:=hx
    rcases nS.1 hx' with ⟨hx',_⟩ | hx'
    · have:=hz.y x hx'; omega
    · unfold nO at hx'; rw[if_pos rfl] at hx'; cases hx'
theorem addSz {n m:Nat} {s:Sta} {u:ByteArray} {x:bI} (hz:SzS n s) (hr:dL cM s.usr) (hm:n+40≤m):SzS m (eU s u x):=by
  have z1:=hz.o
  have z2:=hz.u
  have z3:=hz.b
  have z4:=hz.t
  have q:=aYg s.usr u x hr
  refine⟨by show s.opn.length*40≤m; omega,by show (oM s.usr u x).length*40≤m; omega,by show s.sub.length*48≤m; omega,by show s.tmb.length*24≤m; omega,fun y hy=>?_⟩
  have hy':y∈oM s.usr u x:=hy
  unfold oM at hy'
  split at hy'
  · have:=hz.y y hy'; omega
  · rcases nS.1 hy' with ⟨hy',_⟩ | hy'
    · have:=hz.y y hy'; omega
    · unfold nO at hy'
      split at hy'
      · cases hy'
      · rw[List.mem_singleton.1 hy']
        have h1:(ofU s.usr u).length*32≤n:=aEr (p:=fun x=>x.2.length*32≤n) hr hz.y (by simp)
        have h2:=tS (ofU s.usr u) x
        show (iL (ofU s.usr u) x).length*32≤m
        omega
theorem aYe {l:List Us} {u:ByteArray} {x:bI} (h:dL cM l):dL cM (oM l u x):=by
  unfold oM; split
  · exact h
  · exact vY h
theorem sH {l:List Us} {h:Int} {k:Nat} (hk:k<l.length):jM h (l.take (k+1))=jM h (l.take k)++nO l[k].1 (gM h l[k].2):=kM l _ k hk
theorem zG (h:Int):∀ (l:List Us),(jM h l).length≤l.length
  | []=>Nat.le_refl _
  | x::l=>by
    have:=zG h l
    have h2:=@aFm x.1 (gM h x.2)
    simp only[jM,List.flatMap_cons,List.length_append,List.length_cons] at *
    omega
end Go.Abs
set_option linter.unusedVariables false
set_option linter.unusedSimpArgs false
namespace Go.Proofs.YtpkanhklapfajaaGreat
open Go Go.Abs
theorem aMn (s:Sta) (u:ByteArray) (t:Int) (hz:SzS 140737488353280 s) (ho:s.opn.length≤50) (hr:dL cM s.usr) :Den Tryz.prog 43 [.agg (aT s),.s (.string u),.s (.int .i64 t)]  (·=.sl 4 ((dE s u t).map stC)):=by
 have z1:=hz.o
 have z2:=hz.u
 have hlm:(s.usr.map usC).length=s.usr.length:=List.length_map _
 have hpl:=aAm (key:=cM) s.usr u
 have hsl:=aBp s.opn u t
 have hou:(ofU s.usr u).length*32≤140737488353280:=aEr (p:=fun x=>x.2.length*32≤140737488353280) hr hz.y (by simp)
 refine aR Tryz.func43 rfl (Nat.le_of_ble_eq_true rfl) (fun w0 A hf=>(aC (fun K1 hK1=>(aB (aI hf rfl (cE rfl rfl (lf rfl)) (aH rfl (bK) (aD (hK1 _ (aC (fun K2 hK2=>(aB (aH rfl (yN (k:=4)) (aD (hK2 _ (aC (fun K3 hK3=>?_))))))))))))))))
 refine aC (fun K4 hK4=>(aB (aE aA 3 rfl (aI hf rfl (aK rfl rfl aHc rfl (aE1 s.usr u (by omega) hr)) (aE aA 5 rfl (aD (hK4 _ (aC (fun K5 hK5=>(aB (aE aA 1 rfl (aD (hK5 _ (aL rfl (fun hc1=>?_) (fun hc1=>?_)))))))))))))))
 ·
  obtain ⟨hk0,he⟩:=aBz hr (show jF cM s.usr u=true by assumption)
  refine aB (aE aA 3 rfl (aH rfl (bG rfl rfl fJ eG (hY (k:=dN cM s.usr u) (by omega) hk0)) (aE aA 2 rfl (aI hf rfl (aK rfl rfl vA rfl (dA (uG s.usr[dN cM s.usr u].2 (by rw[he]; show (ofU s.usr u).length*32≤_; omega)))) ?_))))
  refine aE aA 1 rfl (aD (hK3 _ (aC (fun K6 hK6=>(aC (fun K7 hK7=>(aB (aE aA 4 rfl (aI hf rfl (aK rfl rfl aHb rfl (aCn s.opn u t (by omega))) (aE aA 2 rfl (aD (hK7 _ (aP (bT (ι:=Nat×List bI) (fun(⟨k,out⟩:Nat×List bI)=>⟨42,[(7,.sl 4 (out.map stC)),(31,.sl 4 ((gW s.opn u t).map stC)),(32,.s (.int .i64 (((gW s.opn u t).map stC).length:Nat))),(33,.s (.int .i64 (k:Nat)))],[]⟩) (fun(⟨k,out⟩:Nat×List bI)=>k≤(gW s.opn u t).length∧out=((gW s.opn u t).take k).foldl iL (ofU s.usr u)∧out.length≤(ofU s.usr u).length+k) (fun(⟨k,out⟩:Nat×List bI)=>(gW s.opn u t).length - k) (0,ofU s.usr u) ?_ ?_ ?_))))))))))))))
  · exact⟨Nat.zero_le _,rfl,Nat.le_refl _⟩
  · first | exact kI ⟨(by rw[show (ofU s.usr u)=(s.usr[dN cM s.usr u]).2 from by rw[he]]; rfl),rfl,rfl,rfl,trivial⟩ | exact kI ⟨(by rw[pT hno]; rfl),rfl,rfl,rfl,trivial⟩
  ·
   rintro ⟨k,out⟩ hC
   obtain ⟨h1,h2,h3⟩:=hC
   refine aC (fun K8 hK8=>(aB (aE aA 1 rfl (aD (hK8 _ (aC (fun K9 hK9=>(aL rfl (fun hc2=>?_) (fun hc2=>?_)))))))))
   ·
    simp only[bs] at hc2
    refine aN (hK9 _ (aC (fun K10 hK10=>(aP (aC (fun K11 hK11=>(aB ?_)))))))
    refine aH rfl (bG rfl rfl cC bC (by first | exact ixm (by omega) | assumption | exact⟨by decide,rfl⟩)) ?_
    refine aE aA 1 rfl (bY hf rfl eE rfl bC rfl rfl rfl rfl (lf rfl) (aD (hK11 _ (aB (aE aA 2 rfl (aI hf rfl (aK rfl rfl vE rfl (aBf out (gW s.opn u t)[k] (by omega))) (aE aA 1 rfl ?_)))))))
    refine bS ?_
    refine hK10 _ (aB ?_)
    refine aH rfl (bO rfl rfl (by omega) (by omega)) ?_
    refine aE aA 1 rfl (aD ?_)
    exact⟨(k+1,iL out (gW s.opn u t)[k]),⟨by omega,by rw[jL (gW s.opn u t) iL _ k (by omega),← h2],by have:=tS out (gW s.opn u t)[k]; omega⟩,by simp only; omega,cQ rfl⟩
   ·
    simp only[bs] at hc2
    refine bF (hK6 _ (aC (fun K12 hK12=>(aB (aE aA 2 rfl (aD (hK12 _ (aJ ?_))))))))
    refine⟨_,rfl,?_⟩
    show AV.sl 4 (out.map stC)=_
    rw[h2,List.take_of_length_le (by omega)]; rfl
 ·
  have hno:jF cM s.usr u=false:=by simp_all
  refine aN (hK3 _ (aC (fun K13 hK13=>(aC (fun K14 hK14=>(aB (aE aA 4 rfl (aI hf rfl (aK rfl rfl aHb rfl (aCn s.opn u t (by omega))) (aE aA 2 rfl (aD (hK14 _ (aP (bT (ι:=Nat×List bI) (fun(⟨k,out⟩:Nat×List bI)=>⟨42,[(7,.sl 4 (out.map stC)),(31,.sl 4 ((gW s.opn u t).map stC)),(32,.s (.int .i64 (((gW s.opn u t).map stC).length:Nat))),(33,.s (.int .i64 (k:Nat)))],[]⟩) (fun(⟨k,out⟩:Nat×List bI)=>k≤(gW s.opn u t).length∧out=((gW s.opn u t).take k).foldl iL (ofU s.usr u)∧out.length≤(ofU s.usr u).length+k) (fun(⟨k,out⟩:Nat×List bI)=>(gW s.opn u t).length - k) (0,ofU s.usr u) ?_ ?_ ?_)))))))))))))
  · exact⟨Nat.zero_le _,rfl,Nat.le_refl _⟩
  · first | exact kI ⟨(by rw[show (ofU s.usr u)=(s.usr[dN cM s.usr u]).2 from by rw[he]]; rfl),rfl,rfl,rfl,trivial⟩ | exact kI ⟨(by rw[pT hno]; rfl),rfl,rfl,rfl,trivial⟩
  ·
   rintro ⟨k,out⟩ hC
   obtain ⟨h1,h2,h3⟩:=hC
   refine aC (fun K15 hK15=>(aB (aE aA 1 rfl (aD (hK15 _ (aC (fun K16 hK16=>(aL rfl (fun hc3=>?_) (fun hc3=>?_)))))))))
   ·
    simp only[bs] at hc3
    refine aN (hK16 _ (aC (fun K17 hK17=>(aP (aC (fun K18 hK18=>(aB ?_)))))))
    refine aH rfl (bG rfl rfl cC bC (by first | exact ixm (by omega) | assumption | exact⟨by decide,rfl⟩)) ?_
    refine aE aA 1 rfl (bY hf rfl eE rfl bC rfl rfl rfl rfl (lf rfl) (aD (hK18 _ (aB (aE aA 2 rfl (aI hf rfl (aK rfl rfl vE rfl (aBf out (gW s.opn u t)[k] (by omega))) (aE aA 1 rfl ?_)))))))
    refine bS ?_
    refine hK17 _ (aB ?_)
    refine aH rfl (bO rfl rfl (by omega) (by omega)) ?_
    refine aE aA 1 rfl (aD ?_)
    exact⟨(k+1,iL out (gW s.opn u t)[k]),⟨by omega,by rw[jL (gW s.opn u t) iL _ k (by omega),← h2],by have:=tS out (gW s.opn u t)[k]; omega⟩,by simp only; omega,cQ rfl⟩
   ·
    simp only[bs] at hc3
    refine bF (hK13 _ (aC (fun K19 hK19=>(aB (aE aA 2 rfl (aD (hK19 _ (aJ ?_))))))))
    refine⟨_,rfl,?_⟩
    show AV.sl 4 (out.map stC)=_
    rw[h2,List.take_of_length_le (by omega)]; rfl
theorem aFw (s:Sta) (hz:SzS 140737488353280 s) :Den Tryz.prog 36 [.agg (aT s)]  (·=.s (.int .i64 (IntKind.i64.wrap ((dZ s:Nat):Int)))):=by
 have z1:=hz.o
 have z2:=hz.u
 have z3:=hz.b
 have z4:=hz.t
 have y1:(s.opn.map seC).length=s.opn.length:=List.length_map _
 have y2:(s.sub.map enC).length=s.sub.length:=List.length_map _
 have y3:(s.tmb.map tmC).length=s.tmb.length:=List.length_map _
 refine aR Tryz.func36 rfl (Nat.le_of_ble_eq_true rfl) (fun w0 A hf=>(aC (fun K1 hK1=>(aB (aI hf rfl (cE rfl rfl (lf rfl)) (aE aA 1 rfl (aD (hK1 _ (aC (fun K2 hK2=>(aB (aE aA 6 rfl ?_))))))))))))
 refine aH rfl (bO rfl rfl (by omega) (by omega)) ?_
 refine aE aA 3 rfl ?_
 refine aH rfl (bO rfl rfl (by omega) (by omega)) ?_
 refine aE aA 1 rfl (aD (hK2 _ (aC (fun K3 hK3=>(aC (fun K4 hK4=>(aB (aE aA 1 rfl (aD (hK4 _ (aP (bT (ι:=Nat) (fun k=>⟨33,[(1,.adr (aT s)),(3,.s (.int .i64 (IntKind.i64.wrap ((s.opn.length+s.sub.length+s.tmb.length+hP (s.usr.take k):Nat):Int)))),(4,.s (.int .i64 (k:Nat)))],[]⟩) (fun k=>k≤s.usr.length) (fun k=>s.usr.length - k) 0 ?_ ?_ ?_))))))))))))
 · exact Nat.zero_le _
 · exact kI ⟨rfl,(aQ (by rw[List.take_zero,show hP []=0 from rfl,wrap_i64 (by omega) (by omega)]; simp only[List.length_map]; omega)),rfl,trivial⟩
 ·
  rintro k hC
  refine aC (fun K5 hK5=>(aC (fun K6 hK6=>(aB (aE aA 5 rfl (aD (hK6 _ (aL rfl (fun hc1=>?_) (fun hc1=>?_)))))))))
  ·
   simp only[bs] at hc1
   refine aN (hK5 _ (aC (fun K7 hK7=>(aP (aB (aE aA 4 rfl ?_))))))
   refine aH rfl (bG rfl rfl aBi tV (by first | exact ixm (by omega) | assumption | exact⟨by decide,rfl⟩)) ?_
   refine aE aA 3 rfl (aH rfl (fG rfl rfl rfl) (aE aA 1 rfl ?_))
   refine bS ?_
   refine hK7 _ (aB (aE aA 1 rfl ?_))
   refine aH rfl (bO rfl rfl (by omega) (by omega)) ?_
   refine aE aA 1 rfl (aD ?_)
   exact⟨k+1,by omega,by omega,kI ⟨rfl,(aQ (by rw[aWh,aOh (by omega)]; congr 1; simp only[List.length_map]; omega)),rfl,trivial⟩⟩
  ·
   simp only[bs] at hc1
   refine bF (hK3 _ (aC (fun K8 hK8=>(aB (aE aA 2 rfl (aD (hK8 _ (aJ ?_))))))))
   refine⟨_,rfl,?_⟩
   unfold dZ
   rw[List.take_of_length_le (by omega)]; rfl
end Go.Proofs.YtpkanhklapfajaaGreat
set_option linter.unusedVariables false
set_option linter.unusedSimpArgs false
namespace Go.Proofs.YtpkanhklapfajaaGreat
open Go Go.Abs
theorem aQ5 (l:List En) (hl:l.length≤9223372036854775807) (ht:∀ e∈l,TS e.1.1∧TS e.1.2) :Den Tryz.prog 88 [.sl 4 (l.map enC)]  (·=.s (.bool (rY l))):=by
 refine aR Tryz.func88 rfl (Nat.le_of_ble_eq_true rfl) (fun w0 A hf=>(aC (fun K1 hK1=>(aB (aE aA 1 rfl (aD (hK1 _ (aC (fun K2 hK2=>(aC (fun K3 hK3=>(aB (aE aA 3 rfl (aD (hK3 _ (aP ?_))))))))))))))))
 refine bT (ι:=Nat) (fun k=>⟨58,[(0,.sl 4 (l.map enC)),(5,.sl 4 (l.map enC)),(6,.s (.int .i64 ((l.map enC).length:Nat))),(7,.s (.int .i64 (k:Nat)))],[]⟩) (fun k=>k≤l.length∧rY l=nP okE aJe (iV l k) (l.drop k)) (fun k=>l.length - k) 0 ?_ ?_ ?_
 · exact⟨Nat.zero_le _,rfl⟩
 · exact cQ rfl
 ·
  rintro k hC
  obtain ⟨h1,h2⟩:=hC
  refine aC (fun K4 hK4=>(aB (aE aA 1 rfl (aD (hK4 _ (aC (fun K5 hK5=>(aL rfl (fun hc1=>?_) (fun hc1=>?_)))))))))
  ·
   simp only[bs] at hc1
   refine aN (hK5 _ (aC (fun K6 hK6=>(aP (aC (fun K7 hK7=>(aB (aE aA 1 rfl ?_))))))))
   refine aH rfl (bG rfl rfl fX dQ (by first | exact ixm (by omega) | assumption | exact⟨by decide,rfl⟩)) ?_
   refine aE aA 1 rfl (aW hf rfl rfl rfl lZ (aE aA 1 rfl (bB hf rfl rfl dQ rfl rfl (l1 rfl) (l4 rfl) rfl (bD (pH (nee 4) (sl':=[(0,_),(3,_),(4,_),(5,_),(6,_),(7,_)]) (m':=[]) ⟨⟨_,rfl,rfl⟩,⟨_,rfl,rfl⟩,⟨_,rfl,rfl⟩,⟨_,rfl,rfl⟩,⟨_,rfl,rfl⟩,⟨_,rfl,rfl⟩,trivial⟩ rfl) (aD (hK7 _ (aC (fun K8 hK8=>(aC (fun K9 hK9=>(aB (aE aA 2 rfl (aI hf rfl (aK rfl rfl jP rfl (mK _)) (aE aA 1 rfl ?_))))))))))))))
   refine aU rfl rfl rfl (fun hg2=>?_) (fun hg2=>?_)
   ·
    simp only[bs] at hg2
    refine aH rfl (bM rfl aLw oJ rfl) ?_
    refine aE aA 1 rfl (aX rfl rfl rfl (aI hf rfl (aK rfl rfl aHd rfl (Nm.pairRight_den _ _ (ht _ (List.getElem_mem _)).1 (ht _ (List.getElem_mem _)).2)) (aE aA 2 rfl (aD (hK9 _ (aL rfl (fun hc3=>?_) (fun hc3=>?_)))))))
    ·
     simp only[bs] at hc3
     refine aC (fun K10 hK10=>(aB (aE aA 1 rfl (aD (hK10 _ (aJ ?_))))))
     refine⟨_,rfl,?_⟩
     refine aO ?_
     rw[fM h2 (by omega) (aNh (by first | exact .inl (by omega) | exact .inr (.inl (by assumption)) | exact .inr (.inr (.inl (by assumption))) | exact .inr (.inr (.inr (by assumption))) | (simp_all; done)))]
    ·
     simp only[bs] at hc3
     refine aN (hK8 _ (aC (fun K11 hK11=>(cP hf bE (by kernel_rfl) rfl (aV aA 3 rfl (fC 23 true rfl (fun hg4=>?_) (fun hg4=>?_)))))))
     ·
      simp only[bs] at hg4
      refine aV aA 2 rfl ?_
      refine bQ [(25,_)] rfl rfl ⟨⟨rfl,rfl⟩,trivial⟩ rfl (eZ rfl rfl (by omega) (by omega)) ?_
      refine bQ [(24,_),(26,_)] rfl rfl ⟨⟨rfl,rfl⟩,⟨rfl,rfl⟩,trivial⟩ rfl (bG rfl rfl fX dQ (hY (k:=k - 1) (by omega) (by omega))) (aV aA 2 rfl (bJ [(28,_),(29,_)] rfl rfl ⟨⟨rfl,rfl⟩,⟨rfl,rfl⟩,trivial⟩ rfl (aK rfl rfl aDx rfl (aJb _ _)) (aV aA 2 rfl (fC 32 false rfl (fun hg5=>?_) (fun hg5=>?_)))))
      ·
       simp only[bs] at hg5
       refine aV aA 2 rfl ?_
       refine bQ [(34,_)] rfl rfl ⟨⟨rfl,rfl⟩,trivial⟩ rfl (eZ rfl rfl (by omega) (by omega)) ?_
       refine bQ [(33,_),(35,_)] rfl rfl ⟨⟨rfl,rfl⟩,⟨rfl,rfl⟩,trivial⟩ rfl (bG rfl rfl fX dQ (hY (k:=k - 1) (by omega) (by omega))) (aV aA 4 rfl (bQ [(38,_),(40,_)] rfl rfl ⟨⟨rfl,rfl⟩,⟨rfl,rfl⟩,trivial⟩ rfl (jS rfl rfl aG8 (aYc (x:=l[k - 1].1) (y:=l[k].1))) (aV aA 1 rfl (fC 42 true rfl (fun hg6=>?_) (fun hg6=>?_)))))
       ·
        simp only[bs] at hg6
        refine aV aA 2 rfl ?_
        refine bQ [(44,_)] rfl rfl ⟨⟨rfl,rfl⟩,trivial⟩ rfl (eZ rfl rfl (by omega) (by omega)) ?_
        refine bQ [(43,_),(45,_)] rfl rfl ⟨⟨rfl,rfl⟩,⟨rfl,rfl⟩,trivial⟩ rfl (bG rfl rfl fX dQ (hY (k:=k - 1) (by omega) (by omega))) (aV aA 10 rfl (cT [0,5,6,7,56] rfl rfl rfl (hK11 _ (aL rfl (fun hc7=>?_) (fun hc7=>?_)))))
        ·
         simp only[bs] at hc7
         refine aC (fun K12 hK12=>(aB (aE aA 1 rfl (aD (hK12 _ (aJ ?_))))))
         refine⟨_,rfl,?_⟩
         refine aO ?_
         rw[fV h2 (by omega) (by omega) (aEt (by first | exact .inl (by omega) | exact .inr ⟨by first | assumption | exact aKq (by assumption) (by assumption),by omega⟩))]
        ·
         simp only[bs] at hc7
         refine aN (hK6 _ (aB ?_))
         refine aH rfl (bO rfl rfl (by omega) (by omega)) ?_
         refine aE aA 1 rfl (aD ?_)
         exact⟨k+1,⟨by omega,gF h2 (by omega) (aF6 (by omega) (by simp_all) (by simp_all)) (fun h0=>qL.2 ⟨by omega,fun e=>by first | omega | exact absurd e (by assumption) | exact absurd e (zK (by assumption)) | exact absurd e (zJ (by assumption))⟩)⟩,by omega,cQ rfl⟩
       ·
        simp only[bs] at hg6
        refine aV aA 14 rfl (cT [0,5,6,7,56] rfl rfl rfl (hK11 _ (bW rfl (aN (hK6 _ (aB ?_))))))
        refine aH rfl (bO rfl rfl (by omega) (by omega)) ?_
        refine aE aA 1 rfl (aD ?_)
        exact⟨k+1,⟨by omega,gF h2 (by omega) (aF6 (by omega) (by simp_all) (by simp_all)) (fun h0=>qL.2 ⟨by omega,fun e=>by first | omega | exact absurd e (by assumption) | exact absurd e (zK (by assumption)) | exact absurd e (zJ (by assumption))⟩)⟩,by omega,cQ rfl⟩
      ·
       simp only[bs] at hg5
       refine aV aA 10 rfl (aZ rfl rfl ?_)
       refine aZ rfl rfl ?_
       refine aZ rfl rfl ?_
       refine aZ rfl rfl ?_
       refine aZ rfl rfl ?_
       refine aZ rfl rfl ?_
       refine aZ rfl rfl ?_
       refine aZ rfl rfl ?_
       refine aZ rfl rfl ?_
       refine aZ rfl rfl ?_
       refine aZ rfl rfl ?_
       refine aV aA 3 rfl (cT [0,5,6,7,56] rfl rfl rfl (hK11 _ (bN rfl (aC (fun K13 hK13=>(aB (aE aA 1 rfl (aD (hK13 _ (aJ ?_))))))))))
       refine⟨_,rfl,?_⟩
       refine aO ?_
       rw[fV h2 (by omega) (by omega) (aEt (by first | exact .inl (by omega) | exact .inr ⟨by first | assumption | exact aKq (by assumption) (by assumption),by omega⟩))]
     ·
      simp only[bs] at hg4
      refine aV aA 9 rfl (aZ rfl rfl ?_)
      refine aZ rfl rfl ?_
      refine aZ rfl rfl ?_
      refine aZ rfl rfl ?_
      refine aZ rfl rfl ?_
      refine aZ rfl rfl ?_
      refine aZ rfl rfl ?_
      refine aZ rfl rfl ?_
      refine aZ rfl rfl ?_
      refine aZ rfl rfl ?_
      refine aZ rfl rfl ?_
      refine aZ rfl rfl ?_
      refine aZ rfl rfl ?_
      refine aZ rfl rfl ?_
      refine aZ rfl rfl ?_
      refine aZ rfl rfl ?_
      refine aZ rfl rfl ?_
      refine aZ rfl rfl ?_
      refine aZ rfl rfl ?_
      refine aZ rfl rfl ?_
      refine aZ rfl rfl ?_
      refine aZ rfl rfl ?_
      refine aV aA 2 rfl (cT [0,5,6,7,56] rfl rfl rfl (hK11 _ (bW rfl (aN (hK6 _ (aB ?_))))))
      refine aH rfl (bO rfl rfl (by omega) (by omega)) ?_
      refine aE aA 1 rfl (aD ?_)
      exact⟨k+1,⟨by omega,gF h2 (by omega) (aF6 (by omega) (by simp_all) (by simp_all)) (fun h0=>qL.2 ⟨by omega,fun e=>by first | omega | exact absurd e (by assumption) | exact absurd e (zK (by assumption)) | exact absurd e (zJ (by assumption))⟩)⟩,by omega,cQ rfl⟩
   ·
    simp only[bs] at hg2
    refine aE aA 4 rfl (aD (hK9 _ (bN rfl (aC (fun K14 hK14=>(aB (aE aA 1 rfl (aD (hK14 _ (aJ ?_))))))))))
    refine⟨_,rfl,?_⟩
    refine aO ?_
    rw[fM h2 (by omega) (aNh (by first | exact .inl (by omega) | exact .inr (.inl (by assumption)) | exact .inr (.inr (.inl (by assumption))) | exact .inr (.inr (.inr (by assumption))) | (simp_all; done)))]
  ·
   simp only[bs] at hc1
   refine bF (hK2 _ (aC (fun K15 hK15=>(aB (aE aA 1 rfl (aD (hK15 _ (aJ ?_))))))))
   refine⟨_,rfl,?_⟩
   refine aO ?_
   rw[pP h2 (by omega)]
theorem aH5 (l:List En) (hl:l.length≤9223372036854775807) (ht:∀ e∈l,TS e.1.1∧TS e.1.2) :Den Tryz.prog 38 [.sl 4 (l.map enC)]  (·=.s (.bool (rY l))):=by
 refine aR Tryz.func38 rfl (Nat.le_of_ble_eq_true rfl) (fun w0 A hf=>(aC (fun K1 hK1=>(aB (aE aA 1 rfl (aD (hK1 _ (aC (fun K2 hK2=>(aC (fun K3 hK3=>(aB (aE aA 1 rfl (aD (hK3 _ (aP ?_))))))))))))))))
 refine bT (ι:=Nat) (fun k=>⟨75,[(0,.sl 4 (l.map enC)),(3,.s (.int .i64 (k:Nat)))],[]⟩) (fun k=>k≤l.length∧rY l=nP okE aJe (iV l k) (l.drop k)) (fun k=>l.length - k) 0 ?_ ?_ ?_
 · exact⟨Nat.zero_le _,rfl⟩
 · exact cQ rfl
 ·
  rintro k hC
  obtain ⟨h1,h2⟩:=hC
  refine aC (fun K4 hK4=>(aC (fun K5 hK5=>(aB (aE aA 4 rfl (aD (hK5 _ (aL rfl (fun hc1=>?_) (fun hc1=>?_)))))))))
  ·
   simp only[bs] at hc1
   refine aN (hK4 _ (aC (fun K6 hK6=>(aP (aC (fun K7 hK7=>(aB (aE aA 2 rfl ?_))))))))
   refine aH rfl (bG rfl rfl mP iU (by first | exact ixm (by omega) | assumption | exact⟨by decide,rfl⟩)) ?_
   refine aE aA 1 rfl (bY hf rfl aCj rfl iU rfl rfl rfl rfl (lf rfl) (aD (hK7 _ (aC (fun K8 hK8=>(aC (fun K9 hK9=>(aB (aE aA 6 rfl (aU rfl rfl rfl (fun hg2=>?_) (fun hg2=>?_)))))))))))
   ·
    simp only[bs] at hg2
    refine aH rfl (bM rfl aL1 cU rfl) ?_
    refine aE aA 1 rfl (aX rfl rfl rfl (aI hf rfl (aK rfl rfl lP rfl (Nm.refRight_den _ (by first | assumption | exact(ht _ (List.getElem_mem _)).1 | exact(ht _ (List.getElem_mem _)).2))) ?_))
    refine aE aA 3 rfl (aU rfl rfl rfl (fun hg3=>?_) (fun hg3=>?_))
    ·
     simp only[bs] at hg3
     refine aH rfl (bM rfl aBh cU rfl) ?_
     refine aE aA 1 rfl (aX rfl rfl rfl (aI hf rfl (aK rfl rfl lP rfl (Nm.refRight_den _ (by first | assumption | exact(ht _ (List.getElem_mem _)).1 | exact(ht _ (List.getElem_mem _)).2))) ?_))
     refine aE aA 2 rfl (aD (hK9 _ (aL rfl (fun hc4=>?_) (fun hc4=>?_))))
     ·
      simp only[bs] at hc4
      refine aC (fun K10 hK10=>(aB (aE aA 1 rfl (aD (hK10 _ (aJ ?_))))))
      refine⟨_,rfl,?_⟩
      refine aO ?_
      rw[fM h2 (by omega) (aNh (by first | exact .inl (by omega) | exact .inr (.inl (by assumption)) | exact .inr (.inr (.inl (by assumption))) | exact .inr (.inr (.inr (by assumption))) | (simp_all; done)))]
     ·
      simp only[bs] at hc4
      refine aN (hK8 _ (aC (fun K11 hK11=>(aC (fun K12 hK12=>(aB (aE aA 2 rfl (aD (hK12 _ (aL rfl (fun hc5=>?_) (fun hc5=>?_)))))))))))
      ·
       simp only[bs] at hc5
       refine bF (hK6 _ (aB (aE aA 1 rfl ?_)))
       refine aH rfl (bO rfl rfl (by omega) (by omega)) ?_
       refine aE aA 1 rfl (aD ?_)
       exact⟨k+1,⟨by omega,gF h2 (by omega) (aF6 (by omega) (by simp_all) (by simp_all)) (fun h0=>qL.2 ⟨by omega,fun e=>by first | omega | exact absurd e (by assumption) | exact absurd e (zK (by assumption)) | exact absurd e (zJ (by assumption))⟩)⟩,by omega,cQ rfl⟩
      ·
       simp only[bs] at hc5
       refine aN (hK11 _ (aC (fun K13 hK13=>(cP hf bE (by kernel_rfl) rfl (aV aA 2 rfl ?_)))))
       refine bQ [(35,_)] rfl rfl ⟨⟨rfl,rfl⟩,trivial⟩ rfl (eZ rfl rfl (by omega) (by omega)) ?_
       refine bQ [(34,_),(36,_)] rfl rfl ⟨⟨rfl,rfl⟩,⟨rfl,rfl⟩,trivial⟩ rfl (bG rfl rfl mP iU (hY (k:=k - 1) (by omega) (by omega))) (aV aA 2 rfl (bJ [(38,_),(39,_)] rfl rfl ⟨⟨rfl,rfl⟩,⟨rfl,rfl⟩,trivial⟩ rfl (aK rfl rfl aSe rfl (aR4 _ _ (ht _ (List.getElem_mem _)).1 (ht _ (List.getElem_mem _)).2 (ht _ (List.getElem_mem _)).1 (ht _ (List.getElem_mem _)).2)) (aV aA 2 rfl (fC 42 false rfl (fun hg6=>?_) (fun hg6=>?_)))))
       ·
        simp only[bs] at hg6
        refine aV aA 2 rfl ?_
        refine bQ [(44,_)] rfl rfl ⟨⟨rfl,rfl⟩,trivial⟩ rfl (eZ rfl rfl (by omega) (by omega)) ?_
        refine bQ [(43,_),(45,_)] rfl rfl ⟨⟨rfl,rfl⟩,⟨rfl,rfl⟩,trivial⟩ rfl (bG rfl rfl mP iU (hY (k:=k - 1) (by omega) (by omega))) (aV aA 6 rfl (fC 52 true rfl (fun hg7=>?_) (fun hg7=>?_)))
        ·
         simp only[bs] at hg7
         refine aV aA 2 rfl ?_
         refine bQ [(54,_)] rfl rfl ⟨⟨rfl,rfl⟩,trivial⟩ rfl (eZ rfl rfl (by omega) (by omega)) ?_
         refine bQ [(53,_),(55,_)] rfl rfl ⟨⟨rfl,rfl⟩,⟨rfl,rfl⟩,trivial⟩ rfl (bG rfl rfl mP iU (hY (k:=k - 1) (by omega) (by omega))) (aV aA 7 rfl (fC 63 true rfl (fun hg8=>?_) (fun hg8=>?_)))
         ·
          simp only[bs] at hg8
          refine aV aA 2 rfl ?_
          refine bQ [(65,_)] rfl rfl ⟨⟨rfl,rfl⟩,trivial⟩ rfl (eZ rfl rfl (by omega) (by omega)) ?_
          refine bQ [(64,_),(66,_)] rfl rfl ⟨⟨rfl,rfl⟩,⟨rfl,rfl⟩,trivial⟩ rfl (bG rfl rfl mP iU (hY (k:=k - 1) (by omega) (by omega))) (aV aA 7 rfl (cT [0,3,74] rfl rfl rfl (hK13 _ (aL rfl (fun hc9=>?_) (fun hc9=>?_)))))
          ·
           simp only[bs] at hc9
           refine aC (fun K14 hK14=>(aB (aE aA 1 rfl (aD (hK14 _ (aJ ?_))))))
           refine⟨_,rfl,?_⟩
           refine aO ?_
           rw[fV h2 (by omega) (by omega) (aEt (by first | exact .inl (by omega) | exact .inr ⟨by first | assumption | exact aKq (by assumption) (by assumption),by omega⟩))]
          ·
           simp only[bs] at hc9
           refine aN (hK6 _ (aB (aE aA 1 rfl ?_)))
           refine aH rfl (bO rfl rfl (by omega) (by omega)) ?_
           refine aE aA 1 rfl (aD ?_)
           exact⟨k+1,⟨by omega,gF h2 (by omega) (aF6 (by omega) (by simp_all) (by simp_all)) (fun h0=>qL.2 ⟨by omega,fun e=>by first | omega | exact absurd e (by assumption) | exact absurd e (zK (by assumption)) | exact absurd e (zJ (by assumption))⟩)⟩,by omega,cQ rfl⟩
         ·
          simp only[bs] at hg8
          refine aV aA 11 rfl (cT [0,3,74] rfl rfl rfl (hK13 _ (bW rfl (aN (hK6 _ (aB (aE aA 1 rfl ?_)))))))
          refine aH rfl (bO rfl rfl (by omega) (by omega)) ?_
          refine aE aA 1 rfl (aD ?_)
          exact⟨k+1,⟨by omega,gF h2 (by omega) (aF6 (by omega) (by simp_all) (by simp_all)) (fun h0=>qL.2 ⟨by omega,fun e=>by first | omega | exact absurd e (by assumption) | exact absurd e (zK (by assumption)) | exact absurd e (zJ (by assumption))⟩)⟩,by omega,cQ rfl⟩
        ·
         simp only[bs] at hg7
         refine aV aA 22 rfl (cT [0,3,74] rfl rfl rfl (hK13 _ (bW rfl (aN (hK6 _ (aB (aE aA 1 rfl ?_)))))))
         refine aH rfl (bO rfl rfl (by omega) (by omega)) ?_
         refine aE aA 1 rfl (aD ?_)
         exact⟨k+1,⟨by omega,gF h2 (by omega) (aF6 (by omega) (by simp_all) (by simp_all)) (fun h0=>qL.2 ⟨by omega,fun e=>by first | omega | exact absurd e (by assumption) | exact absurd e (zK (by assumption)) | exact absurd e (zJ (by assumption))⟩)⟩,by omega,cQ rfl⟩
       ·
        simp only[bs] at hg6
        refine aV aA 10 rfl (aZ rfl rfl ?_)
        refine aZ rfl rfl ?_
        refine aZ rfl rfl ?_
        refine aZ rfl rfl ?_
        refine aZ rfl rfl ?_
        refine aZ rfl rfl ?_
        refine aZ rfl rfl ?_
        refine aZ rfl rfl ?_
        refine aZ rfl rfl ?_
        refine aV aA 2 rfl (aZ rfl rfl ?_)
        refine aZ rfl rfl ?_
        refine aZ rfl rfl ?_
        refine aZ rfl rfl ?_
        refine aZ rfl rfl ?_
        refine aZ rfl rfl ?_
        refine aZ rfl rfl ?_
        refine aZ rfl rfl ?_
        refine aZ rfl rfl ?_
        refine aV aA 2 rfl (cT [0,3,74] rfl rfl rfl (hK13 _ (bN rfl (aC (fun K15 hK15=>(aB (aE aA 1 rfl (aD (hK15 _ (aJ ?_))))))))))
        refine⟨_,rfl,?_⟩
        refine aO ?_
        rw[fV h2 (by omega) (by omega) (aEt (by first | exact .inl (by omega) | exact .inr ⟨by first | assumption | exact aKq (by assumption) (by assumption),by omega⟩))]
    ·
     simp only[bs] at hg3
     refine aE aA 4 rfl (aD (hK9 _ (bN rfl (aC (fun K16 hK16=>(aB (aE aA 1 rfl (aD (hK16 _ (aJ ?_))))))))))
     refine⟨_,rfl,?_⟩
     refine aO ?_
     rw[fM h2 (by omega) (aNh (by first | exact .inl (by omega) | exact .inr (.inl (by assumption)) | exact .inr (.inr (.inl (by assumption))) | exact .inr (.inr (.inr (by assumption))) | (simp_all; done)))]
   ·
    simp only[bs] at hg2
    refine aE aA 10 rfl (aD (hK9 _ (bN rfl (aC (fun K17 hK17=>(aB (aE aA 1 rfl (aD (hK17 _ (aJ ?_))))))))))
    refine⟨_,rfl,?_⟩
    refine aO ?_
    rw[fM h2 (by omega) (aNh (by first | exact .inl (by omega) | exact .inr (.inl (by assumption)) | exact .inr (.inr (.inl (by assumption))) | exact .inr (.inr (.inr (by assumption))) | (simp_all; done)))]
  ·
   simp only[bs] at hc1
   refine bF (hK2 _ (aC (fun K18 hK18=>(aB (aE aA 1 rfl (aD (hK18 _ (aJ ?_))))))))
   refine⟨_,rfl,?_⟩
   refine aO ?_
   rw[pP h2 (by omega)]
theorem nB (l:List En) (hl:l.length*48+48≤140737488355328) :Den Tryz.prog 46 [.sl 4 (l.map enC)]  (·=.sl 4 (l.map enC)):=by
 refine aR Tryz.func46 rfl (Nat.le_of_ble_eq_true rfl) (fun w0 A hf=>(aC (fun K1 hK1=>(aB (aH rfl (bK) (aD (hK1 _ (aC (fun K2 hK2=>(aB (mC hf 4 rfl rfl rfl (aD (hK2 _ (aC (fun K3 hK3=>(aC (fun K4 hK4=>?_)))))))))))))))))
 refine aB (aE aA 3 rfl (aD (hK4 _ (aP (bT (ι:=Nat) (fun k=>⟨26,[(3,.own 3 4 0 (l.take k).length),(6,.sl 4 (l.map enC)),(7,.s (.int .i64 ((l.map enC).length:Nat))),(8,.s (.int .i64 (k:Nat)))],[(3,.buf 4 ((l.take k).map enC))]⟩) (fun k=>k≤l.length) (fun k=>l.length - k) 0 ?_ ?_ ?_)))))
 · exact Nat.zero_le _
 · exact cQ rfl
 ·
  rintro k hC
  refine aC (fun K5 hK5=>(aB (aE aA 1 rfl (aD (hK5 _ (aC (fun K6 hK6=>(aL rfl (fun hc1=>?_) (fun hc1=>?_)))))))))
  ·
   simp only[bs] at hc1
   refine aN (hK6 _ (aC (fun K7 hK7=>(aP (aC (fun K8 hK8=>(aB ?_)))))))
   refine aH rfl (bG rfl rfl mP iU (by first | exact ixm (by omega) | assumption | exact⟨by decide,rfl⟩)) ?_
   refine aE aA 1 rfl (bY hf rfl aCj rfl iU rfl rfl rfl rfl (lf rfl) (aD (hK8 _ (aB ?_))))
   have htl:(l.take k).length=k:=by rw[List.length_take]; omega
   refine aE aA 9 rfl (aI hf rfl (aK rfl rfl aSb rfl (one_den _ _ _ _)) (aI hf rfl (aS lA rfl rfl rfl rfl (l2 rfl)) (bH hf rfl lA rfl rfl rfl (.inl rfl) (by rw[List.length_map]) rfl (by first | rfl | simp [eK,bL]) (by first | (simp only[maxLen,List.length_map,List.length_append,List.length_cons,List.length_nil]; omega) | (simp [maxLen] <;> omega)) (by first | (simp only[List.length_map,List.length_append,List.length_cons,List.length_nil]; omega) | (simp <;> omega)) ?_)))
   refine bD (cX [6,7,8,23] rfl) (aE aA 1 rfl ?_)
   refine bS ?_
   refine hK7 _ (aB ?_)
   refine aH rfl (bO rfl rfl (by omega) (by omega)) ?_
   refine aE aA 1 rfl (aD ?_)
   exact⟨k+1,by omega,by omega,cJ ⟨(by rw[tC l k (by omega)]; rfl),rfl,rfl,rfl,trivial⟩ (by rw[rD l enC k (by omega)]; rfl)⟩
  ·
   simp only[bs] at hc1
   refine bF (hK3 _ (aC (fun K9 hK9=>(aB (aE aA 2 rfl (aD (hK9 _ (aJ ?_))))))))
   refine⟨_,rfl,?_⟩
   refine(cI (g:=3) rfl (by rw[List.length_map])).trans ?_
   rw[List.take_of_length_le (by omega)]
end Go.Proofs.YtpkanhklapfajaaGreat
set_option linter.unusedVariables false
set_option linter.unusedSimpArgs false
namespace Go.Abs
open Go
section
variable {α:Type} {key:α→ByteArray}
variable {u:ByteArray} {y:α} {l:List α} {k:Nat}
end
structure TsS (s:Sta):Prop where
  o:∀ e∈s.opn,TS e.1.2
  u:∀ x∈s.usr,TS x.1
  b:∀ e∈s.sub,TS e.1.1∧TS e.1.2
  t:∀ x∈s.tmb,TS x.1
theorem gC {s:Sta} (h:RightP s→False):false=gY s:=by
  cases e:gY s with
  | false=>rfl
  | true=>exact(h (jV.1 e)).elim
theorem aUr {s:Sta} (h:RightP s):true=gY s:=(jV.2 h).symm
theorem aTo {α:Type} {key:α→ByteArray} {l:List α} (h:dL key l) {k:Nat} (h0:0<k) (hk:k<l.length):eR (key (l[k - 1]'(by omega))) (key l[k])<0 :=
  List.pairwise_iff_getElem.1 h (k - 1) k (by omega) hk (by omega)
theorem aTn {α:Type} {key:α→ByteArray}:∀ {l:List α},(∀ (k:Nat) (h0:0<k) (hk:k<l.length),eR (key (l[k - 1]'(by omega))) (key l[k])<0)→dL key l
  | [],_=>List.Pairwise.nil
  | [x],_=>List.pairwise_singleton _ _
  | x::y::l,h=>by
    have ih:dL key (y::l):=aTn fun k h0 hk=>by
      have:=h (k+1) (by omega) (by simp only[List.length_cons] at hk ⊢; omega)
      obtain ⟨j,rfl⟩:∃ j,k=j+1:=⟨k - 1,by omega⟩
      simpa using this
    have h1:eR (key x) (key y)<0:=by have:=h 1 (by omega) (by simp); simpa using this
    refine List.pairwise_cons.2 ⟨fun z hz=>?_,ih⟩
    rcases List.mem_cons.1 hz with rfl | hz
    · exact h1
    · exact iQ h1 ((List.pairwise_cons.1 ih).1 z hz)
theorem aG5 {α:Type} {p:α→Prop} {l:List α} {k:Nat} (hk:l.length≤k) (h:∀ (j:Nat) (hj:j<l.length),j<k→p l[j]):∀ x∈l,p x:=fun x hx=>by
  obtain ⟨j,hj,rfl⟩:=List.getElem_of_mem hx
  exact h j hj (by omega)
theorem oO {n:Nat} {p:(j:Nat)→j<n→Prop} {k:Nat} (h:∀ (j:Nat) (hj:j<n),j<k→p j hj) (hk:k<n) (hp:p k hk):∀ (j:Nat) (hj:j<n),j<k+1→p j hj:=fun j hj hjk=>by
  by_cases e:j=k
  · subst e; exact hp
  · exact h j hj (by omega)
end Go.Abs
set_option linter.unusedVariables false
set_option linter.unusedSimpArgs false
namespace Go.Abs
open Go
theorem oR {h:Int} {l:List Us} {x:Us}:x∈jM h l↔∃ y∈l,gM h y.2≠[]∧x=(y.1,gM h y.2):=by
  unfold jM
  rw[List.mem_flatMap]
  constructor
  · rintro ⟨y,hy,hx⟩
    unfold nO at hx
    split at hx
    · cases hx
    · rename_i hne; exact⟨y,hy,hne,List.mem_singleton.1 hx⟩
  · rintro ⟨y,hy,hne,rfl⟩
    exact⟨y,hy,by rw[nO,if_neg hne]; simp⟩
theorem aBu {h:Int}:∀ {l:List Us},dL cM l→dL cM (jM h l)
  | [],_=>List.Pairwise.nil
  | x::l,hr=>by
    obtain ⟨h1,h2⟩:=List.pairwise_cons.1 hr
    have ih:dL cM (jM h l):=aBu h2
    show dL cM (nO x.1 (gM h x.2)++jM h l)
    unfold nO
    split
    · exact ih
    · refine List.pairwise_cons.2 ⟨fun y hy=>?_,ih⟩
      obtain ⟨z,hz,_,rfl⟩:=oR.1 hy
      exact h1 z hz
theorem aJc {l:List Us} {u:ByteArray} (h:∀ x∈l,x.1≠u):ofU l u=[]:=pT (by rw[jF,List.any_eq_false]; intro x hx; simpa [isK] using h x hx)
theorem ofU_or {l:List Us} (h:dL cM l) (u:ByteArray):(u,ofU l u)∈l∨(ofU l u=[]∧∀ x∈l,x.1≠u):=by
  by_cases hh:jF cM l u=true
  · obtain ⟨hk,e⟩:=aBz h hh
    exact .inl (e ▸ List.getElem_mem hk)
  · have hf:=Bool.eq_false_iff.2 hh
    refine .inr ⟨pT hf,fun x hx=>?_⟩
    rw[jF,List.any_eq_false] at hf
    simpa [isK] using hf x hx
theorem aR6 (h:Int):gM h []=[]:=rfl
theorem aW4 {h:Int} {l:List Us} (hr:dL cM l) (u:ByteArray):ofU (jM h l) u=gM h (ofU l u):=by
  rcases ofU_or hr u with h1 | ⟨h1,h2⟩
  · by_cases hne:gM h (ofU l u)=[]
    · rw[hne]
      refine aJc fun x hx e=>?_
      obtain ⟨y,hy,hy2,rfl⟩:=oR.1 hx
      have e:y.1=u:=e
      have:=aEq hr hy
      rw[e] at this
      rw[this] at hne
      exact hy2 hne
    · have:(u,gM h (ofU l u))∈jM h l:=oR.2 ⟨_,h1,hne,rfl⟩
      exact aEq (aBu hr) this
  · rw[h1,aR6]
    refine aJc fun x hx=>?_
    obtain ⟨y,hy,_,rfl⟩:=oR.1 hx
    exact h2 y hy
def NeU (l:List Us):Prop:=∀ x∈l,x.2≠[]
theorem set_ne {l:List Us} {u:ByteArray} {ys:List bI} (h:NeU l):NeU (uE l u ys):=fun x hx=>by
  rcases nS.1 hx with hx | hx
  · exact h x hx.1
  · unfold nO at hx
    split at hx
    · cases hx
    · rename_i hne; rw[List.mem_singleton.1 hx]; exact hne
theorem add_ne {l:List Us} {u:ByteArray} {x:bI} (h:NeU l):NeU (oM l u x):=by
  unfold oM; split
  · exact h
  · exact set_ne h
theorem addU_of {l:List Us} (h:dL cM l) {u v:ByteArray} {x:bI}:ofU (oM l u x) v=if v=u then iL (ofU l u) x else ofU l v:=by
  unfold oM iL
  split
  · split
    · rename_i hv; rw[hv]
    · rfl
  · rw[aTm h]
theorem aOv {l:List bI} {x:bI} (h:Srt jG l):Srt jG (iL l x):=by
  unfold iL; split
  · exact h
  · exact rP h
structure GoU (l:List Us):Prop where
  r:dL cM l
  s:∀ u,Srt jG (ofU l u)
  n:NeU l
theorem GoU.add {l:List Us} {u:ByteArray} {x:bI} (h:GoU l):GoU (oM l u x):=⟨aYe h.r,fun v=>by
  rw[addU_of h.r]; split
  · exact aOv (h.s u)
  · exact h.s v,add_ne h.n⟩
def aRc (h:Int) (e:En):Bool:=!decide (e.2.2≤h)
theorem aI8 (s:Sta):mF s=⟨s.now,s.hor,s.opn,jM s.hor s.usr,s.sub.filter (aRc s.hor),s.tmb⟩:=rfl
theorem aG6 {h:Int} {l:List bI} {x:bI}:x∈gM h l↔x∈l∧¬ x.1.2≤h:=by simp [gM]
theorem aCy {s:Sta} (h:RightP s):RightP (mF s):=by
  refine⟨h.n0,h.n1,h.h0,h.h1,h.opn,h.late,fun x hx=>?_,aBu h.usr,fun x hx=>?_,aCr _ h.sub,fun e he=>h.sok e (List.mem_filter.1 he).1,h.tnm,h.tmb,h.tok⟩
  · obtain ⟨y,hy,_,rfl⟩:=oR.1 hx
    exact h.unm y hy
  · obtain ⟨y,hy,hne,rfl⟩:=oR.1 hx
    obtain ⟨a1,a2,a3⟩:=nX.1 (h.uok y hy)
    refine nX.2 ⟨hne,?_,fun z hz=>a3 z (aG6.1 hz).1⟩
    obtain ⟨r1,r2⟩:=(pQ _).1 a2
    exact(pQ _).2 ⟨fun z hz=>r1 z (aG6.1 hz).1,r2.filter _⟩
theorem aR0 (a b:List Us):hP (a++b)=hP a+hP b:=by simp [hP]
theorem aRz (u:ByteArray) (ys:List bI):hP (nO u ys)=ys.length:=by
  unfold nO; split
  · rename_i h; rw[h]; rfl
  · simp [hP]
theorem aBb (h:Int):∀ l:List Us,hP (jM h l)≤hP l
  | []=>Nat.le_refl _
  | x::l=>by
    show hP (nO x.1 (gM h x.2)++jM h l)≤_
    rw[aR0,aRz]
    have ih:=aBb h l
    have:=List.length_filter_le (fun x:bI=>!decide (x.1.2≤h)) x.2
    have e:hP (x::l)=x.2.length+hP l:=by simp [hP]
    unfold gM
    omega
theorem aOg (s:Sta):dZ (mF s)≤dZ s:=by
  have:=aBb s.hor s.usr
  have:=List.length_filter_le (aRc s.hor) s.sub
  rw[aI8]
  simp only[dZ]
  omega
theorem aX8 {s:Sta} {e:Ev} (h0:(bP s e).2=0):cK e=true∧s.now≤e.at'∧(bU s e).2=0∧(bP s e).1={ (bU s e).1 with now:=e.at' }:=by
  unfold bP at h0 ⊢
  split at h0
  · rename_i he
    split at h0
    · simp at h0
    · rename_i ht
      split at h0
      · rename_i h2
        rw[if_pos he,if_neg ht,if_pos h2]
        exact⟨he,Int.not_lt.1 ht,h2,rfl⟩
      · rename_i h2; exact absurd h0 h2
  · simp at h0
theorem raw_not {pre post:List Se} {e:Se} {v:ByteArray} {t:Int} (h:e.1.2≠v):eT (pre++e::post) v t=eT (pre++post) v t:=by
  simp only[eT,List.flatMap_append,List.flatMap_cons]
  rw[if_neg (by rintro ⟨h1,_⟩; simp [qQ] at h1; exact h h1)]
  rfl
theorem aFx {u v:ByteArray} {t:Int}:∀ l:List Se,eT (l.filter fun e=>!qQ u e) v t=if v=u then [] else eT l v t
  | []=>by split <;> rfl
  | e::l=>by
    have ih:=aFx (u:=u) (v:=v) (t:=t) l
    by_cases he:qQ u e=true
    · rw[List.filter_cons_of_neg (by simp [he]),ih]
      split
      · rfl
      · rename_i hv
        have:e.1.2≠v:=fun e'=>hv (by simp [qQ] at he; rw[← e',he])
        exact(raw_not (pre:=[]) this).symm
    · rw[List.filter_cons_of_pos (by simp [he])]
      show (if qQ v e=true∧¬ t≤e.2.2 then [fY e t] else [])++eT _ v t=_
      rw[ih]
      by_cases hv:v=u
      · subst hv; rw[if_pos rfl,if_pos rfl,if_neg (fun h=>he h.1)]; rfl
      · rw[if_neg hv,if_neg hv]; rfl
theorem aC5 {s:Sta} {e:Ev} (hk:e.kind=7) (h0:(bP s e).2=0):(bP s e).1={ gI s e.user e.at' with now:=e.at' }:=by
  obtain ⟨he,_,h2,e1⟩:=aX8 h0
  rw[e1,bU,if_neg (by omega),if_neg (by omega),if_neg (by omega),if_neg (by omega),if_neg (by omega),if_neg (by omega)]
end Go.Abs
set_option linter.unusedVariables false
set_option linter.unusedSimpArgs false
namespace Go.Abs
open Go
theorem aXb {s:Sta} {x:bI} {k:Nat} (hk:k<s.opn.length) (h1:s.opn[k].1.1=x.2.1) (h2:s.opn[k].2.2<x.1.2):eO s x=false :=
  Bool.eq_false_iff.2 fun h=>by have:=(mJ.1 h).1 _ (List.getElem_mem hk) h1; omega
theorem tN {s:Sta} {x:bI} (h:¬ (0≤x.1.1∧x.1.2≤s.now∧1≤x.2.1∧x.2.1≤999∧1≤x.2.2∧x.2.2≤4)):eO s x=false :=
  Bool.eq_false_iff.2 fun h'=>h (mJ.1 h').2
theorem aUz {s:Sta} {x:bI} {i:Nat} (hi:s.opn.length≤i) (h:∀ (j:Nat) (hj:j<s.opn.length),j<i→¬ (s.opn[j].1.1=x.2.1∧s.opn[j].2.2<x.1.2)) (h2:0≤x.1.1∧x.1.2≤s.now∧1≤x.2.1∧x.2.1≤999∧1≤x.2.2∧x.2.2≤4):eO s x=true :=
  mJ.2 ⟨fun e he hn=>by
    obtain ⟨j,hj,rfl⟩:=List.getElem_of_mem he
    have:=h j hj (by omega)
    exact Int.not_lt.1 fun hl=>this ⟨hn,hl⟩,h2⟩
theorem rI {s:Sta} {x:Us} {k:Nat} (hk:k<x.2.length) (h:eO s x.2[k]=false):false=mG s x:=by
  cases e:mG s x with
  | false=>rfl
  | true=>have:=(nX.1 e).2.2 _ (List.getElem_mem hk); rw[h] at this; cases this
theorem aNg {s:Sta} {x:Us} {k:Nat} {b:Bool} (hk:x.2.length≤k) (h:∀ (j:Nat) (hj:j<x.2.length),j<k→eO s x.2[j]=true) (hb:b=(decide (0<x.2.length)&&vN x.2)):b=mG s x:=by
  have ha:x.2.all (eO s)=true:=List.all_eq_true.2 fun y hy=>by
    obtain ⟨j,hj,rfl⟩:=List.getElem_of_mem hy
    exact h j hj (by omega)
  rw[hb,mG,ha,Bool.and_true]
  congr 1
  cases x.2 <;> simp
def RisUp {α:Type} (key:α→ByteArray) (q:α→Prop) (l:List α) (k:Nat):Prop:=∀ (j:Nat) (hj:j<l.length),j<k→(cF (key l[j])=true∧q l[j]∧∀ h0:0<j,eR (key (l[j - 1]'(by omega))) (key l[j])<0)
theorem RisUp.zero {α:Type} {key:α→ByteArray} {q:α→Prop} {l:List α}:RisUp key q l 0:=fun j hj h=>absurd h (Nat.not_lt_zero _)
theorem RisUp.next {α:Type} {key:α→ByteArray} {q:α→Prop} {l:List α} {k:Nat} (h:RisUp key q l k) (hk:k<l.length) (h1:cF (key l[k])=true) (h2:q l[k]) (h3:∀ h0:0<k,eR (key (l[k - 1]'(by omega))) (key l[k])<0):RisUp key q l (k+1):=oO h hk ⟨h1,h2,h3⟩
theorem RisUp.r {α:Type} {key:α→ByteArray} {q:α→Prop} {l:List α} {k:Nat} (h:RisUp key q l k) (hk:l.length≤k):dL key l:=aTn fun j h0 hj=>(h j hj (by omega)).2.2 h0
theorem RisUp.n {α:Type} {key:α→ByteArray} {q:α→Prop} {l:List α} {k:Nat} (h:RisUp key q l k) (hk:l.length≤k):∀ x∈l,cF (key x)=true:=fun x hx=>by
  obtain ⟨j,hj,rfl⟩:=List.getElem_of_mem hx
  exact(h j hj (by omega)).1
theorem RisUp.q {α:Type} {key:α→ByteArray} {q:α→Prop} {l:List α} {k:Nat} (h:RisUp key q l k) (hk:l.length≤k):∀ x∈l,q x:=fun x hx=>by
  obtain ⟨j,hj,rfl⟩:=List.getElem_of_mem hx
  exact(h j hj (by omega)).2.1
end Go.Abs
set_option linter.unusedVariables false
namespace Go.Abs
open Go
theorem ty_ent {cs:List AV} (h:Ty (.agg [.str,.str,.int .i64,.int .i64]) cs):∃ e:En,cs=enC e∧(TS e.1.1∧TS e.1.2):=by
  simp only[Ty,TyL] at h
  obtain ⟨a,b,rfl,⟨w,rfl,hw⟩,a',b',rfl,⟨u,rfl,hu⟩,a2,b2,rfl,⟨n,rfl,_⟩,a3,b3,rfl,⟨m,rfl,_⟩,rfl⟩:=h
  exact⟨((w,u),(n,m)),rfl,Nat.le_trans hw (by decide),Nat.le_trans hu (by decide)⟩
theorem ty_ents {c:AV} (h:Ty (.sl 48 (.agg [.str,.str,.int .i64,.int .i64])) [c]):∃ l:List En,c=.sl 4 (l.map enC)∧l.length*48≤140737488351232∧∀ e∈l,TS e.1.1∧TS e.1.2:=by
  simp only[Ty] at h
  obtain ⟨xs,hx,_,hl,hxs⟩:=h
  obtain ⟨l,rfl,hr⟩:=xO enC (fun e=>TS e.1.1∧TS e.1.2) (d:=.agg [.str,.str,.int .i64,.int .i64]) (fun cs h=>ty_ent h) (xs:=xs) (fun x hx=>by simp only[Ty]; exact hxs x hx)
  simp only[List.cons.injEq,and_true] at hx
  exact⟨l,hx,by simpa using hl,hr⟩
end Go.Abs
set_option linter.unusedVariables false
set_option linter.unusedSimpArgs false
namespace Go.Abs
open Go
theorem aKg (n:Nat):SzS n uD:=⟨by simp [uD],by simp [uD],by simp [uD],by simp [uD],by simp [uD]⟩
theorem nowSz {n:Nat} {s:Sta} {t:Int} (h:SzS n s):SzS n { s with now:=t }:=⟨h.o,h.u,h.b,h.t,h.y⟩
theorem doesSz {n m:Nat} {s:Sta} {e:Ev} (hz:SzS n s) (hr:dL cM s.usr) (he:cK e=true) (hm:n+48≤m):SzS m (bU s e).1:=by
  have z1:=hz.o
  have z2:=hz.u
  have z3:=hz.b
  have z4:=hz.t
  rcases aGq he with ⟨hk,_⟩ | ⟨hk,_⟩ | ⟨hk,_⟩ | ⟨hk,_⟩ | ⟨hk,_⟩ | ⟨hk,_⟩ | ⟨hk,_⟩
  · rw[bU,if_pos hk]
    have:=aNf s.opn ((e.n,e.user),(e.st,e.at'))
    exact⟨by show (rZ s.opn ((e.n,e.user),(e.st,e.at'))).length*40≤m; omega,Nat.le_trans z2 (by omega),Nat.le_trans z3 (by omega),Nat.le_trans z4 (by omega),fun x hx=>Nat.le_trans (hz.y x hx) (by omega)⟩
  · rw[bU,if_neg (by omega),if_pos hk]
    have:=aOo s.opn e.n e.user e.st e.at'
    exact addSz (n:=n) (s:={ s with opn:=sC s.opn e.n e.user e.st e.at' }) (u:=e.user) (x:=stR s.opn e.n e.user e.at') ⟨by show (sC s.opn e.n e.user e.st e.at').length*40≤n; omega,z2,z3,z4,hz.y⟩ hr (by omega)
  · rw[bU,if_neg (by omega),if_neg (by omega),if_pos hk]
    have:=aOk s.opn e.n e.user
    exact addSz (n:=n) (s:={ s with opn:=sB s.opn e.n e.user }) (u:=e.user) (x:=stR s.opn e.n e.user e.at') ⟨by show (sB s.opn e.n e.user).length*40≤n; omega,z2,z3,z4,hz.y⟩ hr (by omega)
  · rw[bU,if_neg (by omega),if_neg (by omega),if_neg (by omega),if_pos hk]
    have:=aNr s.sub (e.user,e.other) e.at'
    exact⟨Nat.le_trans z1 (by omega),Nat.le_trans z2 (by omega),by show (if onB s.sub (e.user,e.other)=true then [] else lC s.sub (e.user,e.other) e.at').length*48≤m; omega,Nat.le_trans z4 (by omega),fun x hx=>Nat.le_trans (hz.y x hx) (by omega)⟩
  · rw[bU,if_neg (by omega),if_neg (by omega),if_neg (by omega),if_neg (by omega),if_pos hk]
    have:=aNq s.sub (e.user,e.other) e.at'
    exact⟨Nat.le_trans z1 (by omega),Nat.le_trans z2 (by omega),by show (if onB s.sub (e.user,e.other)=true then mH s.sub (e.user,e.other) e.at' else []).length*48≤m; omega,Nat.le_trans z4 (by omega),fun x hx=>Nat.le_trans (hz.y x hx) (by omega)⟩
  · rw[bU,if_neg (by omega),if_neg (by omega),if_neg (by omega),if_neg (by omega),if_neg (by omega),if_pos hk]
    exact⟨Nat.le_trans z1 (by omega),Nat.le_trans z2 (by omega),Nat.le_trans z3 (by omega),Nat.le_trans z4 (by omega),fun x hx=>Nat.le_trans (hz.y x hx) (by omega)⟩
  · rw[bU,if_neg (by omega),if_neg (by omega),if_neg (by omega),if_neg (by omega),if_neg (by omega),if_neg (by omega)]
    exact erSz hz hr (by omega)
theorem aLt {n m:Nat} {s:Sta} {e:Ev} (hz:SzS n s) (hr:dL cM s.usr) (hm:n+48≤m):SzS m (bP s e).1:=by
  unfold bP
  split
  · rename_i he
    split
    · exact aKg m
    · split
      · exact nowSz (doesSz hz hr he hm)
      · exact aKg m
  · exact aKg m
theorem pruneSz {n:Nat} {s:Sta} (hz:SzS n s):SzS n (mF s):=by
  have z2:=hz.u
  have z3:=hz.b
  have h1:=zG s.hor s.usr
  have h2:=List.length_filter_le (aRc s.hor) s.sub
  rw[aI8]
  refine⟨hz.o,by show (jM s.hor s.usr).length*40≤n; omega,by show (s.sub.filter (aRc s.hor)).length*48≤n; omega,hz.t,fun x hx=>?_⟩
  obtain ⟨y,hy,_,rfl⟩:=oR.1 hx
  have:=hz.y y hy
  have h3:=List.length_filter_le (fun x:bI=>!decide (x.1.2≤s.hor)) y.2
  show (gM s.hor y.2).length*32≤n
  unfold gM
  omega
theorem aLr {s:Sta} (h:RightP s) (e:Ev):RightP (bP s e).1:=by
  by_cases h0:(bP s e).2=0
  · exact wY h h0
  · have:(bP s e).1=uD:=by
      unfold bP at h0 ⊢
      split
      · rename_i he
        rw[if_pos he] at h0
        split
        · rfl
        · rename_i ht
          rw[if_neg ht] at h0
          split
          · rename_i h2; rw[if_pos h2] at h0; exact absurd rfl h0
          · rfl
      · rfl
    rw[this]; exact aFb
theorem aTp {s:Sta} (h:RightP s):s.opn.length≤16:=((kS _).1 h.opn).2
theorem ty_us {cs:List AV} (h:Ty (.agg [.str,.sl 32 (.agg [.int .i64,.int .i64,.int .i64,.int .i64])]) cs):∃ x:Us,cs=usC x∧TS x.1∧x.2.length*32≤140737488351232:=by
  simp only[Ty] at h
  rw[TyL] at h
  obtain ⟨x,y,rfl,h1,h2⟩:=h
  rw[TyL] at h2
  obtain ⟨z,w,rfl,h3,h4⟩:=h2
  have e1:=aBk h1
  have e2:=aBk h3
  simp only[TyL] at h4
  subst h4
  match x,e1,z,e2 with
  | [c],_,[d],_ =>
    obtain ⟨a,rfl,ha⟩:=aWk h1
    obtain ⟨l,rfl,hl⟩:=ty_sts h3
    exact⟨(a,l),rfl,Nat.le_trans ha (by omega),hl⟩
theorem ty_tm {cs:List AV} (h:Ty (.agg [.str,.int .i64]) cs):∃ x:Tm,cs=tmC x∧TS x.1:=by
  simp only[Ty,TyL] at h
  obtain ⟨a,b,rfl,⟨n,rfl,hn⟩,a',b',rfl,⟨m,rfl,_⟩,rfl⟩:=h
  exact⟨(n,m),rfl,Nat.le_trans hn (by omega)⟩
theorem ty_uss {c:AV} (h:Ty (.sl 40 (.agg [.str,.sl 32 (.agg [.int .i64,.int .i64,.int .i64,.int .i64])])) [c]):∃ l:List Us,c=.sl 2 (l.map usC)∧l.length*40≤140737488351232∧∀ x∈l,TS x.1∧x.2.length*32≤140737488351232:=by
  rw[Ty] at h
  obtain ⟨xs,hx,_,hl,hxs⟩:=h
  obtain ⟨l,rfl,hr⟩:=xO usC (fun x=>TS x.1∧x.2.length*32≤140737488351232) (d:=.agg [.str,.sl 32 (.agg [.int .i64,.int .i64,.int .i64,.int .i64])]) (fun cs h=>ty_us h) (xs:=xs) (fun x hx=>hxs x hx)
  simp only[List.cons.injEq,and_true] at hx
  exact⟨l,hx,by simpa using hl,hr⟩
theorem ty_tms {c:AV} (h:Ty (.sl 24 (.agg [.str,.int .i64])) [c]):∃ l:List Tm,c=.sl 2 (l.map tmC)∧l.length*24≤140737488351232∧∀ x∈l,TS x.1:=by
  rw[Ty] at h
  obtain ⟨xs,hx,_,hl,hxs⟩:=h
  obtain ⟨l,rfl,hr⟩:=xO tmC (fun x=>TS x.1) (d:=.agg [.str,.int .i64]) (fun cs h=>ty_tm h) (xs:=xs) (fun x hx=>hxs x hx)
  simp only[List.cons.injEq,and_true] at hx
  exact⟨l,hx,by simpa using hl,hr⟩
theorem xP {d:TD} {r:List TD} {cs:List AV} (hd:d.n=1) (h:TyL (d::r) cs):∃ c b,cs=c::b∧Ty d [c]∧TyL r b:=by
  rw[TyL] at h
  obtain ⟨a,b,rfl,h1,h2⟩:=h
  have e:=aBk h1
  rw[hd] at e
  match a,e with
  | [c],_=>exact⟨c,b,rfl,h1,h2⟩
theorem aE2 {cs:List AV} (h:Ty (.agg [.int .i64,.int .i64,.sl 40 (.agg [.int .i64,.str,.int .i64,.int .i64]),.sl 40 (.agg [.str,.sl 32 (.agg [.int .i64,.int .i64,.int .i64,.int .i64])]),.sl 48 (.agg [.str,.str,.int .i64,.int .i64]),.sl 24 (.agg [.str,.int .i64])]) cs):∃ s:Sta,cs=aT s∧SzS 140737488351232 s∧TsS s:=by
  rw[Ty] at h
  obtain ⟨c1,b1,rfl,h1,r1⟩:=xP rfl h
  obtain ⟨c2,b2,rfl,h2,r2⟩:=xP rfl r1
  obtain ⟨c3,b3,rfl,h3,r3⟩:=xP rfl r2
  obtain ⟨c4,b4,rfl,h4,r4⟩:=xP rfl r3
  obtain ⟨c5,b5,rfl,h5,r5⟩:=xP rfl r4
  obtain ⟨c6,b6,rfl,h6,r6⟩:=xP rfl r5
  rw[TyL] at r6
  subst r6
  obtain ⟨n,rfl,_⟩:=aQu h1
  obtain ⟨m,rfl,_⟩:=aQu h2
  obtain ⟨o,rfl,o1,o2⟩:=ty_ses h3
  obtain ⟨u,rfl,u1,u2⟩:=ty_uss h4
  obtain ⟨b,rfl,b1,b2⟩:=ty_ents h5
  obtain ⟨t,rfl,t1,t2⟩:=ty_tms h6
  exact⟨⟨n,m,o,u,b,t⟩,rfl,⟨o1,u1,b1,t1,fun x hx=>(u2 x hx).2⟩,⟨o2,fun x hx=>(u2 x hx).1,b2,t2⟩⟩
def aTy (s:Sta):Int:=IntKind.i64.wrap (IntKind.i64.wrap ((dZ s:Nat):Int)+(s.usr.length:Nat))
end Go.Abs
set_option linter.unusedVariables false
set_option linter.unusedSimpArgs false
namespace Go.Proofs.YtpkanhklapfajaaGreat
open Go Go.Abs
theorem aU2 (s:Sta) (hz:SzS 140737488353280 s) :Den Tryz.prog 15 [.agg (aT s)]  (·=.agg (aT s)):=by
 have z1:=hz.o
 have z2:=hz.u
 have z3:=hz.b
 have z4:=hz.t
 have hlm:(s.usr.map usC).length=s.usr.length:=List.length_map _
 have hlt:(s.tmb.map tmC).length=s.tmb.length:=List.length_map _
 refine aR Tryz.func15 rfl (Nat.le_of_ble_eq_true rfl) (fun w0 A hf=>(aC (fun K1 hK1=>(aB (aI hf rfl (cE rfl rfl (lf rfl)) (aW hf rfl rfl rfl bA (aD (hK1 _ (aC (fun K2 hK2=>(eH bE ?_)))))))))))
 refine bV (listed':=#[true,false,false,false,false,false,false,false,false,false,false,false,false]) 0 rfl (by kernel_rfl) (by kernel_rfl) (by kernel_rfl) rfl (fun _ _ h=>h) (jT rfl sQ cA rfl) ?_
 refine bV (listed':=#[true,false,true,false,false,false,false,false,false,false,false,false,false]) 2 rfl (by kernel_rfl) (by kernel_rfl) (by kernel_rfl) rfl (fun _ _ h=>h) (jT rfl xC cA rfl) ?_
 refine bV (listed':=#[true,false,true,false,true,false,false,false,false,false,false,false,false]) 4 rfl (by kernel_rfl) (by kernel_rfl) (by kernel_rfl) rfl (fun _ _ h=>h) (jT rfl aDo aQr rfl) ?_
 refine bV (listed':=#[true,false,true,false,true,false,false,true,false,false,false,false,false]) 7 rfl (by kernel_rfl) (by kernel_rfl) (by kernel_rfl) rfl (fun _ _ h=>h) (jT rfl aDn aQq rfl) ?_
 refine aM 0 #[true,true,true,true,true,true,true,true,true,true,true,true,true] ⟨53,[(1,.adr (aT s)),(2,.ref 2 0 0 0),(3,.ref 3 0 0 0)],[(3,.box [.s (.int .i64 s.now),.s (.int .i64 s.hor),.sl 4 (s.opn.map seC),.s (.slice none 0 0),.sl 4 (s.sub.map enC),.s (.slice none 0 0)]),(2,.box [.s (.int .i64 0),.s (.int .i64 0),.s (.slice none 0 0),.s (.slice none 0 0),.s (.slice none 0 0),.s (.slice none 0 0)])]⟩ ?_ (fun hD0=>?_)
 ·
  refine bX (by kernel_rfl) ?_
  refine hK2 _ (aC (fun K3 hK3=>(aC (fun K4 hK4=>(aB (aDa hf 3 223 2 5 rfl rfl rfl rfl ?_))))))
  refine aDa hf 3 222 2 3 rfl rfl rfl rfl ?_
  refine aE aA 4 rfl (aD (hK4 _ (aP (bT (ι:=Nat) (fun k=>⟨53,[(1,.adr (aT s)),(2,.ref 2 0 0 0),(3,.ref 3 0 0 0),(20,.sl 2 (s.usr.map usC)),(21,.s (.int .i64 ((s.usr.map usC).length:Nat))),(22,.s (.int .i64 (k:Nat)))],[(222,.buf 2 ((s.usr.take k).map usC)),(223,.buf 2 []),(3,.box [.s (.int .i64 s.now),.s (.int .i64 s.hor),.sl 4 (s.opn.map seC),.own 222 2 0 (s.usr.take k).length,.sl 4 (s.sub.map enC),.own 223 2 0 0]),(2,.box [.s (.int .i64 0),.s (.int .i64 0),.s (.slice none 0 0),.s (.slice none 0 0),.s (.slice none 0 0),.s (.slice none 0 0)])]⟩) (fun k=>k≤s.usr.length) (fun k=>s.usr.length - k) 0 ?_ ?_ ?_))))
  · exact Nat.zero_le _
  · exact cJ ⟨rfl,rfl,rfl,rfl,rfl,rfl,trivial⟩ rfl
  ·
   rintro k hC
   refine aC (fun K5 hK5=>(aB (aE aA 1 rfl (aD (hK5 _ (aC (fun K6 hK6=>(aL rfl (fun hc1=>?_) (fun hc1=>?_)))))))))
   ·
    simp only[bs] at hc1
    refine aN (hK6 _ (aC (fun K7 hK7=>(aP (aC (fun K8 hK8=>(aB ?_)))))))
    have hk:k<s.usr.length:=by omega
    have htl:(s.usr.take k).length=k:=by rw[List.length_take]; omega
    refine aH rfl (bG rfl rfl aBi tV (by first | exact ixm (by omega) | assumption | exact⟨by decide,rfl⟩)) ?_
    refine aE aA 1 rfl (bY hf rfl aOx rfl tV rfl rfl rfl rfl (lf rfl) (aD (hK8 _ (gL hf (L:=#[true,true,true,true,true,true,true,true,true,false,false,false]) 9 3 bE (by kernel_rfl) rfl (by kernel_rfl) rfl ?_))))
    refine aV aA 6 rfl (bJ [(31,_)] rfl rfl ⟨⟨rfl,rfl⟩,trivial⟩ rfl (aK rfl rfl aS1 rfl (aU1 s.usr[k].2 (by have:=hz.y _ (List.getElem_mem hk); omega))) ?_)
    refine bQ [(29,_),(32,_)] rfl rfl ⟨⟨rfl,rfl⟩,⟨rfl,rfl⟩,trivial⟩ rfl (bR rfl oG yD (l3 rfl) rfl) (bJ [(33,_)] rfl rfl ⟨⟨rfl,rfl⟩,trivial⟩ rfl (aS iH rfl rfl rfl rfl (l2 rfl)) (rM [1,2,3,20,21,22,27,34] rfl rfl rfl ?_))
    refine aG 9 [] (by kernel_rfl) ⟨?_,trivial⟩
    ·
     refine⟨_,rfl,rfl,(ao rfl (bH hf rfl iH rfl rfl rfl (.inl rfl) (by rw[List.length_map]) rfl (by first | rfl | simp [eK,bL]) (by first | (simp only[maxLen,List.length_map,List.length_append,List.length_cons,List.length_nil]; omega) | (simp [maxLen] <;> omega)) (by first | (simp only[List.length_map,List.length_append,List.length_cons,List.length_nil]; omega) | (simp <;> omega)) ?_))⟩
     refine bD (cX [1,2,3,20,21,22,35] rfl) (aF (aG 10 [] (by kernel_rfl) ⟨?_,trivial⟩))
     ·
      refine⟨_,rfl,rfl,(ao rfl (aE aA 1 rfl (aF (aG 11 [] (by kernel_rfl) ⟨?_,trivial⟩))))⟩
      ·
       refine⟨_,rfl,rfl,(ao rfl (bB hf rfl rfl mR rfl rfl (l1 rfl) (l4 rfl) rfl (aF (bX (by kernel_rfl) ?_))))⟩
       refine hK7 _ (aB ?_)
       refine aH rfl (bO rfl rfl (by omega) (by omega)) ?_
       refine aE aA 1 rfl (aD ?_)
       exact⟨k+1,by omega,by omega,cJ ⟨rfl,rfl,rfl,rfl,rfl,rfl,trivial⟩ (by rw[rD s.usr usC k hk,tC s.usr k hk]; rfl)⟩
   ·
    simp only[bs] at hc1
    refine bF (hK3 _ (aC (fun K9 hK9=>(aC (fun K10 hK10=>(aB (aE aA 4 rfl (aD (hK10 _ (aP (bT (ι:=Nat) (fun q=>⟨53,[(2,.ref 2 0 0 0),(3,.ref 3 0 0 0),(39,.sl 2 (s.tmb.map tmC)),(40,.s (.int .i64 ((s.tmb.map tmC).length:Nat))),(41,.s (.int .i64 (q:Nat)))],[(223,.buf 2 ((s.tmb.take q).map tmC)),(222,.buf 2 (s.usr.map usC)),(3,.box [.s (.int .i64 s.now),.s (.int .i64 s.hor),.sl 4 (s.opn.map seC),.own 222 2 0 s.usr.length,.sl 4 (s.sub.map enC),.own 223 2 0 (s.tmb.take q).length]),(2,.box [.s (.int .i64 0),.s (.int .i64 0),.s (.slice none 0 0),.s (.slice none 0 0),.s (.slice none 0 0),.s (.slice none 0 0)])]⟩) (fun q=>q≤s.tmb.length) (fun q=>s.tmb.length - q) 0 ?_ ?_ ?_)))))))))))
    · exact Nat.zero_le _
    · exact aXh ⟨rfl,rfl,rfl,rfl,rfl,trivial⟩ (fun g=>by rw[List.take_of_length_le (show s.usr.length≤k by omega)]; exact aU6 (by decide))
    ·
     rintro q hC
     refine aC (fun K11 hK11=>(aB (aE aA 1 rfl (aD (hK11 _ (aC (fun K12 hK12=>(aL rfl (fun hc2=>?_) (fun hc2=>?_)))))))))
     ·
      simp only[bs] at hc2
      refine aN (hK12 _ (aC (fun K13 hK13=>(aP (aC (fun K14 hK14=>(aB ?_)))))))
      have hq:q<s.tmb.length:=by omega
      have htl:(s.tmb.take q).length=q:=by rw[List.length_take]; omega
      refine aH rfl (bG rfl rfl aHq tY (by first | exact ixm (by omega) | assumption | exact⟨by decide,rfl⟩)) ?_
      refine aE aA 1 rfl (bY hf rfl aJ1 rfl tY rfl rfl rfl rfl (lf rfl) (aD (hK14 _ (aB (aE aA 3 rfl (aI hf rfl (aS mA rfl rfl rfl rfl (l2 rfl)) (bH hf rfl mA rfl rfl rfl (.inl rfl) (by rw[List.length_map]) rfl (by first | rfl | simp [eK,bL]) (by first | (simp only[maxLen,List.length_map,List.length_append,List.length_cons,List.length_nil]; omega) | (simp [maxLen] <;> omega)) (by first | (simp only[List.length_map,List.length_append,List.length_cons,List.length_nil]; omega) | (simp <;> omega)) ?_)))))))
      refine bD (cX [2,3,39,40,41,49] rfl) (aE aA 1 rfl (bB hf rfl rfl tW rfl rfl (l1 rfl) (l4 rfl) rfl ?_))
      refine bS ?_
      refine hK13 _ (aB ?_)
      refine aH rfl (bO rfl rfl (by omega) (by omega)) ?_
      refine aE aA 1 rfl (aD ?_)
      exact⟨q+1,by omega,by omega,cJ ⟨rfl,rfl,rfl,rfl,rfl,trivial⟩ (by rw[rD s.tmb tmC q hq,tC s.tmb q hq]; rfl)⟩
     ·
      simp only[bs] at hc2
      refine bF (hK9 _ (aC (fun K15 hK15=>(aB (aH rfl (cD (cs':=[.s (.int .i64 s.now),.s (.int .i64 s.hor),.sl 4 (s.opn.map seC),.own 222 2 0 s.usr.length,.sl 4 (s.sub.map enC),.own 223 2 0 (s.tmb.take q).length]) rfl oH cG rfl rfl rfl) (bB hf rfl rfl cG rfl rfl (l1 rfl) (l4 rfl) rfl (aD (hK15 _ (aJ ?_)))))))))
      refine⟨_,rfl,?_⟩
      show AV.agg [_,_,_,AV.conv _ (.own 222 2 0 s.usr.length),_,AV.conv _ (.own 223 2 0 (s.tmb.take q).length)]=_
      rw[cI (g:=222) rfl (by rw[List.length_map]),cI (g:=223) rfl (by rw[List.length_map]),List.take_of_length_le (by omega)]; rfl
 refine aM 1 #[true,true,true,true,true,true,true,true,true,true,true,true,false] ⟨53,[(1,.adr (aT s)),(2,.ref 2 0 0 0),(3,.ref 3 0 0 0),(18,.agg [.s (.int .i64 s.now),.s (.int .i64 s.hor),.sl 4 (s.opn.map seC),.s (.slice none 0 0),.sl 4 (s.sub.map enC),.s (.slice none 0 0)])],[(3,.box [.s (.int .i64 0),.s (.int .i64 0),.s (.slice none 0 0),.s (.slice none 0 0),.s (.slice none 0 0),.s (.slice none 0 0)]),(2,.box [.s (.int .i64 0),.s (.int .i64 0),.s (.slice none 0 0),.s (.slice none 0 0),.s (.slice none 0 0),.s (.slice none 0 0)])]⟩ ?_ (fun hD1=>?_)
 ·
  refine aG 12 [] (by kernel_rfl) ⟨?_,trivial⟩
  ·
   refine⟨_,rfl,rfl,(ao rfl (bB hf rfl rfl cG rfl rfl (l1 rfl) (l4 rfl) rfl (aF (ag hD0 rfl rfl rfl))))⟩
 refine aM 2 #[true,true,true,true,true,true,true,true,true,true,true,false,false] ⟨53,[(1,.adr (aT s)),(2,.ref 2 0 0 0),(18,.agg [.s (.int .i64 s.now),.s (.int .i64 s.hor),.sl 4 (s.opn.map seC),.s (.slice none 0 0),.sl 4 (s.sub.map enC),.s (.slice none 0 0)])],[(2,.box [.s (.int .i64 0),.s (.int .i64 0),.s (.slice none 0 0),.s (.slice none 0 0),.s (.slice none 0 0),.s (.slice none 0 0)])]⟩ ?_ (fun hD2=>?_)
 ·
  refine aG 11 [] (by kernel_rfl) ⟨?_,trivial⟩
  ·
   refine⟨_,rfl,rfl,(ao rfl (aW hf rfl rfl rfl bA (aF (ag hD1 rfl rfl rfl))))⟩
 refine aM 2 #[true,true,true,true,true,true,true,true,true,true,false,true,false] ⟨53,[(1,.adr (aT s)),(2,.ref 2 0 0 0),(3,.ref 3 0 0 0),(9,.s (.int .i64 s.now)),(11,.s (.int .i64 s.hor)),(14,.sl 4 (s.opn.map seC)),(17,.sl 4 (s.sub.map enC))],[(3,.box [.s (.int .i64 0),.s (.int .i64 0),.s (.slice none 0 0),.s (.slice none 0 0),.s (.slice none 0 0),.s (.slice none 0 0)]),(2,.box [.s (.int .i64 0),.s (.int .i64 0),.s (.slice none 0 0),.s (.slice none 0 0),.s (.slice none 0 0),.s (.slice none 0 0)])]⟩ ?_ (fun hD3=>?_)
 ·
  refine aG 10 [] (by kernel_rfl) ⟨?_,trivial⟩
  ·
   refine⟨_,rfl,rfl,(ao rfl (aH rfl (bR rfl bA pA (l3 rfl) rfl) (aF (ag hD1 rfl rfl rfl))))⟩
 refine aM 3 #[true,true,true,true,true,true,true,true,true,true,false,false,false] ⟨53,[(1,.adr (aT s)),(2,.ref 2 0 0 0),(9,.s (.int .i64 s.now)),(11,.s (.int .i64 s.hor)),(14,.sl 4 (s.opn.map seC)),(17,.sl 4 (s.sub.map enC))],[(2,.box [.s (.int .i64 0),.s (.int .i64 0),.s (.slice none 0 0),.s (.slice none 0 0),.s (.slice none 0 0),.s (.slice none 0 0)])]⟩ ?_ (fun hD4=>?_)
 ·
  refine aG 10 [11] (by kernel_rfl) ⟨?_,?_,trivial⟩
  ·
   refine⟨_,rfl,rfl,(ao rfl (aH rfl (bR rfl bA pA (l3 rfl) rfl) (aF (ag hD2 rfl rfl rfl))))⟩
  ·
   refine⟨_,rfl,rfl,(ao rfl (aW hf rfl rfl rfl bA (aF (ag hD3 rfl rfl rfl))))⟩
 refine aM 3 #[true,true,true,true,true,true,true,true,true,false,false,true,false] ⟨53,[(1,.adr (aT s)),(2,.ref 2 0 0 0),(3,.ref 3 0 0 0),(9,.s (.int .i64 s.now)),(11,.s (.int .i64 s.hor)),(14,.sl 4 (s.opn.map seC)),(16,.sl 4 (s.sub.map enC))],[(3,.box [.s (.int .i64 0),.s (.int .i64 0),.s (.slice none 0 0),.s (.slice none 0 0),.s (.slice none 0 0),.s (.slice none 0 0)]),(2,.box [.s (.int .i64 0),.s (.int .i64 0),.s (.slice none 0 0),.s (.slice none 0 0),.s (.slice none 0 0),.s (.slice none 0 0)])]⟩ ?_ (fun hD5=>?_)
 ·
  refine aG 9 [] (by kernel_rfl) ⟨?_,trivial⟩
  ·
   refine⟨_,rfl,rfl,(ao rfl (aI hf rfl (aK rfl rfl lO rfl (nB s.sub (by omega))) (aF (ag hD3 rfl rfl rfl))))⟩
 refine aM 3 #[true,true,true,false,true,true,true,true,true,true,false,true,false] ⟨53,[(1,.adr (aT s)),(2,.ref 2 0 0 0),(3,.ref 3 0 0 0),(9,.s (.int .i64 s.now)),(10,.adr ((aT s).drop 1)),(14,.sl 4 (s.opn.map seC)),(17,.sl 4 (s.sub.map enC))],[(3,.box [.s (.int .i64 0),.s (.int .i64 0),.s (.slice none 0 0),.s (.slice none 0 0),.s (.slice none 0 0),.s (.slice none 0 0)]),(2,.box [.s (.int .i64 0),.s (.int .i64 0),.s (.slice none 0 0),.s (.slice none 0 0),.s (.slice none 0 0),.s (.slice none 0 0)])]⟩ ?_ (fun hD6=>?_)
 ·
  refine aG 3 [] (by kernel_rfl) ⟨?_,trivial⟩
  ·
   refine⟨_,rfl,rfl,(ao rfl (aE aA 1 rfl (aF (ag hD3 rfl rfl rfl))))⟩
 refine aM 3 #[true,false,true,true,true,true,true,true,true,true,false,true,false] ⟨53,[(1,.adr (aT s)),(2,.ref 2 0 0 0),(3,.ref 3 0 0 0),(8,.adr ((aT s).drop 0)),(11,.s (.int .i64 s.hor)),(14,.sl 4 (s.opn.map seC)),(17,.sl 4 (s.sub.map enC))],[(3,.box [.s (.int .i64 0),.s (.int .i64 0),.s (.slice none 0 0),.s (.slice none 0 0),.s (.slice none 0 0),.s (.slice none 0 0)]),(2,.box [.s (.int .i64 0),.s (.int .i64 0),.s (.slice none 0 0),.s (.slice none 0 0),.s (.slice none 0 0),.s (.slice none 0 0)])]⟩ ?_ (fun hD7=>?_)
 ·
  refine aG 1 [] (by kernel_rfl) ⟨?_,trivial⟩
  ·
   refine⟨_,rfl,rfl,(ao rfl (aE aA 1 rfl (aF (ag hD3 rfl rfl rfl))))⟩
 refine aM 4 #[true,true,true,true,true,true,true,true,true,false,false,false,false] ⟨53,[(1,.adr (aT s)),(2,.ref 2 0 0 0),(9,.s (.int .i64 s.now)),(11,.s (.int .i64 s.hor)),(14,.sl 4 (s.opn.map seC)),(16,.sl 4 (s.sub.map enC))],[(2,.box [.s (.int .i64 0),.s (.int .i64 0),.s (.slice none 0 0),.s (.slice none 0 0),.s (.slice none 0 0),.s (.slice none 0 0)])]⟩ ?_ (fun hD8=>?_)
 ·
  refine aG 9 [11] (by kernel_rfl) ⟨?_,?_,trivial⟩
  ·
   refine⟨_,rfl,rfl,(ao rfl (aI hf rfl (aK rfl rfl lO rfl (nB s.sub (by omega))) (aF (ag hD4 rfl rfl rfl))))⟩
  ·
   refine⟨_,rfl,rfl,(ao rfl (aW hf rfl rfl rfl bA (aF (ag hD5 rfl rfl rfl))))⟩
 refine aM 4 #[true,true,true,true,true,true,true,true,false,false,false,true,false] ⟨53,[(1,.adr (aT s)),(2,.ref 2 0 0 0),(3,.ref 3 0 0 0),(9,.s (.int .i64 s.now)),(11,.s (.int .i64 s.hor)),(14,.sl 4 (s.opn.map seC)),(15,.adr ((aT s).drop 4))],[(3,.box [.s (.int .i64 0),.s (.int .i64 0),.s (.slice none 0 0),.s (.slice none 0 0),.s (.slice none 0 0),.s (.slice none 0 0)]),(2,.box [.s (.int .i64 0),.s (.int .i64 0),.s (.slice none 0 0),.s (.slice none 0 0),.s (.slice none 0 0),.s (.slice none 0 0)])]⟩ ?_ (fun hD9=>?_)
 ·
  refine aG 8 [] (by kernel_rfl) ⟨?_,trivial⟩
  ·
   refine⟨_,rfl,rfl,(ao rfl (aE aA 1 rfl (aF (ag hD5 rfl rfl rfl))))⟩
 refine aM 4 #[true,true,true,true,true,true,false,true,true,false,false,true,false] ⟨53,[(1,.adr (aT s)),(2,.ref 2 0 0 0),(3,.ref 3 0 0 0),(9,.s (.int .i64 s.now)),(11,.s (.int .i64 s.hor)),(13,.sl 4 (s.opn.map seC)),(16,.sl 4 (s.sub.map enC))],[(3,.box [.s (.int .i64 0),.s (.int .i64 0),.s (.slice none 0 0),.s (.slice none 0 0),.s (.slice none 0 0),.s (.slice none 0 0)]),(2,.box [.s (.int .i64 0),.s (.int .i64 0),.s (.slice none 0 0),.s (.slice none 0 0),.s (.slice none 0 0),.s (.slice none 0 0)])]⟩ ?_ (fun hD10=>?_)
 ·
  refine aG 6 [] (by kernel_rfl) ⟨?_,trivial⟩
  ·
   refine⟨_,rfl,rfl,(ao rfl (aI hf rfl (aK rfl rfl fR rfl (fQ s.opn (by omega))) (aF (ag hD5 rfl rfl rfl))))⟩
 refine aM 4 #[true,true,true,false,true,true,true,true,true,true,false,false,false] ⟨53,[(1,.adr (aT s)),(2,.ref 2 0 0 0),(9,.s (.int .i64 s.now)),(10,.adr ((aT s).drop 1)),(14,.sl 4 (s.opn.map seC)),(17,.sl 4 (s.sub.map enC))],[(2,.box [.s (.int .i64 0),.s (.int .i64 0),.s (.slice none 0 0),.s (.slice none 0 0),.s (.slice none 0 0),.s (.slice none 0 0)])]⟩ ?_ (fun hD11=>?_)
 ·
  refine aG 3 [11] (by kernel_rfl) ⟨?_,?_,trivial⟩
  ·
   refine⟨_,rfl,rfl,(ao rfl (aE aA 1 rfl (aF (ag hD4 rfl rfl rfl))))⟩
  ·
   refine⟨_,rfl,rfl,(ao rfl (aW hf rfl rfl rfl bA (aF (ag hD6 rfl rfl rfl))))⟩
 refine aM 4 #[true,true,true,false,true,true,true,true,true,false,false,true,false] ⟨53,[(1,.adr (aT s)),(2,.ref 2 0 0 0),(3,.ref 3 0 0 0),(9,.s (.int .i64 s.now)),(10,.adr ((aT s).drop 1)),(14,.sl 4 (s.opn.map seC)),(16,.sl 4 (s.sub.map enC))],[(3,.box [.s (.int .i64 0),.s (.int .i64 0),.s (.slice none 0 0),.s (.slice none 0 0),.s (.slice none 0 0),.s (.slice none 0 0)]),(2,.box [.s (.int .i64 0),.s (.int .i64 0),.s (.slice none 0 0),.s (.slice none 0 0),.s (.slice none 0 0),.s (.slice none 0 0)])]⟩ ?_ (fun hD12=>?_)
 ·
  refine aG 3 [9] (by kernel_rfl) ⟨?_,?_,trivial⟩
  ·
   refine⟨_,rfl,rfl,(ao rfl (aE aA 1 rfl (aF (ag hD5 rfl rfl rfl))))⟩
  ·
   refine⟨_,rfl,rfl,(ao rfl (aI hf rfl (aK rfl rfl lO rfl (nB s.sub (by omega))) (aF (ag hD6 rfl rfl rfl))))⟩
 refine aM 4 #[true,false,true,true,true,true,true,true,true,true,false,false,false] ⟨53,[(1,.adr (aT s)),(2,.ref 2 0 0 0),(8,.adr ((aT s).drop 0)),(11,.s (.int .i64 s.hor)),(14,.sl 4 (s.opn.map seC)),(17,.sl 4 (s.sub.map enC))],[(2,.box [.s (.int .i64 0),.s (.int .i64 0),.s (.slice none 0 0),.s (.slice none 0 0),.s (.slice none 0 0),.s (.slice none 0 0)])]⟩ ?_ (fun hD13=>?_)
 ·
  refine aG 1 [11] (by kernel_rfl) ⟨?_,?_,trivial⟩
  ·
   refine⟨_,rfl,rfl,(ao rfl (aE aA 1 rfl (aF (ag hD4 rfl rfl rfl))))⟩
  ·
   refine⟨_,rfl,rfl,(ao rfl (aW hf rfl rfl rfl bA (aF (ag hD7 rfl rfl rfl))))⟩
 refine aM 4 #[true,false,true,true,true,true,true,true,true,false,false,true,false] ⟨53,[(1,.adr (aT s)),(2,.ref 2 0 0 0),(3,.ref 3 0 0 0),(8,.adr ((aT s).drop 0)),(11,.s (.int .i64 s.hor)),(14,.sl 4 (s.opn.map seC)),(16,.sl 4 (s.sub.map enC))],[(3,.box [.s (.int .i64 0),.s (.int .i64 0),.s (.slice none 0 0),.s (.slice none 0 0),.s (.slice none 0 0),.s (.slice none 0 0)]),(2,.box [.s (.int .i64 0),.s (.int .i64 0),.s (.slice none 0 0),.s (.slice none 0 0),.s (.slice none 0 0),.s (.slice none 0 0)])]⟩ ?_ (fun hD14=>?_)
 ·
  refine aG 1 [9] (by kernel_rfl) ⟨?_,?_,trivial⟩
  ·
   refine⟨_,rfl,rfl,(ao rfl (aE aA 1 rfl (aF (ag hD5 rfl rfl rfl))))⟩
  ·
   refine⟨_,rfl,rfl,(ao rfl (aI hf rfl (aK rfl rfl lO rfl (nB s.sub (by omega))) (aF (ag hD7 rfl rfl rfl))))⟩
 refine aM 4 #[true,false,true,false,true,true,true,true,true,true,false,true,false] ⟨53,[(1,.adr (aT s)),(2,.ref 2 0 0 0),(3,.ref 3 0 0 0),(8,.adr ((aT s).drop 0)),(10,.adr ((aT s).drop 1)),(14,.sl 4 (s.opn.map seC)),(17,.sl 4 (s.sub.map enC))],[(3,.box [.s (.int .i64 0),.s (.int .i64 0),.s (.slice none 0 0),.s (.slice none 0 0),.s (.slice none 0 0),.s (.slice none 0 0)]),(2,.box [.s (.int .i64 0),.s (.int .i64 0),.s (.slice none 0 0),.s (.slice none 0 0),.s (.slice none 0 0),.s (.slice none 0 0)])]⟩ ?_ (fun hD15=>?_)
 ·
  refine aG 1 [3] (by kernel_rfl) ⟨?_,?_,trivial⟩
  ·
   refine⟨_,rfl,rfl,(ao rfl (aE aA 1 rfl (aF (ag hD6 rfl rfl rfl))))⟩
  ·
   refine⟨_,rfl,rfl,(ao rfl (aE aA 1 rfl (aF (ag hD7 rfl rfl rfl))))⟩
 refine aM 5 #[true,true,true,true,true,true,true,true,false,false,false,false,false] ⟨53,[(1,.adr (aT s)),(2,.ref 2 0 0 0),(9,.s (.int .i64 s.now)),(11,.s (.int .i64 s.hor)),(14,.sl 4 (s.opn.map seC)),(15,.adr ((aT s).drop 4))],[(2,.box [.s (.int .i64 0),.s (.int .i64 0),.s (.slice none 0 0),.s (.slice none 0 0),.s (.slice none 0 0),.s (.slice none 0 0)])]⟩ ?_ (fun hD16=>?_)
 ·
  refine aG 8 [11] (by kernel_rfl) ⟨?_,?_,trivial⟩
  ·
   refine⟨_,rfl,rfl,(ao rfl (aE aA 1 rfl (aF (ag hD8 rfl rfl rfl))))⟩
  ·
   refine⟨_,rfl,rfl,(ao rfl (aW hf rfl rfl rfl bA (aF (ag hD9 rfl rfl rfl))))⟩
 refine aM 5 #[true,true,true,true,true,true,false,true,true,false,false,false,false] ⟨53,[(1,.adr (aT s)),(2,.ref 2 0 0 0),(9,.s (.int .i64 s.now)),(11,.s (.int .i64 s.hor)),(13,.sl 4 (s.opn.map seC)),(16,.sl 4 (s.sub.map enC))],[(2,.box [.s (.int .i64 0),.s (.int .i64 0),.s (.slice none 0 0),.s (.slice none 0 0),.s (.slice none 0 0),.s (.slice none 0 0)])]⟩ ?_ (fun hD17=>?_)
 ·
  refine aG 6 [11] (by kernel_rfl) ⟨?_,?_,trivial⟩
  ·
   refine⟨_,rfl,rfl,(ao rfl (aI hf rfl (aK rfl rfl fR rfl (fQ s.opn (by omega))) (aF (ag hD8 rfl rfl rfl))))⟩
  ·
   refine⟨_,rfl,rfl,(ao rfl (aW hf rfl rfl rfl bA (aF (ag hD10 rfl rfl rfl))))⟩
 refine aM 5 #[true,true,true,true,true,true,false,true,false,false,false,true,false] ⟨53,[(1,.adr (aT s)),(2,.ref 2 0 0 0),(3,.ref 3 0 0 0),(9,.s (.int .i64 s.now)),(11,.s (.int .i64 s.hor)),(13,.sl 4 (s.opn.map seC)),(15,.adr ((aT s).drop 4))],[(3,.box [.s (.int .i64 0),.s (.int .i64 0),.s (.slice none 0 0),.s (.slice none 0 0),.s (.slice none 0 0),.s (.slice none 0 0)]),(2,.box [.s (.int .i64 0),.s (.int .i64 0),.s (.slice none 0 0),.s (.slice none 0 0),.s (.slice none 0 0),.s (.slice none 0 0)])]⟩ ?_ (fun hD18=>?_)
 ·
  refine aG 6 [8] (by kernel_rfl) ⟨?_,?_,trivial⟩
  ·
   refine⟨_,rfl,rfl,(ao rfl (aI hf rfl (aK rfl rfl fR rfl (fQ s.opn (by omega))) (aF (ag hD9 rfl rfl rfl))))⟩
  ·
   refine⟨_,rfl,rfl,(ao rfl (aE aA 1 rfl (aF (ag hD10 rfl rfl rfl))))⟩
 refine aM 5 #[true,true,true,true,true,false,false,true,true,false,false,true,false] ⟨53,[(1,.adr (aT s)),(2,.ref 2 0 0 0),(3,.ref 3 0 0 0),(9,.s (.int .i64 s.now)),(11,.s (.int .i64 s.hor)),(12,.adr ((aT s).drop 2)),(16,.sl 4 (s.sub.map enC))],[(3,.box [.s (.int .i64 0),.s (.int .i64 0),.s (.slice none 0 0),.s (.slice none 0 0),.s (.slice none 0 0),.s (.slice none 0 0)]),(2,.box [.s (.int .i64 0),.s (.int .i64 0),.s (.slice none 0 0),.s (.slice none 0 0),.s (.slice none 0 0),.s (.slice none 0 0)])]⟩ ?_ (fun hD19=>?_)
 ·
  refine aG 5 [] (by kernel_rfl) ⟨?_,trivial⟩
  ·
   refine⟨_,rfl,rfl,(ao rfl (aE aA 1 rfl (aF (ag hD10 rfl rfl rfl))))⟩
 refine aM 5 #[true,true,true,false,true,true,true,true,true,false,false,false,false] ⟨53,[(1,.adr (aT s)),(2,.ref 2 0 0 0),(9,.s (.int .i64 s.now)),(10,.adr ((aT s).drop 1)),(14,.sl 4 (s.opn.map seC)),(16,.sl 4 (s.sub.map enC))],[(2,.box [.s (.int .i64 0),.s (.int .i64 0),.s (.slice none 0 0),.s (.slice none 0 0),.s (.slice none 0 0),.s (.slice none 0 0)])]⟩ ?_ (fun hD20=>?_)
 ·
  refine aG 3 [9,11] (by kernel_rfl) ⟨?_,?_,?_,trivial⟩
  ·
   refine⟨_,rfl,rfl,(ao rfl (aE aA 1 rfl (aF (ag hD8 rfl rfl rfl))))⟩
  ·
   refine⟨_,rfl,rfl,(ao rfl (aI hf rfl (aK rfl rfl lO rfl (nB s.sub (by omega))) (aF (ag hD11 rfl rfl rfl))))⟩
  ·
   refine⟨_,rfl,rfl,(ao rfl (aW hf rfl rfl rfl bA (aF (ag hD12 rfl rfl rfl))))⟩
 refine aM 5 #[true,true,true,false,true,true,true,true,false,false,false,true,false] ⟨53,[(1,.adr (aT s)),(2,.ref 2 0 0 0),(3,.ref 3 0 0 0),(9,.s (.int .i64 s.now)),(10,.adr ((aT s).drop 1)),(14,.sl 4 (s.opn.map seC)),(15,.adr ((aT s).drop 4))],[(3,.box [.s (.int .i64 0),.s (.int .i64 0),.s (.slice none 0 0),.s (.slice none 0 0),.s (.slice none 0 0),.s (.slice none 0 0)]),(2,.box [.s (.int .i64 0),.s (.int .i64 0),.s (.slice none 0 0),.s (.slice none 0 0),.s (.slice none 0 0),.s (.slice none 0 0)])]⟩ ?_ (fun hD21=>?_)
 ·
  refine aG 3 [8] (by kernel_rfl) ⟨?_,?_,trivial⟩
  ·
   refine⟨_,rfl,rfl,(ao rfl (aE aA 1 rfl (aF (ag hD9 rfl rfl rfl))))⟩
  ·
   refine⟨_,rfl,rfl,(ao rfl (aE aA 1 rfl (aF (ag hD12 rfl rfl rfl))))⟩
 refine aM 5 #[true,true,true,false,true,true,false,true,true,false,false,true,false] ⟨53,[(1,.adr (aT s)),(2,.ref 2 0 0 0),(3,.ref 3 0 0 0),(9,.s (.int .i64 s.now)),(10,.adr ((aT s).drop 1)),(13,.sl 4 (s.opn.map seC)),(16,.sl 4 (s.sub.map enC))],[(3,.box [.s (.int .i64 0),.s (.int .i64 0),.s (.slice none 0 0),.s (.slice none 0 0),.s (.slice none 0 0),.s (.slice none 0 0)]),(2,.box [.s (.int .i64 0),.s (.int .i64 0),.s (.slice none 0 0),.s (.slice none 0 0),.s (.slice none 0 0),.s (.slice none 0 0)])]⟩ ?_ (fun hD22=>?_)
 ·
  refine aG 3 [6] (by kernel_rfl) ⟨?_,?_,trivial⟩
  ·
   refine⟨_,rfl,rfl,(ao rfl (aE aA 1 rfl (aF (ag hD10 rfl rfl rfl))))⟩
  ·
   refine⟨_,rfl,rfl,(ao rfl (aI hf rfl (aK rfl rfl fR rfl (fQ s.opn (by omega))) (aF (ag hD12 rfl rfl rfl))))⟩
 refine aM 5 #[true,false,true,true,true,true,true,true,true,false,false,false,false] ⟨53,[(1,.adr (aT s)),(2,.ref 2 0 0 0),(8,.adr ((aT s).drop 0)),(11,.s (.int .i64 s.hor)),(14,.sl 4 (s.opn.map seC)),(16,.sl 4 (s.sub.map enC))],[(2,.box [.s (.int .i64 0),.s (.int .i64 0),.s (.slice none 0 0),.s (.slice none 0 0),.s (.slice none 0 0),.s (.slice none 0 0)])]⟩ ?_ (fun hD23=>?_)
 ·
  refine aG 1 [9,11] (by kernel_rfl) ⟨?_,?_,?_,trivial⟩
  ·
   refine⟨_,rfl,rfl,(ao rfl (aE aA 1 rfl (aF (ag hD8 rfl rfl rfl))))⟩
  ·
   refine⟨_,rfl,rfl,(ao rfl (aI hf rfl (aK rfl rfl lO rfl (nB s.sub (by omega))) (aF (ag hD13 rfl rfl rfl))))⟩
  ·
   refine⟨_,rfl,rfl,(ao rfl (aW hf rfl rfl rfl bA (aF (ag hD14 rfl rfl rfl))))⟩
 refine aM 5 #[true,false,true,true,true,true,true,true,false,false,false,true,false] ⟨53,[(1,.adr (aT s)),(2,.ref 2 0 0 0),(3,.ref 3 0 0 0),(8,.adr ((aT s).drop 0)),(11,.s (.int .i64 s.hor)),(14,.sl 4 (s.opn.map seC)),(15,.adr ((aT s).drop 4))],[(3,.box [.s (.int .i64 0),.s (.int .i64 0),.s (.slice none 0 0),.s (.slice none 0 0),.s (.slice none 0 0),.s (.slice none 0 0)]),(2,.box [.s (.int .i64 0),.s (.int .i64 0),.s (.slice none 0 0),.s (.slice none 0 0),.s (.slice none 0 0),.s (.slice none 0 0)])]⟩ ?_ (fun hD24=>?_)
 ·
  refine aG 1 [8] (by kernel_rfl) ⟨?_,?_,trivial⟩
  ·
   refine⟨_,rfl,rfl,(ao rfl (aE aA 1 rfl (aF (ag hD9 rfl rfl rfl))))⟩
  ·
   refine⟨_,rfl,rfl,(ao rfl (aE aA 1 rfl (aF (ag hD14 rfl rfl rfl))))⟩
 refine aM 5 #[true,false,true,true,true,true,false,true,true,false,false,true,false] ⟨53,[(1,.adr (aT s)),(2,.ref 2 0 0 0),(3,.ref 3 0 0 0),(8,.adr ((aT s).drop 0)),(11,.s (.int .i64 s.hor)),(13,.sl 4 (s.opn.map seC)),(16,.sl 4 (s.sub.map enC))],[(3,.box [.s (.int .i64 0),.s (.int .i64 0),.s (.slice none 0 0),.s (.slice none 0 0),.s (.slice none 0 0),.s (.slice none 0 0)]),(2,.box [.s (.int .i64 0),.s (.int .i64 0),.s (.slice none 0 0),.s (.slice none 0 0),.s (.slice none 0 0),.s (.slice none 0 0)])]⟩ ?_ (fun hD25=>?_)
 ·
  refine aG 1 [6] (by kernel_rfl) ⟨?_,?_,trivial⟩
  ·
   refine⟨_,rfl,rfl,(ao rfl (aE aA 1 rfl (aF (ag hD10 rfl rfl rfl))))⟩
  ·
   refine⟨_,rfl,rfl,(ao rfl (aI hf rfl (aK rfl rfl fR rfl (fQ s.opn (by omega))) (aF (ag hD14 rfl rfl rfl))))⟩
 refine aM 5 #[true,false,true,false,true,true,true,true,true,true,false,false,false] ⟨53,[(1,.adr (aT s)),(2,.ref 2 0 0 0),(8,.adr ((aT s).drop 0)),(10,.adr ((aT s).drop 1)),(14,.sl 4 (s.opn.map seC)),(17,.sl 4 (s.sub.map enC))],[(2,.box [.s (.int .i64 0),.s (.int .i64 0),.s (.slice none 0 0),.s (.slice none 0 0),.s (.slice none 0 0),.s (.slice none 0 0)])]⟩ ?_ (fun hD26=>?_)
 ·
  refine aG 1 [3,11] (by kernel_rfl) ⟨?_,?_,?_,trivial⟩
  ·
   refine⟨_,rfl,rfl,(ao rfl (aE aA 1 rfl (aF (ag hD11 rfl rfl rfl))))⟩
  ·
   refine⟨_,rfl,rfl,(ao rfl (aE aA 1 rfl (aF (ag hD13 rfl rfl rfl))))⟩
  ·
   refine⟨_,rfl,rfl,(ao rfl (aW hf rfl rfl rfl bA (aF (ag hD15 rfl rfl rfl))))⟩
 refine aM 5 #[true,false,true,false,true,true,true,true,true,false,false,true,false] ⟨53,[(1,.adr (aT s)),(2,.ref 2 0 0 0),(3,.ref 3 0 0 0),(8,.adr ((aT s).drop 0)),(10,.adr ((aT s).drop 1)),(14,.sl 4 (s.opn.map seC)),(16,.sl 4 (s.sub.map enC))],[(3,.box [.s (.int .i64 0),.s (.int .i64 0),.s (.slice none 0 0),.s (.slice none 0 0),.s (.slice none 0 0),.s (.slice none 0 0)]),(2,.box [.s (.int .i64 0),.s (.int .i64 0),.s (.slice none 0 0),.s (.slice none 0 0),.s (.slice none 0 0),.s (.slice none 0 0)])]⟩ ?_ (fun hD27=>?_)
 ·
  refine aG 1 [3,9] (by kernel_rfl) ⟨?_,?_,?_,trivial⟩
  ·
   refine⟨_,rfl,rfl,(ao rfl (aE aA 1 rfl (aF (ag hD12 rfl rfl rfl))))⟩
  ·
   refine⟨_,rfl,rfl,(ao rfl (aE aA 1 rfl (aF (ag hD14 rfl rfl rfl))))⟩
  ·
   refine⟨_,rfl,rfl,(ao rfl (aI hf rfl (aK rfl rfl lO rfl (nB s.sub (by omega))) (aF (ag hD15 rfl rfl rfl))))⟩
 refine aM 6 #[true,true,true,true,true,true,false,true,false,false,false,false,false] ⟨53,[(1,.adr (aT s)),(2,.ref 2 0 0 0),(9,.s (.int .i64 s.now)),(11,.s (.int .i64 s.hor)),(13,.sl 4 (s.opn.map seC)),(15,.adr ((aT s).drop 4))],[(2,.box [.s (.int .i64 0),.s (.int .i64 0),.s (.slice none 0 0),.s (.slice none 0 0),.s (.slice none 0 0),.s (.slice none 0 0)])]⟩ ?_ (fun hD28=>?_)
 ·
  refine aG 6 [8,11] (by kernel_rfl) ⟨?_,?_,?_,trivial⟩
  ·
   refine⟨_,rfl,rfl,(ao rfl (aI hf rfl (aK rfl rfl fR rfl (fQ s.opn (by omega))) (aF (ag hD16 rfl rfl rfl))))⟩
  ·
   refine⟨_,rfl,rfl,(ao rfl (aE aA 1 rfl (aF (ag hD17 rfl rfl rfl))))⟩
  ·
   refine⟨_,rfl,rfl,(ao rfl (aW hf rfl rfl rfl bA (aF (ag hD18 rfl rfl rfl))))⟩
 refine aM 6 #[true,true,true,true,true,false,false,true,true,false,false,false,false] ⟨53,[(1,.adr (aT s)),(2,.ref 2 0 0 0),(9,.s (.int .i64 s.now)),(11,.s (.int .i64 s.hor)),(12,.adr ((aT s).drop 2)),(16,.sl 4 (s.sub.map enC))],[(2,.box [.s (.int .i64 0),.s (.int .i64 0),.s (.slice none 0 0),.s (.slice none 0 0),.s (.slice none 0 0),.s (.slice none 0 0)])]⟩ ?_ (fun hD29=>?_)
 ·
  refine aG 5 [11] (by kernel_rfl) ⟨?_,?_,trivial⟩
  ·
   refine⟨_,rfl,rfl,(ao rfl (aE aA 1 rfl (aF (ag hD17 rfl rfl rfl))))⟩
  ·
   refine⟨_,rfl,rfl,(ao rfl (aW hf rfl rfl rfl bA (aF (ag hD19 rfl rfl rfl))))⟩
 refine aM 6 #[true,true,true,true,true,false,false,true,false,false,false,true,false] ⟨53,[(1,.adr (aT s)),(2,.ref 2 0 0 0),(3,.ref 3 0 0 0),(9,.s (.int .i64 s.now)),(11,.s (.int .i64 s.hor)),(12,.adr ((aT s).drop 2)),(15,.adr ((aT s).drop 4))],[(3,.box [.s (.int .i64 0),.s (.int .i64 0),.s (.slice none 0 0),.s (.slice none 0 0),.s (.slice none 0 0),.s (.slice none 0 0)]),(2,.box [.s (.int .i64 0),.s (.int .i64 0),.s (.slice none 0 0),.s (.slice none 0 0),.s (.slice none 0 0),.s (.slice none 0 0)])]⟩ ?_ (fun hD30=>?_)
 ·
  refine aG 5 [8] (by kernel_rfl) ⟨?_,?_,trivial⟩
  ·
   refine⟨_,rfl,rfl,(ao rfl (aE aA 1 rfl (aF (ag hD18 rfl rfl rfl))))⟩
  ·
   refine⟨_,rfl,rfl,(ao rfl (aE aA 1 rfl (aF (ag hD19 rfl rfl rfl))))⟩
 refine aM 6 #[true,true,true,false,true,true,true,true,false,false,false,false,false] ⟨53,[(1,.adr (aT s)),(2,.ref 2 0 0 0),(9,.s (.int .i64 s.now)),(10,.adr ((aT s).drop 1)),(14,.sl 4 (s.opn.map seC)),(15,.adr ((aT s).drop 4))],[(2,.box [.s (.int .i64 0),.s (.int .i64 0),.s (.slice none 0 0),.s (.slice none 0 0),.s (.slice none 0 0),.s (.slice none 0 0)])]⟩ ?_ (fun hD31=>?_)
 ·
  refine aG 3 [8,11] (by kernel_rfl) ⟨?_,?_,?_,trivial⟩
  ·
   refine⟨_,rfl,rfl,(ao rfl (aE aA 1 rfl (aF (ag hD16 rfl rfl rfl))))⟩
  ·
   refine⟨_,rfl,rfl,(ao rfl (aE aA 1 rfl (aF (ag hD20 rfl rfl rfl))))⟩
  ·
   refine⟨_,rfl,rfl,(ao rfl (aW hf rfl rfl rfl bA (aF (ag hD21 rfl rfl rfl))))⟩
 refine aM 6 #[true,true,true,false,true,true,false,true,true,false,false,false,false] ⟨53,[(1,.adr (aT s)),(2,.ref 2 0 0 0),(9,.s (.int .i64 s.now)),(10,.adr ((aT s).drop 1)),(13,.sl 4 (s.opn.map seC)),(16,.sl 4 (s.sub.map enC))],[(2,.box [.s (.int .i64 0),.s (.int .i64 0),.s (.slice none 0 0),.s (.slice none 0 0),.s (.slice none 0 0),.s (.slice none 0 0)])]⟩ ?_ (fun hD32=>?_)
 ·
  refine aG 3 [6,11] (by kernel_rfl) ⟨?_,?_,?_,trivial⟩
  ·
   refine⟨_,rfl,rfl,(ao rfl (aE aA 1 rfl (aF (ag hD17 rfl rfl rfl))))⟩
  ·
   refine⟨_,rfl,rfl,(ao rfl (aI hf rfl (aK rfl rfl fR rfl (fQ s.opn (by omega))) (aF (ag hD20 rfl rfl rfl))))⟩
  ·
   refine⟨_,rfl,rfl,(ao rfl (aW hf rfl rfl rfl bA (aF (ag hD22 rfl rfl rfl))))⟩
 refine aM 6 #[true,true,true,false,true,true,false,true,false,false,false,true,false] ⟨53,[(1,.adr (aT s)),(2,.ref 2 0 0 0),(3,.ref 3 0 0 0),(9,.s (.int .i64 s.now)),(10,.adr ((aT s).drop 1)),(13,.sl 4 (s.opn.map seC)),(15,.adr ((aT s).drop 4))],[(3,.box [.s (.int .i64 0),.s (.int .i64 0),.s (.slice none 0 0),.s (.slice none 0 0),.s (.slice none 0 0),.s (.slice none 0 0)]),(2,.box [.s (.int .i64 0),.s (.int .i64 0),.s (.slice none 0 0),.s (.slice none 0 0),.s (.slice none 0 0),.s (.slice none 0 0)])]⟩ ?_ (fun hD33=>?_)
 ·
  refine aG 3 [6,8] (by kernel_rfl) ⟨?_,?_,?_,trivial⟩
  ·
   refine⟨_,rfl,rfl,(ao rfl (aE aA 1 rfl (aF (ag hD18 rfl rfl rfl))))⟩
  ·
   refine⟨_,rfl,rfl,(ao rfl (aI hf rfl (aK rfl rfl fR rfl (fQ s.opn (by omega))) (aF (ag hD21 rfl rfl rfl))))⟩
  ·
   refine⟨_,rfl,rfl,(ao rfl (aE aA 1 rfl (aF (ag hD22 rfl rfl rfl))))⟩
 refine aM 6 #[true,true,true,false,true,false,false,true,true,false,false,true,false] ⟨53,[(1,.adr (aT s)),(2,.ref 2 0 0 0),(3,.ref 3 0 0 0),(9,.s (.int .i64 s.now)),(10,.adr ((aT s).drop 1)),(12,.adr ((aT s).drop 2)),(16,.sl 4 (s.sub.map enC))],[(3,.box [.s (.int .i64 0),.s (.int .i64 0),.s (.slice none 0 0),.s (.slice none 0 0),.s (.slice none 0 0),.s (.slice none 0 0)]),(2,.box [.s (.int .i64 0),.s (.int .i64 0),.s (.slice none 0 0),.s (.slice none 0 0),.s (.slice none 0 0),.s (.slice none 0 0)])]⟩ ?_ (fun hD34=>?_)
 ·
  refine aG 3 [5] (by kernel_rfl) ⟨?_,?_,trivial⟩
  ·
   refine⟨_,rfl,rfl,(ao rfl (aE aA 1 rfl (aF (ag hD19 rfl rfl rfl))))⟩
  ·
   refine⟨_,rfl,rfl,(ao rfl (aE aA 1 rfl (aF (ag hD22 rfl rfl rfl))))⟩
 refine aM 6 #[true,false,true,true,true,true,true,true,false,false,false,false,false] ⟨53,[(1,.adr (aT s)),(2,.ref 2 0 0 0),(8,.adr ((aT s).drop 0)),(11,.s (.int .i64 s.hor)),(14,.sl 4 (s.opn.map seC)),(15,.adr ((aT s).drop 4))],[(2,.box [.s (.int .i64 0),.s (.int .i64 0),.s (.slice none 0 0),.s (.slice none 0 0),.s (.slice none 0 0),.s (.slice none 0 0)])]⟩ ?_ (fun hD35=>?_)
 ·
  refine aG 1 [8,11] (by kernel_rfl) ⟨?_,?_,?_,trivial⟩
  ·
   refine⟨_,rfl,rfl,(ao rfl (aE aA 1 rfl (aF (ag hD16 rfl rfl rfl))))⟩
  ·
   refine⟨_,rfl,rfl,(ao rfl (aE aA 1 rfl (aF (ag hD23 rfl rfl rfl))))⟩
  ·
   refine⟨_,rfl,rfl,(ao rfl (aW hf rfl rfl rfl bA (aF (ag hD24 rfl rfl rfl))))⟩
 refine aM 6 #[true,false,true,true,true,true,false,true,true,false,false,false,false] ⟨53,[(1,.adr (aT s)),(2,.ref 2 0 0 0),(8,.adr ((aT s).drop 0)),(11,.s (.int .i64 s.hor)),(13,.sl 4 (s.opn.map seC)),(16,.sl 4 (s.sub.map enC))],[(2,.box [.s (.int .i64 0),.s (.int .i64 0),.s (.slice none 0 0),.s (.slice none 0 0),.s (.slice none 0 0),.s (.slice none 0 0)])]⟩ ?_ (fun hD36=>?_)
 ·
  refine aG 1 [6,11] (by kernel_rfl) ⟨?_,?_,?_,trivial⟩
  ·
   refine⟨_,rfl,rfl,(ao rfl (aE aA 1 rfl (aF (ag hD17 rfl rfl rfl))))⟩
  ·
   refine⟨_,rfl,rfl,(ao rfl (aI hf rfl (aK rfl rfl fR rfl (fQ s.opn (by omega))) (aF (ag hD23 rfl rfl rfl))))⟩
  ·
   refine⟨_,rfl,rfl,(ao rfl (aW hf rfl rfl rfl bA (aF (ag hD25 rfl rfl rfl))))⟩
 refine aM 6 #[true,false,true,true,true,true,false,true,false,false,false,true,false] ⟨53,[(1,.adr (aT s)),(2,.ref 2 0 0 0),(3,.ref 3 0 0 0),(8,.adr ((aT s).drop 0)),(11,.s (.int .i64 s.hor)),(13,.sl 4 (s.opn.map seC)),(15,.adr ((aT s).drop 4))],[(3,.box [.s (.int .i64 0),.s (.int .i64 0),.s (.slice none 0 0),.s (.slice none 0 0),.s (.slice none 0 0),.s (.slice none 0 0)]),(2,.box [.s (.int .i64 0),.s (.int .i64 0),.s (.slice none 0 0),.s (.slice none 0 0),.s (.slice none 0 0),.s (.slice none 0 0)])]⟩ ?_ (fun hD37=>?_)
 ·
  refine aG 1 [6,8] (by kernel_rfl) ⟨?_,?_,?_,trivial⟩
  ·
   refine⟨_,rfl,rfl,(ao rfl (aE aA 1 rfl (aF (ag hD18 rfl rfl rfl))))⟩
  ·
   refine⟨_,rfl,rfl,(ao rfl (aI hf rfl (aK rfl rfl fR rfl (fQ s.opn (by omega))) (aF (ag hD24 rfl rfl rfl))))⟩
  ·
   refine⟨_,rfl,rfl,(ao rfl (aE aA 1 rfl (aF (ag hD25 rfl rfl rfl))))⟩
 refine aM 6 #[true,false,true,true,true,false,false,true,true,false,false,true,false] ⟨53,[(1,.adr (aT s)),(2,.ref 2 0 0 0),(3,.ref 3 0 0 0),(8,.adr ((aT s).drop 0)),(11,.s (.int .i64 s.hor)),(12,.adr ((aT s).drop 2)),(16,.sl 4 (s.sub.map enC))],[(3,.box [.s (.int .i64 0),.s (.int .i64 0),.s (.slice none 0 0),.s (.slice none 0 0),.s (.slice none 0 0),.s (.slice none 0 0)]),(2,.box [.s (.int .i64 0),.s (.int .i64 0),.s (.slice none 0 0),.s (.slice none 0 0),.s (.slice none 0 0),.s (.slice none 0 0)])]⟩ ?_ (fun hD38=>?_)
 ·
  refine aG 1 [5] (by kernel_rfl) ⟨?_,?_,trivial⟩
  ·
   refine⟨_,rfl,rfl,(ao rfl (aE aA 1 rfl (aF (ag hD19 rfl rfl rfl))))⟩
  ·
   refine⟨_,rfl,rfl,(ao rfl (aE aA 1 rfl (aF (ag hD25 rfl rfl rfl))))⟩
 refine aM 6 #[true,false,true,false,true,true,true,true,true,false,false,false,false] ⟨53,[(1,.adr (aT s)),(2,.ref 2 0 0 0),(8,.adr ((aT s).drop 0)),(10,.adr ((aT s).drop 1)),(14,.sl 4 (s.opn.map seC)),(16,.sl 4 (s.sub.map enC))],[(2,.box [.s (.int .i64 0),.s (.int .i64 0),.s (.slice none 0 0),.s (.slice none 0 0),.s (.slice none 0 0),.s (.slice none 0 0)])]⟩ ?_ (fun hD39=>?_)
 ·
  refine aG 1 [3,9,11] (by kernel_rfl) ⟨?_,?_,?_,?_,trivial⟩
  ·
   refine⟨_,rfl,rfl,(ao rfl (aE aA 1 rfl (aF (ag hD20 rfl rfl rfl))))⟩
  ·
   refine⟨_,rfl,rfl,(ao rfl (aE aA 1 rfl (aF (ag hD23 rfl rfl rfl))))⟩
  ·
   refine⟨_,rfl,rfl,(ao rfl (aI hf rfl (aK rfl rfl lO rfl (nB s.sub (by omega))) (aF (ag hD26 rfl rfl rfl))))⟩
  ·
   refine⟨_,rfl,rfl,(ao rfl (aW hf rfl rfl rfl bA (aF (ag hD27 rfl rfl rfl))))⟩
 refine aM 6 #[true,false,true,false,true,true,true,true,false,false,false,true,false] ⟨53,[(1,.adr (aT s)),(2,.ref 2 0 0 0),(3,.ref 3 0 0 0),(8,.adr ((aT s).drop 0)),(10,.adr ((aT s).drop 1)),(14,.sl 4 (s.opn.map seC)),(15,.adr ((aT s).drop 4))],[(3,.box [.s (.int .i64 0),.s (.int .i64 0),.s (.slice none 0 0),.s (.slice none 0 0),.s (.slice none 0 0),.s (.slice none 0 0)]),(2,.box [.s (.int .i64 0),.s (.int .i64 0),.s (.slice none 0 0),.s (.slice none 0 0),.s (.slice none 0 0),.s (.slice none 0 0)])]⟩ ?_ (fun hD40=>?_)
 ·
  refine aG 1 [3,8] (by kernel_rfl) ⟨?_,?_,?_,trivial⟩
  ·
   refine⟨_,rfl,rfl,(ao rfl (aE aA 1 rfl (aF (ag hD21 rfl rfl rfl))))⟩
  ·
   refine⟨_,rfl,rfl,(ao rfl (aE aA 1 rfl (aF (ag hD24 rfl rfl rfl))))⟩
  ·
   refine⟨_,rfl,rfl,(ao rfl (aE aA 1 rfl (aF (ag hD27 rfl rfl rfl))))⟩
 refine aM 6 #[true,false,true,false,true,true,false,true,true,false,false,true,false] ⟨53,[(1,.adr (aT s)),(2,.ref 2 0 0 0),(3,.ref 3 0 0 0),(8,.adr ((aT s).drop 0)),(10,.adr ((aT s).drop 1)),(13,.sl 4 (s.opn.map seC)),(16,.sl 4 (s.sub.map enC))],[(3,.box [.s (.int .i64 0),.s (.int .i64 0),.s (.slice none 0 0),.s (.slice none 0 0),.s (.slice none 0 0),.s (.slice none 0 0)]),(2,.box [.s (.int .i64 0),.s (.int .i64 0),.s (.slice none 0 0),.s (.slice none 0 0),.s (.slice none 0 0),.s (.slice none 0 0)])]⟩ ?_ (fun hD41=>?_)
 ·
  refine aG 1 [3,6] (by kernel_rfl) ⟨?_,?_,?_,trivial⟩
  ·
   refine⟨_,rfl,rfl,(ao rfl (aE aA 1 rfl (aF (ag hD22 rfl rfl rfl))))⟩
  ·
   refine⟨_,rfl,rfl,(ao rfl (aE aA 1 rfl (aF (ag hD25 rfl rfl rfl))))⟩
  ·
   refine⟨_,rfl,rfl,(ao rfl (aI hf rfl (aK rfl rfl fR rfl (fQ s.opn (by omega))) (aF (ag hD27 rfl rfl rfl))))⟩
 refine aM 7 #[true,true,true,true,true,false,false,true,false,false,false,false,false] ⟨53,[(1,.adr (aT s)),(2,.ref 2 0 0 0),(9,.s (.int .i64 s.now)),(11,.s (.int .i64 s.hor)),(12,.adr ((aT s).drop 2)),(15,.adr ((aT s).drop 4))],[(2,.box [.s (.int .i64 0),.s (.int .i64 0),.s (.slice none 0 0),.s (.slice none 0 0),.s (.slice none 0 0),.s (.slice none 0 0)])]⟩ ?_ (fun hD42=>?_)
 ·
  refine aG 5 [8,11] (by kernel_rfl) ⟨?_,?_,?_,trivial⟩
  ·
   refine⟨_,rfl,rfl,(ao rfl (aE aA 1 rfl (aF (ag hD28 rfl rfl rfl))))⟩
  ·
   refine⟨_,rfl,rfl,(ao rfl (aE aA 1 rfl (aF (ag hD29 rfl rfl rfl))))⟩
  ·
   refine⟨_,rfl,rfl,(ao rfl (aW hf rfl rfl rfl bA (aF (ag hD30 rfl rfl rfl))))⟩
 refine aM 7 #[true,true,true,false,true,true,false,true,false,false,false,false,false] ⟨53,[(1,.adr (aT s)),(2,.ref 2 0 0 0),(9,.s (.int .i64 s.now)),(10,.adr ((aT s).drop 1)),(13,.sl 4 (s.opn.map seC)),(15,.adr ((aT s).drop 4))],[(2,.box [.s (.int .i64 0),.s (.int .i64 0),.s (.slice none 0 0),.s (.slice none 0 0),.s (.slice none 0 0),.s (.slice none 0 0)])]⟩ ?_ (fun hD43=>?_)
 ·
  refine aG 3 [6,8,11] (by kernel_rfl) ⟨?_,?_,?_,?_,trivial⟩
  ·
   refine⟨_,rfl,rfl,(ao rfl (aE aA 1 rfl (aF (ag hD28 rfl rfl rfl))))⟩
  ·
   refine⟨_,rfl,rfl,(ao rfl (aI hf rfl (aK rfl rfl fR rfl (fQ s.opn (by omega))) (aF (ag hD31 rfl rfl rfl))))⟩
  ·
   refine⟨_,rfl,rfl,(ao rfl (aE aA 1 rfl (aF (ag hD32 rfl rfl rfl))))⟩
  ·
   refine⟨_,rfl,rfl,(ao rfl (aW hf rfl rfl rfl bA (aF (ag hD33 rfl rfl rfl))))⟩
 refine aM 7 #[true,true,true,false,true,false,false,true,true,false,false,false,false] ⟨53,[(1,.adr (aT s)),(2,.ref 2 0 0 0),(9,.s (.int .i64 s.now)),(10,.adr ((aT s).drop 1)),(12,.adr ((aT s).drop 2)),(16,.sl 4 (s.sub.map enC))],[(2,.box [.s (.int .i64 0),.s (.int .i64 0),.s (.slice none 0 0),.s (.slice none 0 0),.s (.slice none 0 0),.s (.slice none 0 0)])]⟩ ?_ (fun hD44=>?_)
 ·
  refine aG 3 [5,11] (by kernel_rfl) ⟨?_,?_,?_,trivial⟩
  ·
   refine⟨_,rfl,rfl,(ao rfl (aE aA 1 rfl (aF (ag hD29 rfl rfl rfl))))⟩
  ·
   refine⟨_,rfl,rfl,(ao rfl (aE aA 1 rfl (aF (ag hD32 rfl rfl rfl))))⟩
  ·
   refine⟨_,rfl,rfl,(ao rfl (aW hf rfl rfl rfl bA (aF (ag hD34 rfl rfl rfl))))⟩
 refine aM 7 #[true,true,true,false,true,false,false,true,false,false,false,true,false] ⟨53,[(1,.adr (aT s)),(2,.ref 2 0 0 0),(3,.ref 3 0 0 0),(9,.s (.int .i64 s.now)),(10,.adr ((aT s).drop 1)),(12,.adr ((aT s).drop 2)),(15,.adr ((aT s).drop 4))],[(3,.box [.s (.int .i64 0),.s (.int .i64 0),.s (.slice none 0 0),.s (.slice none 0 0),.s (.slice none 0 0),.s (.slice none 0 0)]),(2,.box [.s (.int .i64 0),.s (.int .i64 0),.s (.slice none 0 0),.s (.slice none 0 0),.s (.slice none 0 0),.s (.slice none 0 0)])]⟩ ?_ (fun hD45=>?_)
 ·
  refine aG 3 [5,8] (by kernel_rfl) ⟨?_,?_,?_,trivial⟩
  ·
   refine⟨_,rfl,rfl,(ao rfl (aE aA 1 rfl (aF (ag hD30 rfl rfl rfl))))⟩
  ·
   refine⟨_,rfl,rfl,(ao rfl (aE aA 1 rfl (aF (ag hD33 rfl rfl rfl))))⟩
  ·
   refine⟨_,rfl,rfl,(ao rfl (aE aA 1 rfl (aF (ag hD34 rfl rfl rfl))))⟩
 refine aM 7 #[true,false,true,true,true,true,false,true,false,false,false,false,false] ⟨53,[(1,.adr (aT s)),(2,.ref 2 0 0 0),(8,.adr ((aT s).drop 0)),(11,.s (.int .i64 s.hor)),(13,.sl 4 (s.opn.map seC)),(15,.adr ((aT s).drop 4))],[(2,.box [.s (.int .i64 0),.s (.int .i64 0),.s (.slice none 0 0),.s (.slice none 0 0),.s (.slice none 0 0),.s (.slice none 0 0)])]⟩ ?_ (fun hD46=>?_)
 ·
  refine aG 1 [6,8,11] (by kernel_rfl) ⟨?_,?_,?_,?_,trivial⟩
  ·
   refine⟨_,rfl,rfl,(ao rfl (aE aA 1 rfl (aF (ag hD28 rfl rfl rfl))))⟩
  ·
   refine⟨_,rfl,rfl,(ao rfl (aI hf rfl (aK rfl rfl fR rfl (fQ s.opn (by omega))) (aF (ag hD35 rfl rfl rfl))))⟩
  ·
   refine⟨_,rfl,rfl,(ao rfl (aE aA 1 rfl (aF (ag hD36 rfl rfl rfl))))⟩
  ·
   refine⟨_,rfl,rfl,(ao rfl (aW hf rfl rfl rfl bA (aF (ag hD37 rfl rfl rfl))))⟩
 refine aM 7 #[true,false,true,true,true,false,false,true,true,false,false,false,false] ⟨53,[(1,.adr (aT s)),(2,.ref 2 0 0 0),(8,.adr ((aT s).drop 0)),(11,.s (.int .i64 s.hor)),(12,.adr ((aT s).drop 2)),(16,.sl 4 (s.sub.map enC))],[(2,.box [.s (.int .i64 0),.s (.int .i64 0),.s (.slice none 0 0),.s (.slice none 0 0),.s (.slice none 0 0),.s (.slice none 0 0)])]⟩ ?_ (fun hD47=>?_)
 ·
  refine aG 1 [5,11] (by kernel_rfl) ⟨?_,?_,?_,trivial⟩
  ·
   refine⟨_,rfl,rfl,(ao rfl (aE aA 1 rfl (aF (ag hD29 rfl rfl rfl))))⟩
  ·
   refine⟨_,rfl,rfl,(ao rfl (aE aA 1 rfl (aF (ag hD36 rfl rfl rfl))))⟩
  ·
   refine⟨_,rfl,rfl,(ao rfl (aW hf rfl rfl rfl bA (aF (ag hD38 rfl rfl rfl))))⟩
 refine aM 7 #[true,false,true,true,true,false,false,true,false,false,false,true,false] ⟨53,[(1,.adr (aT s)),(2,.ref 2 0 0 0),(3,.ref 3 0 0 0),(8,.adr ((aT s).drop 0)),(11,.s (.int .i64 s.hor)),(12,.adr ((aT s).drop 2)),(15,.adr ((aT s).drop 4))],[(3,.box [.s (.int .i64 0),.s (.int .i64 0),.s (.slice none 0 0),.s (.slice none 0 0),.s (.slice none 0 0),.s (.slice none 0 0)]),(2,.box [.s (.int .i64 0),.s (.int .i64 0),.s (.slice none 0 0),.s (.slice none 0 0),.s (.slice none 0 0),.s (.slice none 0 0)])]⟩ ?_ (fun hD48=>?_)
 ·
  refine aG 1 [5,8] (by kernel_rfl) ⟨?_,?_,?_,trivial⟩
  ·
   refine⟨_,rfl,rfl,(ao rfl (aE aA 1 rfl (aF (ag hD30 rfl rfl rfl))))⟩
  ·
   refine⟨_,rfl,rfl,(ao rfl (aE aA 1 rfl (aF (ag hD37 rfl rfl rfl))))⟩
  ·
   refine⟨_,rfl,rfl,(ao rfl (aE aA 1 rfl (aF (ag hD38 rfl rfl rfl))))⟩
 refine aM 7 #[true,false,true,false,true,true,true,true,false,false,false,false,false] ⟨53,[(1,.adr (aT s)),(2,.ref 2 0 0 0),(8,.adr ((aT s).drop 0)),(10,.adr ((aT s).drop 1)),(14,.sl 4 (s.opn.map seC)),(15,.adr ((aT s).drop 4))],[(2,.box [.s (.int .i64 0),.s (.int .i64 0),.s (.slice none 0 0),.s (.slice none 0 0),.s (.slice none 0 0),.s (.slice none 0 0)])]⟩ ?_ (fun hD49=>?_)
 ·
  refine aG 1 [3,8,11] (by kernel_rfl) ⟨?_,?_,?_,?_,trivial⟩
  ·
   refine⟨_,rfl,rfl,(ao rfl (aE aA 1 rfl (aF (ag hD31 rfl rfl rfl))))⟩
  ·
   refine⟨_,rfl,rfl,(ao rfl (aE aA 1 rfl (aF (ag hD35 rfl rfl rfl))))⟩
  ·
   refine⟨_,rfl,rfl,(ao rfl (aE aA 1 rfl (aF (ag hD39 rfl rfl rfl))))⟩
  ·
   refine⟨_,rfl,rfl,(ao rfl (aW hf rfl rfl rfl bA (aF (ag hD40 rfl rfl rfl))))⟩
 refine aM 7 #[true,false,true,false,true,true,false,true,true,false,false,false,false] ⟨53,[(1,.adr (aT s)),(2,.ref 2 0 0 0),(8,.adr ((aT s).drop 0)),(10,.adr ((aT s).drop 1)),(13,.sl 4 (s.opn.map seC)),(16,.sl 4 (s.sub.map enC))],[(2,.box [.s (.int .i64 0),.s (.int .i64 0),.s (.slice none 0 0),.s (.slice none 0 0),.s (.slice none 0 0),.s (.slice none 0 0)])]⟩ ?_ (fun hD50=>?_)
 ·
  refine aG 1 [3,6,11] (by kernel_rfl) ⟨?_,?_,?_,?_,trivial⟩
  ·
   refine⟨_,rfl,rfl,(ao rfl (aE aA 1 rfl (aF (ag hD32 rfl rfl rfl))))⟩
  ·
   refine⟨_,rfl,rfl,(ao rfl (aE aA 1 rfl (aF (ag hD36 rfl rfl rfl))))⟩
  ·
   refine⟨_,rfl,rfl,(ao rfl (aI hf rfl (aK rfl rfl fR rfl (fQ s.opn (by omega))) (aF (ag hD39 rfl rfl rfl))))⟩
  ·
   refine⟨_,rfl,rfl,(ao rfl (aW hf rfl rfl rfl bA (aF (ag hD41 rfl rfl rfl))))⟩
 refine aM 7 #[true,false,true,false,true,true,false,true,false,false,false,true,false] ⟨53,[(1,.adr (aT s)),(2,.ref 2 0 0 0),(3,.ref 3 0 0 0),(8,.adr ((aT s).drop 0)),(10,.adr ((aT s).drop 1)),(13,.sl 4 (s.opn.map seC)),(15,.adr ((aT s).drop 4))],[(3,.box [.s (.int .i64 0),.s (.int .i64 0),.s (.slice none 0 0),.s (.slice none 0 0),.s (.slice none 0 0),.s (.slice none 0 0)]),(2,.box [.s (.int .i64 0),.s (.int .i64 0),.s (.slice none 0 0),.s (.slice none 0 0),.s (.slice none 0 0),.s (.slice none 0 0)])]⟩ ?_ (fun hD51=>?_)
 ·
  refine aG 1 [3,6,8] (by kernel_rfl) ⟨?_,?_,?_,?_,trivial⟩
  ·
   refine⟨_,rfl,rfl,(ao rfl (aE aA 1 rfl (aF (ag hD33 rfl rfl rfl))))⟩
  ·
   refine⟨_,rfl,rfl,(ao rfl (aE aA 1 rfl (aF (ag hD37 rfl rfl rfl))))⟩
  ·
   refine⟨_,rfl,rfl,(ao rfl (aI hf rfl (aK rfl rfl fR rfl (fQ s.opn (by omega))) (aF (ag hD40 rfl rfl rfl))))⟩
  ·
   refine⟨_,rfl,rfl,(ao rfl (aE aA 1 rfl (aF (ag hD41 rfl rfl rfl))))⟩
 refine aM 7 #[true,false,true,false,true,false,false,true,true,false,false,true,false] ⟨53,[(1,.adr (aT s)),(2,.ref 2 0 0 0),(3,.ref 3 0 0 0),(8,.adr ((aT s).drop 0)),(10,.adr ((aT s).drop 1)),(12,.adr ((aT s).drop 2)),(16,.sl 4 (s.sub.map enC))],[(3,.box [.s (.int .i64 0),.s (.int .i64 0),.s (.slice none 0 0),.s (.slice none 0 0),.s (.slice none 0 0),.s (.slice none 0 0)]),(2,.box [.s (.int .i64 0),.s (.int .i64 0),.s (.slice none 0 0),.s (.slice none 0 0),.s (.slice none 0 0),.s (.slice none 0 0)])]⟩ ?_ (fun hD52=>?_)
 ·
  refine aG 1 [3,5] (by kernel_rfl) ⟨?_,?_,?_,trivial⟩
  ·
   refine⟨_,rfl,rfl,(ao rfl (aE aA 1 rfl (aF (ag hD34 rfl rfl rfl))))⟩
  ·
   refine⟨_,rfl,rfl,(ao rfl (aE aA 1 rfl (aF (ag hD38 rfl rfl rfl))))⟩
  ·
   refine⟨_,rfl,rfl,(ao rfl (aE aA 1 rfl (aF (ag hD41 rfl rfl rfl))))⟩
 refine aM 8 #[true,true,true,false,true,false,false,true,false,false,false,false,false] ⟨53,[(1,.adr (aT s)),(2,.ref 2 0 0 0),(9,.s (.int .i64 s.now)),(10,.adr ((aT s).drop 1)),(12,.adr ((aT s).drop 2)),(15,.adr ((aT s).drop 4))],[(2,.box [.s (.int .i64 0),.s (.int .i64 0),.s (.slice none 0 0),.s (.slice none 0 0),.s (.slice none 0 0),.s (.slice none 0 0)])]⟩ ?_ (fun hD53=>?_)
 ·
  refine aG 3 [5,8,11] (by kernel_rfl) ⟨?_,?_,?_,?_,trivial⟩
  ·
   refine⟨_,rfl,rfl,(ao rfl (aE aA 1 rfl (aF (ag hD42 rfl rfl rfl))))⟩
  ·
   refine⟨_,rfl,rfl,(ao rfl (aE aA 1 rfl (aF (ag hD43 rfl rfl rfl))))⟩
  ·
   refine⟨_,rfl,rfl,(ao rfl (aE aA 1 rfl (aF (ag hD44 rfl rfl rfl))))⟩
  ·
   refine⟨_,rfl,rfl,(ao rfl (aW hf rfl rfl rfl bA (aF (ag hD45 rfl rfl rfl))))⟩
 refine aM 8 #[true,false,true,true,true,false,false,true,false,false,false,false,false] ⟨53,[(1,.adr (aT s)),(2,.ref 2 0 0 0),(8,.adr ((aT s).drop 0)),(11,.s (.int .i64 s.hor)),(12,.adr ((aT s).drop 2)),(15,.adr ((aT s).drop 4))],[(2,.box [.s (.int .i64 0),.s (.int .i64 0),.s (.slice none 0 0),.s (.slice none 0 0),.s (.slice none 0 0),.s (.slice none 0 0)])]⟩ ?_ (fun hD54=>?_)
 ·
  refine aG 1 [5,8,11] (by kernel_rfl) ⟨?_,?_,?_,?_,trivial⟩
  ·
   refine⟨_,rfl,rfl,(ao rfl (aE aA 1 rfl (aF (ag hD42 rfl rfl rfl))))⟩
  ·
   refine⟨_,rfl,rfl,(ao rfl (aE aA 1 rfl (aF (ag hD46 rfl rfl rfl))))⟩
  ·
   refine⟨_,rfl,rfl,(ao rfl (aE aA 1 rfl (aF (ag hD47 rfl rfl rfl))))⟩
  ·
   refine⟨_,rfl,rfl,(ao rfl (aW hf rfl rfl rfl bA (aF (ag hD48 rfl rfl rfl))))⟩
 refine aM 8 #[true,false,true,false,true,true,false,true,false,false,false,false,false] ⟨53,[(1,.adr (aT s)),(2,.ref 2 0 0 0),(8,.adr ((aT s).drop 0)),(10,.adr ((aT s).drop 1)),(13,.sl 4 (s.opn.map seC)),(15,.adr ((aT s).drop 4))],[(2,.box [.s (.int .i64 0),.s (.int .i64 0),.s (.slice none 0 0),.s (.slice none 0 0),.s (.slice none 0 0),.s (.slice none 0 0)])]⟩ ?_ (fun hD55=>?_)
 ·
  refine aG 1 [3,6,8,11] (by kernel_rfl) ⟨?_,?_,?_,?_,?_,trivial⟩
  ·
   refine⟨_,rfl,rfl,(ao rfl (aE aA 1 rfl (aF (ag hD43 rfl rfl rfl))))⟩
  ·
   refine⟨_,rfl,rfl,(ao rfl (aE aA 1 rfl (aF (ag hD46 rfl rfl rfl))))⟩
  ·
   refine⟨_,rfl,rfl,(ao rfl (aI hf rfl (aK rfl rfl fR rfl (fQ s.opn (by omega))) (aF (ag hD49 rfl rfl rfl))))⟩
  ·
   refine⟨_,rfl,rfl,(ao rfl (aE aA 1 rfl (aF (ag hD50 rfl rfl rfl))))⟩
  ·
   refine⟨_,rfl,rfl,(ao rfl (aW hf rfl rfl rfl bA (aF (ag hD51 rfl rfl rfl))))⟩
 refine aM 8 #[true,false,true,false,true,false,false,true,true,false,false,false,false] ⟨53,[(1,.adr (aT s)),(2,.ref 2 0 0 0),(8,.adr ((aT s).drop 0)),(10,.adr ((aT s).drop 1)),(12,.adr ((aT s).drop 2)),(16,.sl 4 (s.sub.map enC))],[(2,.box [.s (.int .i64 0),.s (.int .i64 0),.s (.slice none 0 0),.s (.slice none 0 0),.s (.slice none 0 0),.s (.slice none 0 0)])]⟩ ?_ (fun hD56=>?_)
 ·
  refine aG 1 [3,5,11] (by kernel_rfl) ⟨?_,?_,?_,?_,trivial⟩
  ·
   refine⟨_,rfl,rfl,(ao rfl (aE aA 1 rfl (aF (ag hD44 rfl rfl rfl))))⟩
  ·
   refine⟨_,rfl,rfl,(ao rfl (aE aA 1 rfl (aF (ag hD47 rfl rfl rfl))))⟩
  ·
   refine⟨_,rfl,rfl,(ao rfl (aE aA 1 rfl (aF (ag hD50 rfl rfl rfl))))⟩
  ·
   refine⟨_,rfl,rfl,(ao rfl (aW hf rfl rfl rfl bA (aF (ag hD52 rfl rfl rfl))))⟩
 refine aM 8 #[true,false,true,false,true,false,false,true,false,false,false,true,false] ⟨53,[(1,.adr (aT s)),(2,.ref 2 0 0 0),(3,.ref 3 0 0 0),(8,.adr ((aT s).drop 0)),(10,.adr ((aT s).drop 1)),(12,.adr ((aT s).drop 2)),(15,.adr ((aT s).drop 4))],[(3,.box [.s (.int .i64 0),.s (.int .i64 0),.s (.slice none 0 0),.s (.slice none 0 0),.s (.slice none 0 0),.s (.slice none 0 0)]),(2,.box [.s (.int .i64 0),.s (.int .i64 0),.s (.slice none 0 0),.s (.slice none 0 0),.s (.slice none 0 0),.s (.slice none 0 0)])]⟩ ?_ (fun hD57=>?_)
 ·
  refine aG 1 [3,5,8] (by kernel_rfl) ⟨?_,?_,?_,?_,trivial⟩
  ·
   refine⟨_,rfl,rfl,(ao rfl (aE aA 1 rfl (aF (ag hD45 rfl rfl rfl))))⟩
  ·
   refine⟨_,rfl,rfl,(ao rfl (aE aA 1 rfl (aF (ag hD48 rfl rfl rfl))))⟩
  ·
   refine⟨_,rfl,rfl,(ao rfl (aE aA 1 rfl (aF (ag hD51 rfl rfl rfl))))⟩
  ·
   refine⟨_,rfl,rfl,(ao rfl (aE aA 1 rfl (aF (ag hD52 rfl rfl rfl))))⟩
 refine kQ (sX (sl':=[(1,.adr (aT s)),(2,.ref 2 0 0 0),(8,.adr ((aT s).drop 0)),(10,.adr ((aT s).drop 1)),(12,.adr ((aT s).drop 2)),(15,.adr ((aT s).drop 4))]) (m':=[(2,.box [.s (.int .i64 0),.s (.int .i64 0),.s (.slice none 0 0),.s (.slice none 0 0),.s (.slice none 0 0),.s (.slice none 0 0)])]) rfl rfl rfl) (aG 1 [3,5,8,11] (by kernel_rfl) ⟨?_,?_,?_,?_,?_,trivial⟩)
 ·
  refine⟨_,rfl,rfl,(ao rfl (aE aA 1 rfl (aF (ag hD53 rfl rfl rfl))))⟩
 ·
  refine⟨_,rfl,rfl,(ao rfl (aE aA 1 rfl (aF (ag hD54 rfl rfl rfl))))⟩
 ·
  refine⟨_,rfl,rfl,(ao rfl (aE aA 1 rfl (aF (ag hD55 rfl rfl rfl))))⟩
 ·
  refine⟨_,rfl,rfl,(ao rfl (aE aA 1 rfl (aF (ag hD56 rfl rfl rfl))))⟩
 ·
  refine⟨_,rfl,rfl,(ao rfl (aW hf rfl rfl rfl bA (aF (ag hD57 rfl rfl rfl))))⟩
theorem rL (s:Sta) (hz:SzS 140737488353280 s) :Den Tryz.prog 11 [.agg (aT s)]  (·=.s (.int .i64 (aTy s))):=by
 refine aR Tryz.func11 rfl (Nat.le_of_ble_eq_true rfl) (fun w0 A hf=>(aC (fun K1 hK1=>(aB (aI hf rfl (cE rfl rfl (lf rfl)) (aE aA 1 rfl (aD (hK1 _ (aC (fun K2 hK2=>(cP hf bE (by kernel_rfl) rfl (aV aA 1 rfl (bJ [(3,_)] rfl rfl ⟨⟨rfl,rfl⟩,trivial⟩ rfl (aK rfl rfl aS6 rfl (aFw s hz)) (aV aA 3 rfl (bQ [(4,_),(7,_)] rfl rfl ⟨⟨rfl,rfl⟩,⟨rfl,rfl⟩,trivial⟩ rfl (fG rfl rfl rfl) ?_)))))))))))))))
 refine aV aA 1 rfl (cT [2] rfl rfl rfl (hK2 _ (aJ ?_)))
 refine⟨_,rfl,?_⟩
 simp only[aTy,List.length_map]; rfl
end Go.Proofs.YtpkanhklapfajaaGreat
set_option linter.unusedVariables false
set_option linter.unusedSimpArgs false
namespace Go.Proofs.YtpkanhklapfajaaGreat
open Go Go.Abs
end Go.Proofs.YtpkanhklapfajaaGreat
