import Derived.WalkKit
import Derived.WalkSpells
import Derived.WalkLawsBesides
import Derived.Deep.LoopGhost
import Derived.ChangeKeysEq
import Derived.Still
import Derived.Lib.AppendZeros
import Derived.Laws.StructEq
import Derived.OpenShut
import Derived.Scope
import Derived.Shelf.SlSortCmp.Kit1
import Derived.Shelf.SlSortCmp.InsertionK
import Derived.Lib.SlicesCompact
import Derived.ProofKit
import Derived.ChangeSame
import Derived.Carry
import Derived.SliceStrings
import Derived.ChangeMaps5
import Derived.Deep.Slices
import Derived.Test.YthapfogcaklbbaaGreatRows
import Derived.Shelf.Abstract
import Derived.Deep.RegionLaw
import Derived.Lib.Walk
import Derived.Lib.Overlaps
import Derived.Lib.AppendZerosOnto
import Derived.Laws.CopyRow
import Derived.Shelf.SlSortCmp.WholeK
import Derived.Shelf.SlSortCmp.Whole1
import Derived.Shelf.SlSortCmp.NoneTotal
import Derived.Test.YthapfogcaklbbaaGreatK1
import Derived.Test.YthapfogcaklbbaaGreatK2
import Derived.Test.YthapfogcaklbbaaGreatK3
set_option maxRecDepth 20000
set_option maxHeartbeats 16000000
set_option linter.unusedVariables false
set_option linter.unusedSimpArgs false
namespace Go.Proofs.YthapfogcaklbbaaGreat
open Go Go.Abs
theorem aAi (l:List bD) (s:bD) (hl:l.length*32+32≤140737488355328) :Den Tryz.prog 62 [.sl 4 (l.map stC),.agg (stC s)]  (·=.sl 4 ((gX l s).map stC)):=by
 refine aU Tryz.func62 rfl (Nat.le_of_ble_eq_true rfl) (fun w0 A hf=>(aC (fun K1 hK1=>(aB (aM hf rfl (cP rfl rfl (lf rfl)) (aG rfl (bH) (aD (hK1 _ (aC (fun K2 hK2=>(aC (fun K3 hK3=>(aB (aE aA 2 rfl (aM hf rfl (aQ rfl rfl oD rfl (tR s.1)) (aD ?_))))))))))))))))
 refine hK3 _ (aK rfl (fun hc1=>?_) (fun hc1=>?_))
 ·
  simp only[bs] at hc1
  refine aC (fun K4 hK4=>(aB (aE aA 1 rfl (aM hf rfl (aQ rfl rfl sX rfl (cJ (sL _ (by omega)))) (aE aA 1 rfl (aD (hK4 _ (aJ ?_))))))))
  refine⟨_,rfl,?_⟩
  rw[gX,if_pos (by assumption)]; rfl
 ·
  simp only[bs] at hc1
  refine aN (hK2 _ (aC (fun K5 hK5=>(aB (aE aA 3 rfl (aD (hK5 _ (aC (fun K6 hK6=>(aO (bR (ι:=Nat) (fun k=>⟨37,[(0,.sl 4 (l.map stC)),(3,.adr (stC s)),(5,.s (.int .i64 (k:Nat)))],[]⟩) (fun k=>k≤l.length∧∀ (j:Nat) (hj:j<l.length),k≤j→0<gK l[j] s) (fun k=>k) l.length ?_ ?_ ?_)))))))))))
  · exact⟨Nat.le_refl _,by omega⟩
  · exact cK ⟨rfl,rfl,aL (by rw[List.length_map]),trivial⟩ rfl
  ·
   rintro k hC
   obtain ⟨h1,h2⟩:=hC
   refine aC (fun K7 hK7=>(aC (fun K8 hK8=>(eB hf bI (by kernel_rfl) rfl (aX aA 3 rfl (gA 15 true rfl (fun hg2=>?_) (fun hg2=>?_)))))))
   ·
    simp only[bs] at hg2
    refine aX aA 2 rfl ?_
    refine bL [(17,_)] rfl rfl ⟨⟨rfl,rfl⟩,trivial⟩ rfl (eH rfl rfl (by omega) (by omega)) ?_
    refine bL [(16,_),(18,_)] rfl rfl ⟨⟨rfl,rfl⟩,⟨rfl,rfl⟩,trivial⟩ rfl (bB rfl rfl bZ aS (iO (k:=k - 1) (by omega) (by omega))) (aX aA 2 rfl (bT [(20,_),(21,_)] rfl rfl ⟨⟨rfl,rfl⟩,⟨rfl,rfl⟩,trivial⟩ rfl (aQ rfl rfl wO rfl (aFu l[k - 1] s)) (aX aA 2 rfl (eE [0,3,5,24] rfl rfl rfl (hK8 _ (aK rfl (fun hc3=>?_) (fun hc3=>?_)))))))
    ·
     simp only[bs] at hc3
     refine aN (hK7 _ (aO (aB (aE aA 1 rfl ?_))))
     refine aG rfl (eH rfl rfl (by omega) (by omega)) ?_
     refine aE aA 1 rfl ?_
     refine bG ?_
     exact⟨k - 1,⟨by omega,fun j hj hkj=>by
      by_cases e:j=k - 1
      · subst e; assumption
      · exact h2 j hj (by omega)⟩,by omega,cK ⟨rfl,rfl,aL (by omega),trivial⟩ rfl⟩
    ·
     simp only[bs] at hc3
     refine aW (hK6 _ (aC (fun K9 hK9=>(eB hf bI (by kernel_rfl) rfl ?_))))
     have hins:=aCw s l k (by omega) h2 (fun h0 h=>by omega)
     refine aX aA 2 rfl (bL [(27,_),(28,_)] rfl rfl ⟨⟨rfl,rfl⟩,⟨rfl,rfl⟩,trivial⟩ rfl (dS rfl bZ aS rfl (lV rfl (by omega)) (by omega) (by simp only[List.length_map,Int.toNat_natCast] <;> omega) (lC (k:=k) (by omega))) ?_)
     refine aX aA 1 rfl (bT [(30,_)] rfl rfl ⟨⟨rfl,rfl⟩,trivial⟩ rfl (bE gI rfl rfl rfl rfl (l2 rfl)) (aX aA 2 rfl (bL [(32,_),(33,_)] rfl rfl ⟨⟨rfl,rfl⟩,⟨rfl,rfl⟩,trivial⟩ rfl (dS rfl bZ aS (lV rfl (by omega)) rfl (by simp only[List.length_map,Int.toNat_natCast] <;> omega) (by omega) (hZ (k:=k) (by omega))) ?_)))
     refine bT [(29,_),(31,_),(34,_)] rfl rfl ⟨⟨rfl,rfl⟩,⟨rfl,rfl⟩,⟨rfl,rfl⟩,trivial⟩ rfl (bE aAu rfl rfl rfl rfl (l2 rfl)) (bT [(35,_)] rfl rfl ⟨⟨rfl,rfl⟩,trivial⟩ rfl (aQ rfl rfl wN rfl ((show Den Tryz.prog _ _ (·=.sl 4 ((l.take k++s::l.drop k).map stC)) from (cJ (vP [l.take k,[s],l.drop k] (by simp) (by simp only[List.flatten_cons,List.flatten_nil,List.length_append,List.length_take,List.length_drop,List.length_cons,List.length_nil]; omega))).mono fun r h=>h.trans (by simp)))) ?_)
     refine aX aA 1 rfl (eE [4] rfl rfl rfl (hK9 _ (aJ ?_)))
     refine⟨_,rfl,?_⟩
     rw[gX,if_neg (by omega),hins]; rfl
   ·
    simp only[bs] at hg2
    refine aX aA 9 rfl (eE [0,3,5,24] rfl rfl rfl (hK8 _ (bW rfl (aW (hK6 _ (aC (fun K10 hK10=>(eB hf bI (by kernel_rfl) rfl ?_))))))))
    have hins:=aCw s l k (by omega) h2 (fun h0 h=>by omega)
    refine aX aA 2 rfl (bL [(27,_),(28,_)] rfl rfl ⟨⟨rfl,rfl⟩,⟨rfl,rfl⟩,trivial⟩ rfl (dS rfl bZ aS rfl (lV rfl (by omega)) (by omega) (by simp only[List.length_map,Int.toNat_natCast] <;> omega) (lC (k:=k) (by omega))) ?_)
    refine aX aA 1 rfl (bT [(30,_)] rfl rfl ⟨⟨rfl,rfl⟩,trivial⟩ rfl (bE gI rfl rfl rfl rfl (l2 rfl)) (aX aA 2 rfl (bL [(32,_),(33,_)] rfl rfl ⟨⟨rfl,rfl⟩,⟨rfl,rfl⟩,trivial⟩ rfl (dS rfl bZ aS (lV rfl (by omega)) rfl (by simp only[List.length_map,Int.toNat_natCast] <;> omega) (by omega) (hZ (k:=k) (by omega))) ?_)))
    refine bT [(29,_),(31,_),(34,_)] rfl rfl ⟨⟨rfl,rfl⟩,⟨rfl,rfl⟩,⟨rfl,rfl⟩,trivial⟩ rfl (bE aAu rfl rfl rfl rfl (l2 rfl)) (bT [(35,_)] rfl rfl ⟨⟨rfl,rfl⟩,trivial⟩ rfl (aQ rfl rfl wN rfl ((show Den Tryz.prog _ _ (·=.sl 4 ((l.take k++s::l.drop k).map stC)) from (cJ (vP [l.take k,[s],l.drop k] (by simp) (by simp only[List.flatten_cons,List.flatten_nil,List.length_append,List.length_take,List.length_drop,List.length_cons,List.length_nil]; omega))).mono fun r h=>h.trans (by simp)))) ?_)
    refine aX aA 1 rfl (eE [4] rfl rfl rfl (hK10 _ (aJ ?_)))
    refine⟨_,rfl,?_⟩
    rw[gX,if_neg (by omega),hins]; rfl
theorem aNt (l:List bD) (s:bD) (hl:l.length*32+32≤140737488355328) :Den Tryz.prog 92 [.sl 4 (l.map stC),.agg (stC s)]  (·=.sl 4 ((gX l s).map stC)):=by
 refine aU Tryz.func92 rfl (Nat.le_of_ble_eq_true rfl) (fun w0 A hf=>(aC (fun K1 hK1=>(aB (aM hf rfl (cP rfl rfl (lf rfl)) (aG rfl (bH) (aD (hK1 _ (aC (fun K2 hK2=>(aC (fun K3 hK3=>(aB (aE aA 5 rfl (aD (hK3 _ ?_))))))))))))))))
 refine aK rfl (fun hc1=>?_) (fun hc1=>?_)
 ·
  simp only[bs] at hc1
  refine aC (fun K4 hK4=>(aB (aE aA 2 rfl (aD (hK4 _ (aJ ?_))))))
  refine⟨_,rfl,?_⟩
  rw[gX,if_pos (by assumption)]; rfl
 ·
  simp only[bs] at hc1
  refine aN (hK2 _ (aC (fun K5 hK5=>(aB (aE aA 1 rfl (aD (hK5 _ (aC (fun K6 hK6=>(aC (fun K7 hK7=>(aB (aE aA 1 rfl (aD (hK7 _ ?_)))))))))))))))
  refine aO (bR (ι:=Nat×Nat) (fun(⟨k,a⟩:Nat×Nat)=>⟨43,[(0,.sl 4 (l.map stC)),(3,.adr (stC s)),(5,.s (.int .i64 (a:Nat))),(6,.s (.int .i64 (k:Nat)))],[]⟩) (fun(⟨k,a⟩:Nat×Nat)=>k≤l.length∧a≤k∧(∀ (j:Nat) (hj:j<l.length),a≤j→j<k→0<gK l[j] s)∧(∀ z,l[a - 1]?=some z→0<a→gK z s≤0)) (fun(⟨k,a⟩:Nat×Nat)=>l.length - k) (0,0) ?_ ?_ ?_)
  · exact⟨Nat.zero_le _,Nat.le_refl _,by omega,by omega⟩
  · exact cX rfl
  ·
   rintro ⟨k,a⟩ hC
   obtain ⟨h1,h2,h3,h4⟩:=hC
   refine aC (fun K8 hK8=>(aC (fun K9 hK9=>(aB (aE aA 4 rfl (aD (hK9 _ (aK rfl (fun hc2=>?_) (fun hc2=>?_)))))))))
   ·
    simp only[bs] at hc2
    refine aN (hK8 _ (aC (fun K10 hK10=>(aO (aC (fun K11 hK11=>(eB hf bI (by kernel_rfl) rfl (aX aA 3 rfl ?_))))))))
    refine bL [(21,_),(22,_)] rfl rfl ⟨⟨rfl,rfl⟩,⟨rfl,rfl⟩,trivial⟩ rfl (bB rfl rfl pD jW (by first | exact ixm (by omega) | assumption | exact⟨by decide,rfl⟩)) ?_
    refine aX aA 1 rfl (bT [(20,_),(24,_)] rfl rfl ⟨⟨rfl,rfl⟩,⟨rfl,rfl⟩,trivial⟩ rfl (aQ rfl rfl aHl rfl (aIt s l[k])) (aX aA 1 rfl (eE [0,3,5,6,26] rfl rfl rfl (hK11 _ (aK rfl (fun hc3=>?_) (fun hc3=>?_))))))
    ·
     simp only[bs] at hc3
     refine aB (aE aA 1 rfl ?_)
     refine aG rfl (bO rfl rfl (by omega) (by omega)) ?_
     refine aE aA 1 rfl ?_
     refine bG ?_
     refine hK10 _ (aB (aE aA 1 rfl ?_))
     refine aG rfl (bO rfl rfl (by omega) (by omega)) ?_
     refine aE aA 1 rfl (aD ?_)
     exact⟨(k+1,k+1),⟨by omega,Nat.le_refl _,by omega,fun z hz _=>by rw[Nat.add_sub_cancel,List.getElem?_eq_getElem (by omega)] at hz; cases hz; have:=cmpS_tri.swap l[k] s; omega⟩,by simp only; omega,jB ⟨rfl,rfl,rfl,rfl,trivial⟩⟩
    ·
     simp only[bs] at hc3
     refine aN (hK10 _ (aB (aE aA 1 rfl ?_)))
     refine aG rfl (bO rfl rfl (by omega) (by omega)) ?_
     refine aE aA 1 rfl (aD ?_)
     exact⟨(k+1,a),⟨by omega,by omega,fun j hj h5 h6=>by
      by_cases e:j=k
      · subst e; have:=cmpS_tri.swap l[j] s; omega
      · exact h3 j hj h5 (by omega),h4⟩,by simp only; omega,jB ⟨rfl,rfl,rfl,rfl,trivial⟩⟩
   ·
    simp only[bs] at hc2
    refine aW (hK6 _ (aC (fun K12 hK12=>(aB ?_))))
    have hins:=aCw s l a (by omega) (fun j hj h5=>h3 j hj h5 (by omega)) (fun h0 h=>h4 _ (List.getElem?_eq_getElem h) h0)
    refine gO hf rfl rfl rfl aNo rfl rfl rfl rfl (l2 rfl) ?_
    refine aE aA 2 rfl (aG rfl (dS rfl pD jW rfl (lV rfl (by omega)) (by omega) (by simp only[List.length_map,Int.toNat_natCast] <;> omega) (lC (k:=a) (by omega))) ?_)
    refine eF hf rfl aNo rfl rfl rfl (.inl rfl) (by first | rfl | (simp only[List.length_append,List.length_map,List.length_cons,List.length_nil,List.length_take] <;> omega)) rfl (by first | rfl | simp [kA,bF]) (by first | (simp only[maxLen,List.length_map,List.length_append,List.length_cons,List.length_nil]; omega) | (simp [maxLen] <;> omega)) (by first | (simp only[List.length_map,List.length_append,List.length_cons,List.length_nil]; omega) | (simp <;> omega)) ?_
    refine cD (iX [0,3,5,33] rfl) (aE aA 1 rfl (aD (hK12 _ (aC (fun K13 hK13=>(aB (aE aA 2 rfl (aM hf rfl (bE aNo rfl rfl rfl rfl (l2 rfl)) (eF hf rfl aNo rfl rfl rfl (.inl rfl) (by first | rfl | (simp only[List.length_append,List.length_map,List.length_cons,List.length_nil,List.length_take] <;> omega)) rfl (by first | rfl | simp [kA,bF]) (by first | (simp only[maxLen,List.length_map,List.length_append,List.length_cons,List.length_nil]; omega) | (simp [maxLen] <;> omega)) (by first | (simp only[List.length_map,List.length_append,List.length_cons,List.length_nil]; omega) | (simp <;> omega)) ?_)))))))))
    refine cD (iX [0,5,37] rfl) (aE aA 1 rfl (aD (hK13 _ (aC (fun K14 hK14=>(aB (aE aA 3 rfl (aG rfl (dS rfl pD jW (lV rfl (by omega)) rfl (by simp only[List.length_map,Int.toNat_natCast] <;> omega) (by omega) (hZ (k:=a) (by omega))) ?_))))))))
    refine eF hf rfl aNo rfl rfl rfl (.inl rfl) (by first | rfl | (simp only[List.length_append,List.length_map,List.length_cons,List.length_nil,List.length_take] <;> omega)) rfl (by first | rfl | simp [kA,bF]) (by first | (simp only[maxLen,List.length_map,List.length_append,List.length_cons,List.length_nil]; omega) | (simp [maxLen] <;> omega)) (by first | (simp only[List.length_map,List.length_append,List.length_cons,List.length_nil]; omega) | (simp <;> omega)) ?_
    refine cD (iX [42] rfl) (aE aA 1 rfl (aD (hK14 _ (aJ ?_))))
    refine⟨_,rfl,?_⟩
    refine(cI (g:=29) rfl ?_).trans ?_
    · simp only[List.length_append,List.length_map,List.length_cons,List.length_nil,List.length_take]
    · rw[gX,if_neg (by omega),hins]; first | (simp; done) | (simp; rfl)
end Go.Proofs.YthapfogcaklbbaaGreat
set_option linter.unusedVariables false
set_option linter.unusedSimpArgs false
namespace Go.Proofs.YthapfogcaklbbaaGreat
open Go Go.Abs
theorem kQ (s:Sta) (u:ByteArray) (x:bD) (hz:SzS 140737488355200 s) (hr:cR cM s.usr) :DenX Tryz.prog 187 [.agg (dK s E0 E1),.s (.string u),.agg (stC x)] [(E0,.buf 2 (s.usr.map usC)),(E1,.buf 2 (s.tmb.map tmC))] (fun r m=>r=.agg (dK (dF s u x) E0 E1)∧m=[(E0,.buf 2 ((dF s u x).usr.map usC)),(E1,.buf 2 ((dF s u x).tmb.map tmC))]):=by
 have z1:=hz.o
 have z2:=hz.u
 have z3:=hz.b
 have z4:=hz.t
 have hlm:(s.usr.map usC).length=s.usr.length:=List.length_map _
 have hpl:=tP (key:=cM) s.usr u
 refine fW [(E0,G0),(E1,G1)] Tryz.func187 rfl (Nat.le_of_ble_eq_true rfl) (args':=[.agg (dK s G0 G1),.s (.string u),.agg (stC x)]) (m':=[(G0,.buf 2 (s.usr.map usC)),(G1,.buf 2 (s.tmb.map tmC))]) rfl rfl (by decide) (by decide) rfl (fun w0 o0 A hf=>?_)
 refine aC (fun K1 hK1=>(aB (pX hf rfl rfl rfl rfl (l1 rfl) ?_)))
 refine aM hf rfl (cP rfl rfl (lf rfl)) (bJ hf rfl rfl rfl bC (aD (hK1 _ (aC (fun K2 hK2=>(aC (fun K3 hK3=>(aB (aE aA 2 rfl (aM hf rfl (aQ rfl rfl oD rfl (tR x.1)) (aD (hK3 _ (aK rfl (fun hc1=>?_) (fun hc1=>?_))))))))))))))
 ·
  simp only[bs] at hc1
  refine aC (fun K4 hK4=>(aB (aG rfl (bP (cs':=dK s G0 G1) rfl lK cF rfl rfl rfl) (aT hf rfl rfl cF rfl rfl (l1 rfl) (l4 rfl) rfl (aD (hK4 _ (aJ ?_)))))))
  rw[jS (by assumption)]
  exact⟨_,[(E0,G0),(E1,G1)],_,Le.refl _,by decide,rfl,rfl,⟨rfl,rfl⟩⟩
 ·
  simp only[bs] at hc1
  have hx:¬ x.1.2≤x.1.1:=by simpa using hc1
  refine aN (hK2 _ (aC (fun K5 hK5=>(aB (aE aA 3 rfl (aM hf rfl (pN rfl rfl (by show [AV.conv _ _,_,_]=_; rw[cI (g:=G0) rfl rfl]; rfl) aAn (xQ s.usr u (by omega) hr) rfl) ?_))))))
  refine aE aA 5 rfl (aD (hK5 _ (aC (fun K6 hK6=>(aC (fun K7 hK7=>(aB (aE aA 1 rfl (aD (hK7 _ (aK rfl (fun hc2=>?_) (fun hc2=>?_))))))))))))
  ·
   obtain ⟨hk,he⟩:=zG hr (show jZ cM s.usr u=true by assumption)
   refine aC (fun K8 hK8=>(iR hf (L:=#[true,true,true,true,true,true,true,true,true,true,true,true,true,false]) 13 1 bI (by kernel_rfl) rfl (by kernel_rfl) rfl ?_))
   refine aX aA 6 rfl ?_
   refine bL [(25,_),(26,_)] rfl rfl ⟨⟨rfl,rfl⟩,⟨rfl,rfl⟩,trivial⟩ rfl (bN rfl rfl eL dQ (by omega)) ?_
   refine aX aA 1 rfl (bL [(28,_)] rfl rfl ⟨⟨rfl,rfl⟩,trivial⟩ rfl (zA rfl aF9 rfl ((aEm (by omega) hk 1).trans rfl)) (aX aA 1 rfl (bT [(29,_),(30,_)] rfl rfl ⟨⟨rfl,rfl⟩,⟨rfl,rfl⟩,trivial⟩ rfl (aQ rfl rfl sY rfl (aAi s.usr[cN cM s.usr u].2 x (by have:=hz.y _ (List.getElem_mem hk); omega))) ?_)))
   refine bL [(22,_),(23,_)] rfl rfl ⟨⟨rfl,rfl⟩,⟨rfl,rfl⟩,trivial⟩ rfl (bN rfl rfl eL dQ (by omega)) ?_
   refine aX aA 1 rfl (vC [3,6,31,33] rfl rfl rfl ?_)
   refine aI 13 [] (by kernel_rfl) ⟨?_,trivial⟩
   ·
    refine⟨_,rfl,rfl,(ao rfl (aT hf rfl rfl uO rfl rfl (by simp [AV.cells,AV.one,Value.oneCell']) (by simp [AV.cells,AV.leaf,Value.oneCell']) (gE (c:=2) (k:=cN cM s.usr u) (f:=1) (enc:=usC) (v:=(s.usr[cN cM s.usr u].1,gX s.usr[cN cM s.usr u].2 x)) (by omega) hk rfl (Nat.le_of_ble_eq_true rfl)) ?_))⟩
    refine aF (dC (by kernel_rfl) ?_)
    refine hK8 _ (aC (fun K9 hK9=>(aB ?_)))
    rw[aJ5 hr (by assumption) hx hk,show dK s G0 G1=dK (dF s u x) G0 G1 from by simp only[dK,dF]; rw[show ((kK s.usr u x).map usC).length=(s.usr.map usC).length from by rw[← aJ5 hr (by assumption) hx hk,List.length_map,List.length_map,List.length_set]]]
    refine aG rfl (bP (cs':=dK (dF s u x) G0 G1) rfl lK cF rfl rfl rfl) (aT hf rfl rfl cF rfl rfl (l1 rfl) (l4 rfl) rfl (aD (hK9 _ (aJ ?_))))
    exact⟨_,[(E0,G0),(E1,G1)],_,Le.refl _,by decide,rfl,rfl,⟨rfl,rfl⟩⟩
  ·
   have hno:jZ cM s.usr u=false:=by simp_all
   refine aM3 (xI (nee G0) (sl':=[(1,_),(3,_),(5,_),(6,_),(7,_)]) (m':=[(6,.box [.s (.int .i64 0),.s (.int .i64 0),.s (.slice none 0 0),.s (.slice none 0 0),.s (.slice none 0 0),.s (.slice none 0 0)]),(3,.box [.s (.int .i64 s.now),.s (.int .i64 s.hor),.sl 4 (s.opn.map seC),.sl 2 (s.usr.map usC),.sl 4 (s.sub.map enC),.own G1 2 0 (s.tmb.map tmC).length]),(G1,.buf 2 (s.tmb.map tmC))]) ⟨⟨_,rfl,rfl⟩,⟨_,rfl,rfl⟩,⟨_,rfl,rfl⟩,⟨_,rfl,rfl⟩,⟨_,rfl,rfl⟩,trivial⟩ (Eq.trans (show _=[(6,AM.box [.s (.int .i64 0),.s (.int .i64 0),.s (.slice none 0 0),.s (.slice none 0 0),.s (.slice none 0 0),.s (.slice none 0 0)]),(3,.box [.s (.int .i64 s.now),.s (.int .i64 s.hor),.sl 4 (s.opn.map seC),AV.only (nee G0) [(6,.box [.s (.int .i64 0),.s (.int .i64 0),.s (.slice none 0 0),.s (.slice none 0 0),.s (.slice none 0 0),.s (.slice none 0 0)]),(3,.box (dK s G0 G1)),(G0,.buf 2 (s.usr.map usC)),(G1,.buf 2 (s.tmb.map tmC))] (.own G0 2 0 (s.usr.map usC).length),.sl 4 (s.sub.map enC),.own G1 2 0 (s.tmb.map tmC).length]),(G1,.buf 2 (s.tmb.map tmC))] from rfl) (by rw[zE (ok:=nee G0) (g:=G0) rfl rfl rfl]))) ?_
   refine aN (hK6 _ (aC (fun K10 hK10=>(iR hf (L:=#[true,true,true,true,true,true,true,true,true,true,true,true,true,true,false,false,false]) 14 3 bI (by kernel_rfl) rfl (by kernel_rfl) rfl ?_))))
   refine aX aA 3 rfl (bL [(36,_),(37,_)] rfl rfl ⟨⟨rfl,rfl⟩,⟨rfl,rfl⟩,trivial⟩ rfl (dS rfl eL dQ rfl (lV rfl (by omega)) (by omega) (by omega) (lC (by omega))) (aX aA 2 rfl (bT [(40,_)] rfl rfl ⟨⟨rfl,rfl⟩,trivial⟩ rfl (bE gI rfl rfl rfl rfl (l2 rfl)) (bL [(39,_),(41,_)] rfl rfl ⟨⟨rfl,rfl⟩,⟨rfl,rfl⟩,trivial⟩ rfl (cS rfl rP aAk (l3 rfl) rfl) (bT [(42,_)] rfl rfl ⟨⟨rfl,rfl⟩,trivial⟩ rfl (bE jX rfl rfl rfl rfl (l2 rfl)) (aX aA 3 rfl (bL [(45,_),(46,_)] rfl rfl ⟨⟨rfl,rfl⟩,⟨rfl,rfl⟩,trivial⟩ rfl (dS rfl eL dQ (lV rfl (by omega)) rfl (by omega) (by omega) (hZ (by omega))) ?_)))))))
   refine bT [(38,_),(43,_),(47,_)] rfl rfl ⟨⟨rfl,rfl⟩,⟨rfl,rfl⟩,⟨rfl,rfl⟩,trivial⟩ rfl (bE aJg rfl rfl rfl rfl (l2 rfl)) (vC [3,6,48] rfl rfl rfl ?_)
   refine aI 14 [] (by kernel_rfl) ⟨?_,trivial⟩
   ·
    refine⟨_,rfl,rfl,(ao rfl (fR hf rfl rfl rfl rfl rfl aGs rfl (aDs [s.usr.take (cN cM s.usr u),[(u,[x])],s.usr.drop (cN cM s.usr u)] (by simp) (by simp only[List.flatten_cons,List.flatten_nil,List.length_append,List.length_take,List.length_drop,List.length_cons,List.length_nil]; omega)) ?_))⟩
    rintro _ rfl
    refine aF (aI 15 [] (by kernel_rfl) ⟨?_,trivial⟩)
    ·
     refine⟨_,rfl,rfl,(ao rfl (aE aA 1 rfl (aF (aI 16 [] (by kernel_rfl) ⟨?_,trivial⟩))))⟩
     ·
      refine⟨_,rfl,rfl,(ao rfl (aT hf rfl rfl nQ rfl rfl (l1 rfl) (l4 rfl) rfl (aF (dC (by kernel_rfl) ?_))))⟩
      refine hK10 _ (aC (fun K11 hK11=>(aB ?_)))
      rw[aNc hr hno hx]
      refine aG rfl (bP (cs':=dK (dF s u x) 49 G1) rfl lK cF rfl rfl rfl) (aT hf rfl rfl cF rfl rfl (l1 rfl) (l4 rfl) rfl (aD (hK11 _ (aJ ?_))))
      exact⟨_,[(E0,49),(E1,G1)],_,Le.refl _,by decide,rfl,rfl,⟨rfl,rfl⟩⟩
end Go.Proofs.YthapfogcaklbbaaGreat
set_option linter.unusedVariables false
set_option linter.unusedSimpArgs false
namespace Go.Proofs.YthapfogcaklbbaaGreat
open Go Go.Abs
theorem vO (l:List Se) (u:ByteArray) (t:Int) (hl:l.length*40+40≤140737488355328) :Den Tryz.prog 90 [.sl 4 (l.map seC),.s (.string u),.s (.int .i64 t)]  (·=.sl 4 ((fG l u t).map stC)):=by
 refine aU Tryz.func90 rfl (Nat.le_of_ble_eq_true rfl) (fun w0 A hf=>(aC (fun K1 hK1=>(aB (aG rfl (bH) (aD (hK1 _ (aC (fun K2 hK2=>(aB (oJ hf 4 rfl rfl rfl (aD (hK2 _ (aC (fun K3 hK3=>(aC (fun K4 hK4=>?_)))))))))))))))))
 refine aB (aE aA 3 rfl (aD (hK4 _ (aO (bR (ι:=Nat×List bD) (fun(⟨k,out⟩:Nat×List bD)=>⟨38,[(1,.s (.string u)),(2,.s (.int .i64 t)),(7,.own 7 4 0 out.length),(11,.sl 4 (l.map seC)),(12,.s (.int .i64 ((l.map seC).length:Nat))),(13,.s (.int .i64 (k:Nat)))],[(7,.buf 4 (out.map stC))]⟩) (fun(⟨k,out⟩:Nat×List bD)=>k≤l.length∧out=iY (l.take k) u t∧out.length≤k) (fun(⟨k,out⟩:Nat×List bD)=>l.length - k) (0,[]) ?_ ?_ ?_)))))
 · exact⟨Nat.zero_le _,rfl,Nat.le_refl _⟩
 · exact cX rfl
 ·
  rintro ⟨k,out⟩ hC
  obtain ⟨h1,h2,h3⟩:=hC
  refine aC (fun K5 hK5=>(aB (aE aA 1 rfl (aD (hK5 _ (aC (fun K6 hK6=>(aK rfl (fun hc1=>?_) (fun hc1=>?_)))))))))
  ·
   simp only[bs,eW] at hc1
   refine aN (hK6 _ (aC (fun K7 hK7=>(aO (aC (fun K8 hK8=>(aB ?_)))))))
   refine aG rfl (bB rfl rfl dR cW (by first | exact ixm (by omega) | assumption | exact⟨by decide,rfl⟩)) ?_
   refine aE aA 1 rfl (cC hf rfl pC rfl cW rfl rfl rfl rfl (lf rfl) (aD (hK8 _ (aC (fun K9 hK9=>(aB (aE aA 2 rfl (aM hf rfl (aQ rfl rfl rA rfl (sG l[k] t)) (cC hf rfl dP rfl aS rfl rfl rfl rfl (lf rfl) (aD (hK9 _ (aC (fun K10 hK10=>(aB ?_))))))))))))))
   refine aE aA 5 rfl (aV rfl rfl rfl (fun hg2=>?_) (fun hg2=>?_))
   ·
    simp only[bs,eW] at hg2
    refine aG rfl (bQ rfl aDk aAs rfl) ?_
    refine aE aA 1 rfl (aZ rfl rfl rfl (aM hf rfl (aQ rfl rfl oD rfl (tR (eW l[k] t).1)) (aE aA 2 rfl (aD (hK10 _ (aK rfl (fun hc3=>?_) (fun hc3=>?_)))))))
    ·
     simp only[bs,eW] at hc3
     refine aB (aE aA 2 rfl (aM hf rfl (bE gI rfl rfl rfl rfl (l2 rfl)) (eF hf rfl gI rfl rfl rfl (.inl rfl) (by rw[List.length_map]) rfl (by first | rfl | simp [kA,bF]) (by first | (simp only[maxLen,List.length_map,List.length_append,List.length_cons,List.length_nil]; omega) | (simp [maxLen] <;> omega)) (by first | (simp only[List.length_map,List.length_append,List.length_cons,List.length_nil]; omega) | (simp <;> omega)) ?_)))
     refine cD (iX [1,2,11,12,13,33] rfl) (aE aA 1 rfl ?_)
     refine bG ?_
     refine hK7 _ (aB ?_)
     refine aG rfl (bO rfl rfl (by omega) (by omega)) ?_
     refine aE aA 1 rfl (aD ?_)
     exact⟨(k+1,out++[eW l[k] t]),⟨by omega,by rw[h2,iY,iY,sF _ _ k (by omega),if_pos ⟨(show rW u l[k]=true from by simp_all[rW,toList_inj]),by first | omega | exact of_decide_eq_false hc3⟩],by rw[List.length_append]; simp only[List.length_cons,List.length_nil]; omega⟩,by simp only; omega,cK ⟨rfl,rfl,(by first | rfl | (rw[List.length_append]; rfl)),rfl,rfl,rfl,trivial⟩ (by rw[List.map_append]; rfl)⟩
    ·
     simp only[bs,eW] at hc3
     refine aN (hK7 _ (aB ?_))
     refine aG rfl (bO rfl rfl (by omega) (by omega)) ?_
     refine aE aA 1 rfl (aD ?_)
     exact⟨(k+1,out),⟨by omega,by rw[h2,iY,iY,sF _ _ k (by omega),if_neg (by first | exact(fun hh=>(show ¬ rW u l[k]=true from by simp_all[rW,toList_inj]) hh.1) | (rintro ⟨_,hh⟩; exact hh (by first | omega | exact of_decide_eq_true hc3))),List.append_nil],by omega⟩,by simp only; omega,cK ⟨rfl,rfl,(by first | rfl | (rw[List.length_append]; rfl)),rfl,rfl,rfl,trivial⟩ rfl⟩
   ·
    simp only[bs,eW] at hg2
    refine aE aA 4 rfl (aD (hK10 _ (bW rfl (aN (hK7 _ (aB ?_))))))
    refine aG rfl (bO rfl rfl (by omega) (by omega)) ?_
    refine aE aA 1 rfl (aD ?_)
    exact⟨(k+1,out),⟨by omega,by rw[h2,iY,iY,sF _ _ k (by omega),if_neg (by first | exact(fun hh=>(show ¬ rW u l[k]=true from by simp_all[rW,toList_inj]) hh.1) | (rintro ⟨_,hh⟩; exact hh (by first | omega | exact of_decide_eq_true hc3))),List.append_nil],by omega⟩,by simp only; omega,cK ⟨rfl,rfl,(by first | rfl | (rw[List.length_append]; rfl)),rfl,rfl,rfl,trivial⟩ rfl⟩
  ·
   simp only[bs,eW] at hc1
   refine aW (hK3 _ (aC (fun K11 hK11=>(aB (aE aA 1 rfl (fK hf 7 rfl rfl rfl rfl rfl aHu (tH wO cmpS_tri (fun x y=>aFu x y) out _ rfl (by omega)) ?_))))))
   rintro r zs ⟨t0,ht1,ht2,rfl⟩
   refine aD (hK11 _ (aC (fun K12 hK12=>(aB (aE aA 2 rfl (aD (hK12 _ (aJ ?_))))))))
   refine⟨_,rfl,?_⟩
   refine(cI (g:=7) rfl (by rw[List.length_map,ht1.length_eq])).trans ?_
   rw[fG,aL2 ht1 ht2,h2,List.take_of_length_le (by omega)]
theorem aNw (l:List Se) (u:ByteArray) (t:Int) (hl:l.length*40+40≤140737488355328) :Den Tryz.prog 95 [.sl 4 (l.map seC),.s (.string u),.s (.int .i64 t)]  (·=.sl 4 ((fG l u t).map stC)):=by
 refine aU Tryz.func95 rfl (Nat.le_of_ble_eq_true rfl) (fun w0 A hf=>(aC (fun K1 hK1=>(aB (aG rfl (bH) (aD (hK1 _ (aC (fun K2 hK2=>(aB (aG rfl (yZ (k:=4)) (aD (hK2 _ (aC (fun K3 hK3=>(aC (fun K4 hK4=>?_)))))))))))))))))
 refine aB (aE aA 1 rfl (aD (hK4 _ (aO (bR (ι:=Nat×List bD) (fun(⟨k,out⟩:Nat×List bD)=>⟨31,[(0,.sl 4 (l.map seC)),(1,.s (.string u)),(2,.s (.int .i64 t)),(7,.sl 4 (out.map stC)),(8,.s (.int .i64 (k:Nat)))],[]⟩) (fun(⟨k,out⟩:Nat×List bD)=>k≤l.length∧out=(l.take k).foldl (aNn u t) []∧out.length≤k) (fun(⟨k,out⟩:Nat×List bD)=>l.length - k) (0,[]) ?_ ?_ ?_)))))
 · exact⟨Nat.zero_le _,rfl,Nat.le_refl _⟩
 · exact cX rfl
 ·
  rintro ⟨k,out⟩ hC
  obtain ⟨h1,h2,h3⟩:=hC
  refine aC (fun K5 hK5=>(aC (fun K6 hK6=>(aB (aE aA 4 rfl (aD (hK6 _ (aK rfl (fun hc1=>?_) (fun hc1=>?_)))))))))
  ·
   simp only[bs] at hc1
   refine aN (hK5 _ (aC (fun K7 hK7=>(aO (aC (fun K8 hK8=>(aB (aE aA 2 rfl ?_))))))))
   refine aG rfl (bB rfl rfl pE jV (by first | exact ixm (by omega) | assumption | exact⟨by decide,rfl⟩)) ?_
   refine aE aA 4 rfl (aD (hK8 _ (aK rfl (fun hc2=>?_) (fun hc2=>?_))))
   ·
    simp only[bs] at hc2
    refine aB (aE aA 3 rfl ?_)
    refine aG rfl (bB rfl rfl pE jV (by first | exact ixm (by omega) | assumption | exact⟨by decide,rfl⟩)) ?_
    refine aE aA 2 rfl (aM hf rfl (aQ rfl rfl aOd rfl (aN2 l[k] t)) (aM hf rfl (aQ rfl rfl aN1 rfl (aNt out (eW l[k] t) (by omega))) (aE aA 1 rfl ?_)))
    refine bG ?_
    refine hK7 _ (aB (aE aA 1 rfl ?_))
    refine aG rfl (bO rfl rfl (by omega) (by omega)) ?_
    refine aE aA 1 rfl (aD ?_)
    exact⟨(k+1,gX out (eW l[k] t)),⟨by omega,by rw[xU l (aNn u t) [] k (by omega),← h2,aNn,if_pos (show rW u l[k]=true from by simp_all[rW,toList_inj])],by have:=aAh out (eW l[k] t); show (gX out (eW l[k] t)).length≤k+1; omega⟩,by simp only; omega,jB ⟨rfl,rfl,rfl,rfl,rfl,trivial⟩⟩
   ·
    simp only[bs] at hc2
    refine aN (hK7 _ (aB (aE aA 1 rfl ?_)))
    refine aG rfl (bO rfl rfl (by omega) (by omega)) ?_
    refine aE aA 1 rfl (aD ?_)
    exact⟨(k+1,out),⟨by omega,by rw[xU l (aNn u t) [] k (by omega),← h2,aNn,if_neg (show ¬ rW u l[k]=true from by simp_all[rW,toList_inj])],by omega⟩,by simp only; omega,jB ⟨rfl,rfl,rfl,rfl,rfl,trivial⟩⟩
  ·
   simp only[bs] at hc1
   refine aW (hK3 _ (aC (fun K9 hK9=>(aB (aE aA 2 rfl (aD (hK9 _ (aJ ?_))))))))
   refine⟨_,rfl,?_⟩
   show AV.sl 4 (out.map stC)=_
   rw[h2,List.take_of_length_le (by omega),aOe]
end Go.Proofs.YthapfogcaklbbaaGreat
set_option linter.unusedVariables false
set_option linter.unusedSimpArgs false
namespace Go.Proofs.YthapfogcaklbbaaGreat
open Go Go.Abs
theorem dV (l:List Se) (hl:l.length*40+40≤140737488355328) :Den Tryz.prog 71 [.sl 4 (l.map seC)]  (·=.sl 4 (l.map seC)):=by
 refine aU Tryz.func71 rfl (Nat.le_of_ble_eq_true rfl) (fun w0 A hf=>(aC (fun K1 hK1=>(aB (aG rfl (bH) (aD (hK1 _ (aC (fun K2 hK2=>(aB (oJ hf 4 rfl rfl rfl (aD (hK2 _ (aC (fun K3 hK3=>(aC (fun K4 hK4=>?_)))))))))))))))))
 refine aB (aE aA 3 rfl (aD (hK4 _ (aO (bR (ι:=Nat) (fun k=>⟨18,[(3,.own 3 4 0 (l.take k).length),(6,.sl 4 (l.map seC)),(7,.s (.int .i64 ((l.map seC).length:Nat))),(8,.s (.int .i64 (k:Nat)))],[(3,.buf 4 ((l.take k).map seC))]⟩) (fun k=>k≤l.length) (fun k=>l.length - k) 0 ?_ ?_ ?_)))))
 · exact Nat.zero_le _
 · exact cX rfl
 ·
  rintro k hC
  refine aC (fun K5 hK5=>(aB (aE aA 1 rfl (aD (hK5 _ (aC (fun K6 hK6=>(aK rfl (fun hc1=>?_) (fun hc1=>?_)))))))))
  ·
   simp only[bs] at hc1
   refine aN (hK6 _ (aC (fun K7 hK7=>(aO (aC (fun K8 hK8=>(aB ?_)))))))
   refine aG rfl (bB rfl rfl pE jV (by first | exact ixm (by omega) | assumption | exact⟨by decide,rfl⟩)) ?_
   refine aE aA 1 rfl (cC hf rfl aB5 rfl jV rfl rfl rfl rfl (lf rfl) (aD (hK8 _ (aB ?_))))
   have htl:(l.take k).length=k:=by rw[List.length_take]; omega
   refine aE aA 2 rfl (aM hf rfl (bE iU rfl rfl rfl rfl (l2 rfl)) (eF hf rfl iU rfl rfl rfl (.inl rfl) (by rw[List.length_map]) rfl (by first | rfl | simp [kA,bF]) (by first | (simp only[maxLen,List.length_map,List.length_append,List.length_cons,List.length_nil]; omega) | (simp [maxLen] <;> omega)) (by first | (simp only[List.length_map,List.length_append,List.length_cons,List.length_nil]; omega) | (simp <;> omega)) ?_))
   refine cD (iX [6,7,8,15] rfl) (aE aA 1 rfl ?_)
   refine bG ?_
   refine hK7 _ (aB ?_)
   refine aG rfl (bO rfl rfl (by omega) (by omega)) ?_
   refine aE aA 1 rfl (aD ?_)
   exact⟨k+1,by omega,by omega,cK ⟨(by rw[mE l k (by omega)]; rfl),rfl,rfl,rfl,trivial⟩ (by rw[mL l seC k (by omega)]; rfl)⟩
  ·
   simp only[bs] at hc1
   refine aW (hK3 _ (aC (fun K9 hK9=>(aB (aE aA 2 rfl (aD (hK9 _ (aJ ?_))))))))
   refine⟨_,rfl,?_⟩
   refine(cI (g:=3) rfl (by rw[List.length_map])).trans ?_
   rw[List.take_of_length_le (by omega)]
theorem aAx (l:List Se) (u:ByteArray) (hl:l.length*40+40≤140737488355328) :Den Tryz.prog 224 [.sl 4 (l.map seC),.s (.string u)]  (·=.sl 4 ((l.filter (fun e=>!rW u e)).map seC)):=by
 refine aU Tryz.func224 rfl (Nat.le_of_ble_eq_true rfl) (fun w0 A hf=>(aC (fun K1 hK1=>(aB (aM hf rfl (cP rfl rfl (lf rfl)) (aG rfl (bH) (aD (hK1 _ (aC (fun K2 hK2=>(aB (aE aA 1 rfl (fR hf rfl rfl rfl rfl rfl fE rfl (fU l (by omega)) ?_)))))))))))))
 rintro _ rfl
 refine aG rfl (fV rfl) (fK hf 6 rfl rfl rfl rfl rfl aGm (wQ aGl rfl (fun _=>rfl) (fun e=>rW u e) l _ (by rw[List.length_map]) (by omega) (fun x _=>wS x u)) ?_)
 rintro r zs ⟨rfl,rfl⟩
 refine aE aA 1 rfl (aD (hK2 _ (aJ ?_)))
 refine⟨_,rfl,?_⟩
 exact cI (g:=6) rfl (by rw[List.length_map])
theorem aQg (l:List Se) (u:ByteArray) (hl:l.length*40+40≤140737488355328) :Den Tryz.prog 152 [.sl 4 (l.map seC),.s (.string u)]  (·=.sl 4 ((l.filter (fun e=>!rW u e)).map seC)):=by
 refine aU Tryz.func152 rfl (Nat.le_of_ble_eq_true rfl) (fun w0 A hf=>(aC (fun K1 hK1=>(aB (aG rfl (bH) (aD (hK1 _ (aC (fun K2 hK2=>(aB (oJ hf 4 rfl rfl rfl (aD (hK2 _ (aC (fun K3 hK3=>(aC (fun K4 hK4=>?_)))))))))))))))))
 refine aB (aE aA 1 rfl (aD (hK4 _ (aO (bR (ι:=Nat×List Se) (fun(⟨k,out⟩:Nat×List Se)=>⟨28,[(0,.sl 4 (l.map seC)),(1,.s (.string u)),(5,.own 5 4 0 out.length),(6,.s (.int .i64 (k:Nat)))],[(5,.buf 4 (out.map seC))]⟩) (fun(⟨k,out⟩:Nat×List Se)=>k≤l.length∧out=(l.take k).filter (fun e=>!rW u e)∧out.length≤k) (fun(⟨k,out⟩:Nat×List Se)=>l.length - k) (0,[]) ?_ ?_ ?_)))))
 · exact⟨Nat.zero_le _,rfl,Nat.le_refl _⟩
 · exact cX rfl
 ·
  rintro ⟨k,out⟩ hC
  obtain ⟨h1,h2,h3⟩:=hC
  refine aC (fun K5 hK5=>(aC (fun K6 hK6=>(aB (aE aA 4 rfl (aD (hK6 _ (aK rfl (fun hc1=>?_) (fun hc1=>?_)))))))))
  ·
   simp only[bs] at hc1
   refine aN (hK5 _ (aC (fun K7 hK7=>(aO (aC (fun K8 hK8=>(aB (aE aA 2 rfl ?_))))))))
   refine aG rfl (bB rfl rfl pE jV (by first | exact ixm (by omega) | assumption | exact⟨by decide,rfl⟩)) ?_
   refine aE aA 4 rfl (aD (hK8 _ (aK rfl (fun hc2=>?_) (fun hc2=>?_))))
   ·
    simp only[bs] at hc2
    refine aB (aE aA 3 rfl ?_)
    refine aG rfl (bB rfl rfl pE jV (by first | exact ixm (by omega) | assumption | exact⟨by decide,rfl⟩)) ?_
    refine aE aA 1 rfl (aM hf rfl (bE aPb rfl rfl rfl rfl (l2 rfl)) (eF hf rfl aPb rfl rfl rfl (.inl rfl) (by rw[List.length_map]) rfl (by first | rfl | simp [kA,bF]) (by first | (simp only[maxLen,List.length_map,List.length_append,List.length_cons,List.length_nil]; omega) | (simp [maxLen] <;> omega)) (by first | (simp only[List.length_map,List.length_append,List.length_cons,List.length_nil]; omega) | (simp <;> omega)) ?_))
    refine cD (iX [0,1,6,26] rfl) (aE aA 1 rfl ?_)
    refine bG ?_
    refine hK7 _ (aB (aE aA 1 rfl ?_))
    refine aG rfl (bO rfl rfl (by omega) (by omega)) ?_
    refine aE aA 1 rfl (aD ?_)
    exact⟨(k+1,out++[l[k]]),⟨by omega,by rw[h2,aS5 (by omega) (by simp_all[rW,toList_inj])],by rw[List.length_append]; simp only[List.length_cons,List.length_nil]; omega⟩,by simp only; omega,cK ⟨rfl,rfl,(by rw[List.length_append]; rfl),rfl,trivial⟩ (by rw[List.map_append]; rfl)⟩
   ·
    simp only[bs] at hc2
    refine aN (hK7 _ (aB (aE aA 1 rfl ?_)))
    refine aG rfl (bO rfl rfl (by omega) (by omega)) ?_
    refine aE aA 1 rfl (aD ?_)
    exact⟨(k+1,out),⟨by omega,by rw[h2,aSf (by omega) (by simp_all[rW,toList_inj])],by omega⟩,by simp only; omega,cK ⟨rfl,rfl,rfl,rfl,trivial⟩ rfl⟩
  ·
   simp only[bs] at hc1
   refine aW (hK3 _ (aC (fun K9 hK9=>(aB (aE aA 2 rfl (aD (hK9 _ (aJ ?_))))))))
   refine⟨_,rfl,?_⟩
   refine(cI (g:=5) rfl (by rw[List.length_map])).trans ?_
   rw[h2,List.take_of_length_le (by omega)]
end Go.Proofs.YthapfogcaklbbaaGreat
set_option linter.unusedVariables false
set_option linter.unusedSimpArgs false
namespace Go.Proofs.YthapfogcaklbbaaGreat
open Go Go.Abs
theorem aKz (l:List En) (p:Pr) (t:Int) (hl:l.length*48+48≤140737488355328) :Den Tryz.prog 184 [.sl 4 (l.map enC),.agg (prC p),.s (.int .i64 t)]  (·=.tup [.sl 4 ((if onB l p then [] else hJ l p t).map enC),.s (.int .i64 (if onB l p then 90 else 0))]):=by
 refine aU Tryz.func184 rfl (Nat.le_of_ble_eq_true rfl) (fun w0 A hf=>(aC (fun K1 hK1=>(aB (aM hf rfl (cP rfl rfl (lf rfl)) (aG rfl (bH) (aE aA 1 rfl (aD (hK1 _ (aC (fun K2 hK2=>(aC (fun K3 hK3=>(aB (aE aA 2 rfl (aM hf rfl (aQ rfl rfl aG3 rfl (aE8 _ _ (by omega))) ?_))))))))))))))))
 refine aD (hK3 _ (aK rfl (fun hc1=>?_) (fun hc1=>?_)))
 ·
  refine aC (fun K4 hK4=>(aB (aG rfl (yZ (k:=4)) (aE aA 1 rfl (aD (hK4 _ (aJ ?_)))))))
  refine⟨_,rfl,?_⟩
  rw[show onB l p=true by assumption]; rfl
 ·
  refine aN (hK2 _ (aC (fun K5 hK5=>(aB (aE aA 2 rfl (aG rfl (cS rfl uG rQ (l3 rfl) rfl) (aG rfl (cS rfl kS aAj (l3 rfl) rfl) (cC hf rfl kS rfl eC rfl rfl rfl rfl (lf rfl) (aD (hK5 _ (aC (fun K6 hK6=>(aB (aE aA 1 rfl ?_))))))))))))))
  refine aG rfl (fV rfl) (aM hf rfl (aQ rfl rfl qY rfl (nC aG2 rfl (fun x=>decide (0<kE x (p,(t,1099511627776)))) l (by omega) (fun x _=>aIi x (p,(t,1099511627776))))) (aE aA 1 rfl (aD (hK6 _ (aC (fun K7 hK7=>(aC (fun K8 hK8=>(aB (aE aA 2 rfl (aD (hK8 _ (aK rfl (fun hc2=>?_) (fun hc2=>?_))))))))))))))
  ·
   simp only[bs] at hc2
   obtain ⟨k,hk⟩:∃ k:Nat,k=l.length:=⟨_,rfl⟩
   have hno:∀ x∈l,¬ 0<kE x (p,(t,1099511627776)):=by
     rcases dM (fun x=>decide (0<kE x (p,(t,1099511627776)))) l with ⟨_,h⟩ | ⟨k',_,e,_⟩
     · intro x hx; simpa using h x hx
     · exfalso; omega
   have hins:=aCy (p,(t,1099511627776)) l k (by omega) (fun j hj _=>hno _ (List.getElem_mem hj)) (fun h=>by omega)
   refine aB (aE aA 2 rfl ?_)
   rw[List.length_map,← hk]
   refine aE aA 1 rfl (aD (hK7 _ (aC (fun K9 hK9=>(eB hf bI (by kernel_rfl) rfl (aX aA 2 rfl (bL [(24,_),(25,_)] rfl rfl ⟨⟨rfl,rfl⟩,⟨rfl,rfl⟩,trivial⟩ rfl (dS rfl eY eC rfl (lV rfl (by omega)) (by omega) (by simp only[List.length_map,Int.toNat_natCast] <;> omega) (lC (k:=k) (by omega))) ?_)))))))
   refine aX aA 1 rfl (bT [(27,_)] rfl rfl ⟨⟨rfl,rfl⟩,trivial⟩ rfl (bE aTo rfl rfl rfl rfl (l2 rfl)) (aX aA 2 rfl (bL [(29,_),(30,_)] rfl rfl ⟨⟨rfl,rfl⟩,⟨rfl,rfl⟩,trivial⟩ rfl (dS rfl eY eC (lV rfl (by omega)) rfl (by simp only[List.length_map,Int.toNat_natCast] <;> omega) (by omega) (hZ (k:=k) (by omega))) ?_)))
   refine bT [(26,_),(28,_),(31,_)] rfl rfl ⟨⟨rfl,rfl⟩,⟨rfl,rfl⟩,⟨rfl,rfl⟩,trivial⟩ rfl (bE aAt rfl rfl rfl rfl (l2 rfl)) (bT [(32,_)] rfl rfl ⟨⟨rfl,rfl⟩,trivial⟩ rfl (aQ rfl rfl wJ rfl ((show Den Tryz.prog _ _ (·=.sl 4 ((l.take k++(p,(t,1099511627776))::l.drop k).map enC)) from (cJ (vZ [l.take k,[(p,(t,1099511627776))],l.drop k] (by simp) (by simp only[List.flatten_cons,List.flatten_nil,List.length_append,List.length_take,List.length_drop,List.length_cons,List.length_nil]; omega))).mono fun r h=>h.trans (by simp)))) ?_)
   refine aX aA 2 rfl (eE [6,7] rfl rfl rfl (hK9 _ (aJ ?_)))
   refine⟨_,rfl,?_⟩
   rw[show onB l p=false from by first | assumption | (simp at *; assumption),← hins]; rfl
  ·
   simp only[bs] at hc2
   obtain ⟨k,hk,ek,hk1,hk2⟩:∃ k:Nat,∃ h:k<l.length,nA (fun x=>decide (0<kE x (p,(t,1099511627776)))) l=(k:Nat)∧0<kE l[k] (p,(t,1099511627776))∧∀ (j:Nat) (hj:j<l.length),j<k→¬ 0<kE l[j] (p,(t,1099511627776)):=by
     rcases dM (fun x=>decide (0<kE x (p,(t,1099511627776)))) l with ⟨e,_⟩ | ⟨k',h1,e,h2,h3⟩
     · exfalso; omega
     · exact⟨k',h1,e,by simpa using h2,fun j hj hjk=>by simpa using h3 j hj hjk⟩
   rw[ek]
   have hins:=aCy (p,(t,1099511627776)) l k (by omega) hk2 (fun _=>hk1)
   refine aN (hK7 _ (aC (fun K10 hK10=>(eB hf bI (by kernel_rfl) rfl (aX aA 2 rfl (bL [(24,_),(25,_)] rfl rfl ⟨⟨rfl,rfl⟩,⟨rfl,rfl⟩,trivial⟩ rfl (dS rfl eY eC rfl (lV rfl (by omega)) (by omega) (by simp only[List.length_map,Int.toNat_natCast] <;> omega) (lC (k:=k) (by omega))) ?_))))))
   refine aX aA 1 rfl (bT [(27,_)] rfl rfl ⟨⟨rfl,rfl⟩,trivial⟩ rfl (bE aTo rfl rfl rfl rfl (l2 rfl)) (aX aA 2 rfl (bL [(29,_),(30,_)] rfl rfl ⟨⟨rfl,rfl⟩,⟨rfl,rfl⟩,trivial⟩ rfl (dS rfl eY eC (lV rfl (by omega)) rfl (by simp only[List.length_map,Int.toNat_natCast] <;> omega) (by omega) (hZ (k:=k) (by omega))) ?_)))
   refine bT [(26,_),(28,_),(31,_)] rfl rfl ⟨⟨rfl,rfl⟩,⟨rfl,rfl⟩,⟨rfl,rfl⟩,trivial⟩ rfl (bE aAt rfl rfl rfl rfl (l2 rfl)) (bT [(32,_)] rfl rfl ⟨⟨rfl,rfl⟩,trivial⟩ rfl (aQ rfl rfl wJ rfl ((show Den Tryz.prog _ _ (·=.sl 4 ((l.take k++(p,(t,1099511627776))::l.drop k).map enC)) from (cJ (vZ [l.take k,[(p,(t,1099511627776))],l.drop k] (by simp) (by simp only[List.flatten_cons,List.flatten_nil,List.length_append,List.length_take,List.length_drop,List.length_cons,List.length_nil]; omega))).mono fun r h=>h.trans (by simp)))) ?_)
   refine aX aA 2 rfl (eE [6,7] rfl rfl rfl (hK10 _ (aJ ?_)))
   refine⟨_,rfl,?_⟩
   rw[show onB l p=false from by first | assumption | (simp at *; assumption),← hins]; rfl
end Go.Proofs.YthapfogcaklbbaaGreat
set_option linter.unusedVariables false
set_option linter.unusedSimpArgs false
namespace Go.Proofs.YthapfogcaklbbaaGreat
open Go Go.Abs
theorem of_den (e:En) (p:Pr) :Den Tryz.prog 177 [.agg (enC e),.agg (prC p)]  (·=.s (.bool (ofB p e))):=by
 refine aU Tryz.func177 rfl (Nat.le_of_ble_eq_true rfl) (fun w0 A hf=>(aC (fun K1 hK1=>(aB (aM hf rfl (cP rfl rfl (lf rfl)) (aM hf rfl (cP rfl rfl (lf rfl)) (aE aA 1 rfl (aD (hK1 _ (aC (fun K2 hK2=>(aB (aE aA 6 rfl (aV rfl rfl rfl (fun hg1=>?_) (fun hg1=>?_)))))))))))))))
 ·
  simp only[bs] at hg1
  refine aG rfl (bQ rfl aDh bS rfl) ?_
  refine aE aA 6 rfl (aD (hK2 _ (aJ ?_)))
  refine⟨_,rfl,?_⟩
  refine aP ?_
  unfold ofB
  rw[Bool.eq_iff_iff]
  simp_all[Prod.ext_iff,toList_inj]
 ·
  simp only[bs] at hg1
  refine aE aA 6 rfl (aD (hK2 _ (aJ ?_)))
  refine⟨_,rfl,?_⟩
  refine aP ?_
  unfold ofB
  rw[Bool.eq_iff_iff]
  simp_all[Prod.ext_iff,toList_inj]
theorem aIu (a b:En) (h1:TS a.1.1) (h2:TS a.1.2) (h3:TS b.1.1) (h4:TS b.1.2) :Den Tryz.prog 141 [.agg (enC a),.agg (enC b)]  (·=.s (.bool (decide (kE a b<0)))):=by
 refine aU Tryz.func141 rfl (Nat.le_of_ble_eq_true rfl) (fun w0 A hf=>(aC (fun K1 hK1=>(aB (aM hf rfl (cP rfl rfl (lf rfl)) (aM hf rfl (cP rfl rfl (lf rfl)) (aE aA 1 rfl (aD (hK1 _ (aC (fun K2 hK2=>(aB (aE aA 4 rfl (aM hf rfl (aQ rfl rfl pU rfl (Nm.refCmp_den _ _ (by first | assumption | exact(ht _ (List.getElem_mem _)).1 | exact(ht _ (List.getElem_mem _)).2) (by first | assumption | exact(ht _ (List.getElem_mem _)).1 | exact(ht _ (List.getElem_mem _)).2))) ?_))))))))))))))
 refine aE aA 1 rfl (aD (hK2 _ (aC (fun K3 hK3=>(aC (fun K4 hK4=>(aB (aE aA 2 rfl (aD (hK4 _ (aK rfl (fun hc1=>?_) (fun hc1=>?_))))))))))))
 ·
  simp only[bs] at hc1
  refine aC (fun K5 hK5=>(aB (aE aA 3 rfl (aD (hK5 _ (aJ ?_))))))
  refine⟨_,rfl,?_⟩
  refine aP ?_
  unfold kE oR rK
  simp only[orI,iQ]
  rw[Bool.eq_iff_iff]
  (repeat' split) <;> simp_all <;> omega
 ·
  simp only[bs] at hc1
  refine aN (hK3 _ (aC (fun K6 hK6=>(aB (aE aA 4 rfl (aM hf rfl (aQ rfl rfl pU rfl (Nm.refCmp_den _ _ (by first | assumption | exact(ht _ (List.getElem_mem _)).1 | exact(ht _ (List.getElem_mem _)).2) (by first | assumption | exact(ht _ (List.getElem_mem _)).1 | exact(ht _ (List.getElem_mem _)).2))) ?_))))))
  refine aE aA 1 rfl (aD (hK6 _ (aC (fun K7 hK7=>(aC (fun K8 hK8=>(aB (aE aA 2 rfl (aD (hK8 _ (aK rfl (fun hc2=>?_) (fun hc2=>?_))))))))))))
  ·
   simp only[bs] at hc2
   refine aC (fun K9 hK9=>(aB (aE aA 3 rfl (aD (hK9 _ (aJ ?_))))))
   refine⟨_,rfl,?_⟩
   refine aP ?_
   unfold kE oR rK
   simp only[orI,iQ]
   rw[Bool.eq_iff_iff]
   (repeat' split) <;> simp_all <;> omega
  ·
   simp only[bs] at hc2
   refine aN (hK7 _ (aC (fun K10 hK10=>(aB (aE aA 6 rfl (aD (hK10 _ (aJ ?_))))))))
   refine⟨_,rfl,?_⟩
   refine aP ?_
   unfold kE oR rK
   simp only[orI,iQ]
   rw[Bool.eq_iff_iff]
   (repeat' split) <;> simp_all <;> omega
theorem aQb (l:List En) (p:Pr) (hl:l.length≤9223372036854775807) :Den Tryz.prog 207 [.sl 4 (l.map enC),.agg (prC p)]  (·=.s (.int .i64 (nA (eX p) l))):=by
 refine aU Tryz.func207 rfl (Nat.le_of_ble_eq_true rfl) (fun w0 A hf=>(aC (fun K1 hK1=>(aB (aM hf rfl (cP rfl rfl (lf rfl)) (aE aA 1 rfl (aD (hK1 _ (aC (fun K2 hK2=>(aC (fun K3 hK3=>(aB (aE aA 1 rfl (aD (hK3 _ ?_))))))))))))))))
 refine aO (bR (ι:=Nat) (fun k=>⟨27,[(0,.sl 4 (l.map enC)),(3,.adr (prC p)),(5,.s (.int .i64 (k:Nat)))],[]⟩) (fun k=>k≤l.length∧∀ (j:Nat) (hj:j<l.length),j<k→eX p l[j]=false) (fun k=>l.length - k) 0 ?_ ?_ ?_)
 · exact⟨Nat.zero_le _,by omega⟩
 · exact cX rfl
 ·
  rintro k hC
  obtain ⟨h1,h2⟩:=hC
  refine aC (fun K4 hK4=>(aC (fun K5 hK5=>(aB (aE aA 4 rfl (aD (hK5 _ (aK rfl (fun hc1=>?_) (fun hc1=>?_)))))))))
  ·
   simp only[bs] at hc1
   refine aN (hK4 _ (aC (fun K6 hK6=>(aO (aC (fun K7 hK7=>(eB hf bI (by kernel_rfl) rfl (aX aA 2 rfl ?_))))))))
   refine bL [(12,_),(13,_)] rfl rfl ⟨⟨rfl,rfl⟩,⟨rfl,rfl⟩,trivial⟩ rfl (bB rfl rfl nM gZ (by first | exact ixm (by omega) | assumption | exact⟨by decide,rfl⟩)) ?_
   refine aX aA 2 rfl (bT [(15,_),(16,_)] rfl rfl ⟨⟨rfl,rfl⟩,⟨rfl,rfl⟩,trivial⟩ rfl (aQ rfl rfl aR5 rfl (of_den _ _)) (aX aA 1 rfl (gA 18 true rfl (fun hg2=>?_) (fun hg2=>?_))))
   ·
    refine aX aA 2 rfl ?_
    refine bL [(19,_),(20,_)] rfl rfl ⟨⟨rfl,rfl⟩,⟨rfl,rfl⟩,trivial⟩ rfl (bB rfl rfl nM gZ (by first | exact ixm (by omega) | assumption | exact⟨by decide,rfl⟩)) ?_
    refine aX aA 4 rfl (eE [0,3,5,25] rfl rfl rfl (hK7 _ (aK rfl (fun hc3=>?_) (fun hc3=>?_))))
    ·
     simp only[bs] at hc3
     refine aC (fun K8 hK8=>(aB (aE aA 2 rfl (aD (hK8 _ (aJ ?_))))))
     refine⟨_,rfl,?_⟩
     refine dZ ?_
     rw[mZ (by omega) h2 (by simp_all[eX,ofB])]
    ·
     simp only[bs] at hc3
     refine aN (hK6 _ (aB (aE aA 1 rfl ?_)))
     refine aG rfl (bO rfl rfl (by omega) (by omega)) ?_
     refine aE aA 1 rfl (aD ?_)
     exact⟨k+1,⟨by omega,fun j hj hjk=>by
       by_cases e:j=k
       · subst e; simp_all[eX,ofB]
       · exact h2 j hj (by omega)⟩,by omega,cX rfl⟩
   ·
    simp only[bs] at hg2
    refine aX aA 7 rfl (eE [0,3,5,25] rfl rfl rfl (hK7 _ (bW rfl (aN (hK6 _ (aB (aE aA 1 rfl ?_)))))))
    refine aG rfl (bO rfl rfl (by omega) (by omega)) ?_
    refine aE aA 1 rfl (aD ?_)
    exact⟨k+1,⟨by omega,fun j hj hjk=>by
      by_cases e:j=k
      · subst e; simp_all[eX,ofB]
      · exact h2 j hj (by omega)⟩,by omega,cX rfl⟩
  ·
   simp only[bs] at hc1
   refine aW (hK2 _ (aC (fun K9 hK9=>(aB (aE aA 1 rfl (aD (hK9 _ (aJ ?_))))))))
   refine⟨_,rfl,?_⟩
   refine dZ ?_
   rw[oZ (fun j hj=>h2 j hj (by omega))]
theorem aRp (l:List En) (p:Pr) (t:Int) (hl:l.length*48+48≤140737488355328) (ht:∀ e∈l,TS e.1.1∧TS e.1.2) (hp1:TS p.1) (hp2:TS p.2) :Den Tryz.prog 150 [.sl 4 (l.map enC),.agg (prC p),.s (.int .i64 t)]  (·=.tup [.sl 4 ((if onB l p then [] else hJ l p t).map enC),.s (.int .i64 (if onB l p then 90 else 0))]):=by
 refine aU Tryz.func150 rfl (Nat.le_of_ble_eq_true rfl) (fun w0 A hf=>(aC (fun K1 hK1=>(aB (aM hf rfl (cP rfl rfl (lf rfl)) (aG rfl (bH) (aE aA 1 rfl (aD (hK1 _ (aC (fun K2 hK2=>(aC (fun K3 hK3=>(aB (aE aA 2 rfl (aM hf rfl (aQ rfl rfl aQl rfl (aQb _ _ (by omega))) ?_))))))))))))))))
 refine aE aA 1 rfl (aD (hK3 _ (aK rfl (fun hc1=>?_) (fun hc1=>?_))))
 ·
  simp only[bs] at hc1
  refine aC (fun K4 hK4=>(aB (aG rfl (yZ (k:=4)) (aE aA 1 rfl (aD (hK4 _ (aJ ?_)))))))
  refine⟨_,rfl,?_⟩
  rw[show onB l p=true from onB_t (by omega)]; rfl
 ·
  simp only[bs] at hc1
  refine aN (hK2 _ (aC (fun K5 hK5=>(aB (aE aA 5 rfl (aG rfl (cS rfl vL aSi (l3 rfl) rfl) (cC hf rfl vL rfl gZ rfl rfl rfl rfl (lf rfl) (aD (hK5 _ (aC (fun K6 hK6=>(aB (aE aA 1 rfl (aD ?_))))))))))))))
  refine hK6 _ (aC (fun K7 hK7=>(aO (bR (ι:=Nat) (fun k=>⟨50,[(0,.sl 4 (l.map enC)),(8,.adr (enC (p,(t,1099511627776)))),(9,.s (.int .i64 (k:Nat)))],[]⟩) (fun k=>k≤l.length∧∀ (j:Nat) (hj:j<l.length),j<k→¬ 0<kE l[j] (p,(t,1099511627776))) (fun k=>l.length - k) 0 ?_ ?_ ?_))))
  · exact⟨Nat.zero_le _,by omega⟩
  · exact cX rfl
  ·
   rintro k hC
   obtain ⟨h1,h2⟩:=hC
   refine aC (fun K8 hK8=>(aC (fun K9 hK9=>(eB hf bI (by kernel_rfl) rfl (aX aA 5 rfl (gA 25 true rfl (fun hg2=>?_) (fun hg2=>?_)))))))
   ·
    simp only[bs] at hg2
    refine aX aA 3 rfl ?_
    refine bL [(27,_),(28,_)] rfl rfl ⟨⟨rfl,rfl⟩,⟨rfl,rfl⟩,trivial⟩ rfl (bB rfl rfl nM gZ (by first | exact ixm (by omega) | assumption | exact⟨by decide,rfl⟩)) ?_
    refine aX aA 1 rfl (bT [(26,_),(30,_)] rfl rfl ⟨⟨rfl,rfl⟩,⟨rfl,rfl⟩,trivial⟩ rfl (aQ rfl rfl aHr rfl (aIu (p,(t,1099511627776)) _ hp1 hp2 (ht _ (List.getElem_mem _)).1 (ht _ (List.getElem_mem _)).2)) (aX aA 2 rfl (eE [0,8,9,33] rfl rfl rfl (hK9 _ (aK rfl (fun hc3=>?_) (fun hc3=>?_))))))
    ·
     simp only[bs] at hc3
     refine aN (hK8 _ (aO (aB (aE aA 1 rfl ?_))))
     refine aG rfl (bO rfl rfl (by omega) (by omega)) ?_
     refine aE aA 1 rfl ?_
     refine bG ?_
     exact⟨k+1,⟨by omega,fun j hj hjk=>by
       by_cases e:j=k
       · subst e; have:=ordE_tri.swap l[j] (p,(t,1099511627776)); (try simp only[decide_eq_true_eq,decide_eq_false_iff_not,Bool.not_eq_true'] at *); omega
       · exact h2 j hj (by omega)⟩,by omega,cX rfl⟩
    ·
     simp only[bs] at hc3
     refine aW (hK7 _ (aC (fun K10 hK10=>(aB ?_))))
     have hins:=aCy (p,(t,1099511627776)) l k (by omega) h2 (fun h=>by have:=ordE_tri.swap l[k] (p,(t,1099511627776)); (try simp only[decide_eq_true_eq,decide_eq_false_iff_not,Bool.not_eq_true'] at *); omega)
     refine gO hf rfl rfl rfl aO8 rfl rfl rfl rfl (l2 rfl) ?_
     refine aE aA 2 rfl (aG rfl (dS rfl nM gZ rfl (lV rfl (by omega)) (by omega) (by simp only[List.length_map,Int.toNat_natCast] <;> omega) (lC (k:=k) (by omega))) ?_)
     refine eF hf rfl aO8 rfl rfl rfl (.inl rfl) (by first | rfl | (simp only[List.length_append,List.length_map,List.length_cons,List.length_nil,List.length_take] <;> omega)) rfl (by first | rfl | simp [kA,bF]) (by first | (simp only[maxLen,List.length_map,List.length_append,List.length_cons,List.length_nil]; omega) | (simp [maxLen] <;> omega)) (by first | (simp only[List.length_map,List.length_append,List.length_cons,List.length_nil]; omega) | (simp <;> omega)) ?_
     refine cD (iX [0,8,9,40] rfl) (aE aA 1 rfl (aD (hK10 _ (aC (fun K11 hK11=>(aB (aE aA 2 rfl (aM hf rfl (bE aO8 rfl rfl rfl rfl (l2 rfl)) (eF hf rfl aO8 rfl rfl rfl (.inl rfl) (by first | rfl | (simp only[List.length_append,List.length_map,List.length_cons,List.length_nil,List.length_take] <;> omega)) rfl (by first | rfl | simp [kA,bF]) (by first | (simp only[maxLen,List.length_map,List.length_append,List.length_cons,List.length_nil]; omega) | (simp [maxLen] <;> omega)) (by first | (simp only[List.length_map,List.length_append,List.length_cons,List.length_nil]; omega) | (simp <;> omega)) ?_)))))))))
     refine cD (iX [0,9,44] rfl) (aE aA 1 rfl (aD (hK11 _ (aC (fun K12 hK12=>(aB (aE aA 3 rfl (aG rfl (dS rfl nM gZ (lV rfl (by omega)) rfl (by simp only[List.length_map,Int.toNat_natCast] <;> omega) (by omega) (hZ (k:=k) (by omega))) ?_))))))))
     refine eF hf rfl aO8 rfl rfl rfl (.inl rfl) (by first | rfl | (simp only[List.length_append,List.length_map,List.length_cons,List.length_nil,List.length_take] <;> omega)) rfl (by first | rfl | simp [kA,bF]) (by first | (simp only[maxLen,List.length_map,List.length_append,List.length_cons,List.length_nil]; omega) | (simp [maxLen] <;> omega)) (by first | (simp only[List.length_map,List.length_append,List.length_cons,List.length_nil]; omega) | (simp <;> omega)) ?_
     refine cD (iX [49] rfl) (aE aA 2 rfl (aD (hK12 _ (aJ ?_))))
     refine⟨_,rfl,?_⟩
     rw[show onB l p=false from aSq (by omega)]
     refine(congrArg (fun z=>AV.tup [z,.s (.int .i64 0)]) (cI (g:=36) rfl ?_)).trans ?_
     · simp only[List.length_append,List.length_map,List.length_cons,List.length_nil,List.length_take]
     · rw[if_neg (by simp),if_neg (by simp),hJ,hins]; first | (simp; done) | (simp; rfl)
   ·
    simp only[bs] at hg2
    refine aX aA 8 rfl (eE [0,8,9,33] rfl rfl rfl (hK9 _ (bW rfl (aW (hK7 _ (aC (fun K13 hK13=>(aB ?_))))))))
    have hins:=aCy (p,(t,1099511627776)) l k (by omega) h2 (fun h=>by have:=ordE_tri.swap l[k] (p,(t,1099511627776)); (try simp only[decide_eq_true_eq,decide_eq_false_iff_not,Bool.not_eq_true'] at *); omega)
    refine gO hf rfl rfl rfl aO8 rfl rfl rfl rfl (l2 rfl) ?_
    refine aE aA 2 rfl (aG rfl (dS rfl nM gZ rfl (lV rfl (by omega)) (by omega) (by simp only[List.length_map,Int.toNat_natCast] <;> omega) (lC (k:=k) (by omega))) ?_)
    refine eF hf rfl aO8 rfl rfl rfl (.inl rfl) (by first | rfl | (simp only[List.length_append,List.length_map,List.length_cons,List.length_nil,List.length_take] <;> omega)) rfl (by first | rfl | simp [kA,bF]) (by first | (simp only[maxLen,List.length_map,List.length_append,List.length_cons,List.length_nil]; omega) | (simp [maxLen] <;> omega)) (by first | (simp only[List.length_map,List.length_append,List.length_cons,List.length_nil]; omega) | (simp <;> omega)) ?_
    refine cD (iX [0,8,9,40] rfl) (aE aA 1 rfl (aD (hK13 _ (aC (fun K14 hK14=>(aB (aE aA 2 rfl (aM hf rfl (bE aO8 rfl rfl rfl rfl (l2 rfl)) (eF hf rfl aO8 rfl rfl rfl (.inl rfl) (by first | rfl | (simp only[List.length_append,List.length_map,List.length_cons,List.length_nil,List.length_take] <;> omega)) rfl (by first | rfl | simp [kA,bF]) (by first | (simp only[maxLen,List.length_map,List.length_append,List.length_cons,List.length_nil]; omega) | (simp [maxLen] <;> omega)) (by first | (simp only[List.length_map,List.length_append,List.length_cons,List.length_nil]; omega) | (simp <;> omega)) ?_)))))))))
    refine cD (iX [0,9,44] rfl) (aE aA 1 rfl (aD (hK14 _ (aC (fun K15 hK15=>(aB (aE aA 3 rfl (aG rfl (dS rfl nM gZ (lV rfl (by omega)) rfl (by simp only[List.length_map,Int.toNat_natCast] <;> omega) (by omega) (hZ (k:=k) (by omega))) ?_))))))))
    refine eF hf rfl aO8 rfl rfl rfl (.inl rfl) (by first | rfl | (simp only[List.length_append,List.length_map,List.length_cons,List.length_nil,List.length_take] <;> omega)) rfl (by first | rfl | simp [kA,bF]) (by first | (simp only[maxLen,List.length_map,List.length_append,List.length_cons,List.length_nil]; omega) | (simp [maxLen] <;> omega)) (by first | (simp only[List.length_map,List.length_append,List.length_cons,List.length_nil]; omega) | (simp <;> omega)) ?_
    refine cD (iX [49] rfl) (aE aA 2 rfl (aD (hK15 _ (aJ ?_))))
    refine⟨_,rfl,?_⟩
    rw[show onB l p=false from aSq (by omega)]
    refine(congrArg (fun z=>AV.tup [z,.s (.int .i64 0)]) (cI (g:=36) rfl ?_)).trans ?_
    · simp only[List.length_append,List.length_map,List.length_cons,List.length_nil,List.length_take]
    · rw[if_neg (by simp),if_neg (by simp),hJ,hins]; first | (simp; done) | (simp; rfl)
theorem aQ5 (l:List En) (p:Pr) (t:Int) (hl:l.length*48+48≤140737488355328) :Den Tryz.prog 151 [.sl 4 (l.map enC),.agg (prC p),.s (.int .i64 t)]  (·=.tup [.sl 4 ((if onB l p then iZ l p t else []).map enC),.s (.int .i64 (if onB l p then 0 else 91))]):=by
 refine aU Tryz.func151 rfl (Nat.le_of_ble_eq_true rfl) (fun w0 A hf=>(aC (fun K1 hK1=>(aB (aM hf rfl (cP rfl rfl (lf rfl)) (aG rfl (bH) (aE aA 1 rfl (aD (hK1 _ (aC (fun K2 hK2=>(aB (aE aA 2 rfl (aM hf rfl (aQ rfl rfl aQl rfl (aQb _ _ (by omega))) (aE aA 1 rfl ?_)))))))))))))))
 refine aD (hK2 _ (aC (fun K3 hK3=>(aC (fun K4 hK4=>(aB (aE aA 2 rfl (aD (hK4 _ (aK rfl (fun hc1=>?_) (fun hc1=>?_)))))))))))
 ·
  simp only[bs] at hc1
  refine aC (fun K5 hK5=>(aB (aG rfl (yZ (k:=4)) (aE aA 1 rfl (aD (hK5 _ (aJ ?_)))))))
  refine⟨_,rfl,?_⟩
  rw[show onB l p=false from aSq (by omega)]; rfl
 ·
  simp only[bs] at hc1
  obtain ⟨n,hn,en,hn1,hn2⟩:∃ n:Nat,∃ h:n<l.length,nA (eX p) l=(n:Nat)∧eX p l[n]=true∧∀ (j:Nat) (hj:j<l.length),j<n→eX p l[j]=false:=by
    rcases dM (eX p) l with ⟨e,_⟩ | ⟨k',h1,e,h2,h3⟩
    · exfalso; omega
    · exact⟨k',h1,e,h2,h3⟩
  rw[en]
  refine aN (hK3 _ (aC (fun K6 hK6=>(aB (oJ hf 4 rfl rfl rfl (aD (hK6 _ (aC (fun K7 hK7=>(aC (fun K8 hK8=>(aB (aE aA 1 rfl (aD (hK8 _ ?_)))))))))))))))
  refine aO (bR (ι:=Nat×List En) (fun(⟨k,out⟩:Nat×List En)=>⟨47,[(0,.sl 4 (l.map enC)),(2,.s (.int .i64 t)),(8,.s (.int .i64 (n:Nat))),(9,.own 9 4 0 out.length),(10,.s (.int .i64 (k:Nat)))],[(9,.buf 4 (out.map enC))]⟩) (fun(⟨k,out⟩:Nat×List En)=>RevI l n t k out) (fun(⟨k,out⟩:Nat×List En)=>l.length - k) (0,[]) ?_ ?_ ?_)
  · exact RevI.start t hn
  · exact cX rfl
  ·
   rintro ⟨k,out⟩ hC
   have h1:=hC.1
   have h2:=hC.len
   refine aC (fun K9 hK9=>(aC (fun K10 hK10=>(aB (aE aA 4 rfl (aD (hK10 _ (aK rfl (fun hc2=>?_) (fun hc2=>?_)))))))))
   ·
    simp only[bs] at hc2
    refine aN (hK9 _ (aC (fun K11 hK11=>(aO (aC (fun K12 hK12=>(aB (aE aA 2 rfl ?_))))))))
    refine aG rfl (bB rfl rfl nM gZ (by first | exact ixm (by omega) | assumption | exact⟨by decide,rfl⟩)) ?_
    refine aE aA 1 rfl (bJ hf rfl rfl rfl vL (aT hf rfl rfl gZ rfl rfl (l1 rfl) (l4 rfl) rfl (aD (hK12 _ (aC (fun K13 hK13=>(aC (fun K14 hK14=>(aB (aE aA 3 rfl (aD (hK14 _ (aK rfl (fun hc3=>?_) (fun hc3=>?_))))))))))))))
    ·
     simp only[bs] at hc3
     refine aB (aE aA 2 rfl (aT hf rfl rfl cE rfl rfl (l1 rfl) (l4 rfl) rfl (aD (hK13 _ (aC (fun K15 hK15=>(aB ?_)))))))
     refine cD (xI (nee 11) (sl':=[(0,.sl 4 (l.map enC)),(2,.s (.int .i64 t)),(8,.s (.int .i64 (n:Nat))),(9,.own 9 4 0 out.length),(10,.s (.int .i64 (k:Nat))),(11,.adr (enC (l[k].1,(l[k].2.1,t))))]) (m':=[(9,.buf 4 (out.map enC))]) ⟨⟨_,rfl,rfl⟩,⟨_,rfl,rfl⟩,⟨_,rfl,rfl⟩,⟨_,rfl,rfl⟩,⟨_,rfl,rfl⟩,⟨_,rfl,rfl⟩,trivial⟩ rfl) ?_
     refine aE aA 4 rfl (aV rfl rfl rfl (fun hg4=>?_) (fun hg4=>?_))
     ·
      simp only[bs] at hg4
      refine aG rfl (bQ rfl uH cE rfl) ?_
      refine aE aA 5 rfl (aD (hK15 _ (aK rfl (fun hc5=>?_) (fun hc5=>?_))))
      ·
       simp only[bs] at hc5
       refine aB (aE aA 2 rfl (aM hf rfl (bE aO8 rfl rfl rfl rfl (l2 rfl)) (eF hf rfl aO8 rfl rfl rfl (.inl rfl) (by rw[List.length_map]) rfl (by first | rfl | simp [kA,bF]) (by first | (simp only[maxLen,List.length_map,List.length_append,List.length_cons,List.length_nil]; omega) | (simp [maxLen] <;> omega)) (by first | (simp only[List.length_map,List.length_append,List.length_cons,List.length_nil]; omega) | (simp <;> omega)) ?_)))
       refine cD (iX [0,2,8,10,45] rfl) (aE aA 1 rfl ?_)
       refine bG ?_
       refine hK11 _ (aB (aE aA 1 rfl ?_))
       refine aG rfl (bO rfl rfl (by omega) (by omega)) ?_
       refine aE aA 1 rfl (aD ?_)
       exact⟨(k+1,out++[(l[k].1,(l[k].2.1,t))]),hC.keep (by omega) (by omega) (by omega),by simp only; omega,cK ⟨rfl,rfl,rfl,(by rw[List.length_append]; rfl),rfl,trivial⟩ (by rw[List.map_append]; rfl)⟩
      ·
       simp only[bs] at hc5
       refine aN (hK11 _ (aB (aE aA 1 rfl ?_)))
       refine aG rfl (bO rfl rfl (by omega) (by omega)) ?_
       refine aE aA 1 rfl (aD ?_)
       exact⟨(k+1,out),hC.gone (by omega) (by omega) (by omega),by simp only; omega,cK ⟨rfl,rfl,rfl,rfl,rfl,trivial⟩ rfl⟩
     ·
      simp only[bs] at hg4
      refine aE aA 5 rfl (aD (hK15 _ (bU rfl (aB (aE aA 2 rfl (aM hf rfl (bE aO8 rfl rfl rfl rfl (l2 rfl)) (eF hf rfl aO8 rfl rfl rfl (.inl rfl) (by rw[List.length_map]) rfl (by first | rfl | simp [kA,bF]) (by first | (simp only[maxLen,List.length_map,List.length_append,List.length_cons,List.length_nil]; omega) | (simp [maxLen] <;> omega)) (by first | (simp only[List.length_map,List.length_append,List.length_cons,List.length_nil]; omega) | (simp <;> omega)) ?_)))))))
      refine cD (iX [0,2,8,10,45] rfl) (aE aA 1 rfl ?_)
      refine bG ?_
      refine hK11 _ (aB (aE aA 1 rfl ?_))
      refine aG rfl (bO rfl rfl (by omega) (by omega)) ?_
      refine aE aA 1 rfl (aD ?_)
      (exfalso; omega)
    ·
     simp only[bs] at hc3
     refine aN (hK13 _ (aC (fun K16 hK16=>(aB ?_))))
     refine cD (xI (nee 11) (sl':=[(0,.sl 4 (l.map enC)),(2,.s (.int .i64 t)),(8,.s (.int .i64 (n:Nat))),(9,.own 9 4 0 out.length),(10,.s (.int .i64 (k:Nat))),(11,.adr (enC l[k]))]) (m':=[(9,.buf 4 (out.map enC))]) ⟨⟨_,rfl,rfl⟩,⟨_,rfl,rfl⟩,⟨_,rfl,rfl⟩,⟨_,rfl,rfl⟩,⟨_,rfl,rfl⟩,⟨_,rfl,rfl⟩,trivial⟩ rfl) ?_
     refine aE aA 4 rfl (aV rfl rfl rfl (fun hg7=>?_) (fun hg7=>?_))
     ·
      simp only[bs] at hg7
      refine aG rfl (bQ rfl uH cE rfl) ?_
      refine aE aA 5 rfl (aD (hK16 _ (aK rfl (fun hc8=>?_) (fun hc8=>?_))))
      ·
       simp only[bs] at hc8
       refine aB (aE aA 2 rfl (aM hf rfl (bE aO8 rfl rfl rfl rfl (l2 rfl)) (eF hf rfl aO8 rfl rfl rfl (.inl rfl) (by rw[List.length_map]) rfl (by first | rfl | simp [kA,bF]) (by first | (simp only[maxLen,List.length_map,List.length_append,List.length_cons,List.length_nil]; omega) | (simp [maxLen] <;> omega)) (by first | (simp only[List.length_map,List.length_append,List.length_cons,List.length_nil]; omega) | (simp <;> omega)) ?_)))
       refine cD (iX [0,2,8,10,45] rfl) (aE aA 1 rfl ?_)
       refine bG ?_
       refine hK11 _ (aB (aE aA 1 rfl ?_))
       refine aG rfl (bO rfl rfl (by omega) (by omega)) ?_
       refine aE aA 1 rfl (aD ?_)
       (exfalso; omega)
      ·
       simp only[bs] at hc8
       refine aN (hK11 _ (aB (aE aA 1 rfl ?_)))
       refine aG rfl (bO rfl rfl (by omega) (by omega)) ?_
       refine aE aA 1 rfl (aD ?_)
       (exfalso; omega)
     ·
      simp only[bs] at hg7
      refine aE aA 5 rfl (aD (hK16 _ (bU rfl (aB (aE aA 2 rfl (aM hf rfl (bE aO8 rfl rfl rfl rfl (l2 rfl)) (eF hf rfl aO8 rfl rfl rfl (.inl rfl) (by rw[List.length_map]) rfl (by first | rfl | simp [kA,bF]) (by first | (simp only[maxLen,List.length_map,List.length_append,List.length_cons,List.length_nil]; omega) | (simp [maxLen] <;> omega)) (by first | (simp only[List.length_map,List.length_append,List.length_cons,List.length_nil]; omega) | (simp <;> omega)) ?_)))))))
      refine cD (iX [0,2,8,10,45] rfl) (aE aA 1 rfl ?_)
      refine bG ?_
      refine hK11 _ (aB (aE aA 1 rfl ?_))
      refine aG rfl (bO rfl rfl (by omega) (by omega)) ?_
      refine aE aA 1 rfl (aD ?_)
      exact⟨(k+1,out++[l[k]]),hC.ne (by omega) (by omega),by simp only; omega,cK ⟨rfl,rfl,rfl,(by rw[List.length_append]; rfl),rfl,trivial⟩ (by rw[List.map_append]; rfl)⟩
   ·
    simp only[bs] at hc2
    refine aW (hK7 _ (aC (fun K17 hK17=>(aB (aE aA 3 rfl (aD (hK17 _ (aJ ?_))))))))
    refine⟨_,rfl,?_⟩
    rw[show onB l p=true from aMe hn hn1]
    refine(congrArg (fun z=>AV.tup [z,.s (.int .i64 0)]) (cI (g:=9) rfl (by rw[List.length_map]))).trans ?_
    rw[if_pos rfl,if_pos rfl,hC.fin (by omega) hn2 (fun _=>hn1)]
end Go.Proofs.YthapfogcaklbbaaGreat
set_option linter.unusedVariables false
set_option linter.unusedSimpArgs false
namespace Go.Proofs.YthapfogcaklbbaaGreat
open Go Go.Abs
theorem aQv (l:List En) (u:ByteArray) (hl:l.length*48+48≤140737488355328) :Den Tryz.prog 153 [.sl 4 (l.map enC),.s (.string u)]  (·=.sl 4 ((l.filter (fun e=>!zO u e)).map enC)):=by
 refine aU Tryz.func153 rfl (Nat.le_of_ble_eq_true rfl) (fun w0 A hf=>(aC (fun K1 hK1=>(aB (aG rfl (bH) (aD (hK1 _ (aC (fun K2 hK2=>(aB (oJ hf 4 rfl rfl rfl (aD (hK2 _ (aC (fun K3 hK3=>(aC (fun K4 hK4=>?_)))))))))))))))))
 refine aB (aE aA 1 rfl (aD (hK4 _ (aO (bR (ι:=Nat×List En) (fun(⟨k,out⟩:Nat×List En)=>⟨37,[(0,.sl 4 (l.map enC)),(1,.s (.string u)),(5,.own 5 4 0 out.length),(6,.s (.int .i64 (k:Nat)))],[(5,.buf 4 (out.map enC))]⟩) (fun(⟨k,out⟩:Nat×List En)=>k≤l.length∧out=((l.take k).filter (fun e=>!zO u e))∧out.length≤k) (fun(⟨k,out⟩:Nat×List En)=>l.length - k) (0,[]) ?_ ?_ ?_)))))
 · exact⟨Nat.zero_le _,rfl,Nat.le_refl _⟩
 · exact cX rfl
 ·
  rintro ⟨k,out⟩ hC
  obtain ⟨h1,h2,h3⟩:=hC
  refine aC (fun K5 hK5=>(aC (fun K6 hK6=>(aB (aE aA 4 rfl (aD (hK6 _ (aK rfl (fun hc1=>?_) (fun hc1=>?_)))))))))
  ·
   simp only[bs] at hc1
   refine aN (hK5 _ (aC (fun K7 hK7=>(aO (aC (fun K8 hK8=>(aB (aE aA 2 rfl ?_))))))))
   refine aG rfl (bB rfl rfl nM gZ (by first | exact ixm (by omega) | assumption | exact⟨by decide,rfl⟩)) ?_
   refine aE aA 5 rfl (aV rfl rfl rfl (fun hg2=>?_) (fun hg2=>?_))
   ·
    simp only[bs] at hg2
    refine aG rfl (gD rfl) (aE aA 1 rfl (aZ rfl rfl rfl ?_))
    refine aG rfl (bB rfl rfl nM gZ (by first | exact ixm (by omega) | assumption | exact⟨by decide,rfl⟩)) ?_
    refine aE aA 5 rfl (aD (hK8 _ (aK rfl (fun hc3=>?_) (fun hc3=>?_))))
    ·
     simp only[bs] at hc3
     refine aB (aE aA 3 rfl ?_)
     refine aG rfl (bB rfl rfl nM gZ (by first | exact ixm (by omega) | assumption | exact⟨by decide,rfl⟩)) ?_
     refine aE aA 1 rfl (aM hf rfl (bE aO8 rfl rfl rfl rfl (l2 rfl)) (eF hf rfl aO8 rfl rfl rfl (.inl rfl) (by rw[List.length_map]) rfl (by first | rfl | simp [kA,bF]) (by first | (simp only[maxLen,List.length_map,List.length_append,List.length_cons,List.length_nil]; omega) | (simp [maxLen] <;> omega)) (by first | (simp only[List.length_map,List.length_append,List.length_cons,List.length_nil]; omega) | (simp <;> omega)) ?_))
     refine cD (iX [0,1,6,35] rfl) (aE aA 1 rfl ?_)
     refine bG ?_
     refine hK7 _ (aB (aE aA 1 rfl ?_))
     refine aG rfl (bO rfl rfl (by omega) (by omega)) ?_
     refine aE aA 1 rfl (aD ?_)
     exact⟨(k+1,out++[l[k]]),⟨by omega,by rw[h2,aS5 (by omega) (hasU_f (by assumption) (by assumption))],by rw[List.length_append]; simp only[List.length_cons,List.length_nil]; omega⟩,by simp only; omega,cK ⟨rfl,rfl,(by rw[List.length_append]; rfl),rfl,trivial⟩ (by rw[List.map_append]; rfl)⟩
    ·
     simp only[bs] at hc3
     refine aN (hK7 _ (aB (aE aA 1 rfl ?_)))
     refine aG rfl (bO rfl rfl (by omega) (by omega)) ?_
     refine aE aA 1 rfl (aD ?_)
     exact⟨(k+1,out),⟨by omega,by rw[h2,aSf (by omega) (aS4 (by first | exact .inl (by assumption) | exact .inr (by assumption)))],by omega⟩,by simp only; omega,cK ⟨rfl,rfl,rfl,rfl,trivial⟩ rfl⟩
   ·
    simp only[bs] at hg2
    refine aE aA 7 rfl (aD (hK8 _ (bW rfl (aN (hK7 _ (aB (aE aA 1 rfl ?_)))))))
    refine aG rfl (bO rfl rfl (by omega) (by omega)) ?_
    refine aE aA 1 rfl (aD ?_)
    exact⟨(k+1,out),⟨by omega,by rw[h2,aSf (by omega) (aS4 (by first | exact .inl (by assumption) | exact .inr (by assumption)))],by omega⟩,by simp only; omega,cK ⟨rfl,rfl,rfl,rfl,trivial⟩ rfl⟩
  ·
   simp only[bs] at hc1
   refine aW (hK3 _ (aC (fun K9 hK9=>(aB (aE aA 2 rfl (aD (hK9 _ (aJ ?_))))))))
   refine⟨_,rfl,?_⟩
   refine(cI (g:=5) rfl (by rw[List.length_map])).trans ?_
   rw[h2,List.take_of_length_le (by omega)]
theorem aDn (l:List En) (u:ByteArray) (hl:l.length*48+48≤140737488355328) :Den Tryz.prog 225 [.sl 4 (l.map enC),.s (.string u)]  (·=.sl 4 ((l.filter fun e=>!zO u e).map enC)):=by
 refine aU Tryz.func225 rfl (Nat.le_of_ble_eq_true rfl) (fun w0 A hf=>(aC (fun K1 hK1=>(aB (aM hf rfl (cP rfl rfl (lf rfl)) (aG rfl (bH) (aD (hK1 _ (aC (fun K2 hK2=>(aB (aE aA 1 rfl (fR hf rfl rfl rfl rfl rfl lN rfl (nD _ (by omega)) ?_)))))))))))))
 rintro _ rfl
 refine aG rfl (fV rfl) (fK hf 6 rfl rfl rfl rfl rfl aHd (xC aGk rfl (fun _=>rfl) (zO u) l _ (by rw[List.length_map]) (by omega) (fun x _=>aCg x u)) ?_)
 rintro r zs ⟨rfl,rfl⟩
 refine aE aA 1 rfl (aD (hK2 _ (aJ ?_)))
 refine⟨_,rfl,?_⟩
 exact cI (g:=6) rfl (by rw[List.length_map])
end Go.Proofs.YthapfogcaklbbaaGreat
set_option linter.unusedVariables false
set_option linter.unusedSimpArgs false
namespace Go.Abs
def aJo (x:List En) (p:Pr) (t:Int):List En:=if onB x p=true then iZ x p t else hJ x p t
def aNm (x:List En) (a:Int):Prop:=aA0 x=true∧∀ e∈x,e.2.1≤a∧(e.2.2=1099511627776∨e.2.2≤a)∧TS e.1.1∧TS e.1.2
theorem ordE_eq {a b:En}:kE a b=0↔a.1=b.1∧a.2.1=b.2.1:=by
  rw[qL,oW,yY]
  refine and_congr_right fun _=>?_
  unfold iQ; (repeat' split) <;> omega
theorem tU {e:En}:∀ {l:List En},l.Pairwise RisR→(∀ x∈l,¬ 0<kE x e→RisR x e)→(∀ x∈l,0<kE x e→RisR e x)→(vD l e).Pairwise RisR
  | [],_,_,_=>by simp [vD]
  | x::l,h,h1,h2=>by
    obtain ⟨hx,hl⟩:=List.pairwise_cons.1 h
    rw[vD]
    split
    · rename_i h0
      refine List.pairwise_cons.2 ⟨fun y hy=>?_,h⟩
      rcases List.mem_cons.1 hy with rfl | hy
      · exact h2 _ (by simp) h0
      · refine h2 y (by simp [hy]) ?_
        have e1:=ordE_tri.lt_tr (show kE e x<0 by have:=ordE_tri.swap e x; omega) (hx y hy).1
        have:=ordE_tri.swap e y; omega
    · rename_i h0
      refine List.pairwise_cons.2 ⟨fun y hy=>?_,tU hl (fun z hz=>h1 z (by simp [hz])) (fun z hz=>h2 z (by simp [hz]))⟩
      rcases qQ.1 hy with rfl | hy
      · exact h1 x (by simp) h0
      · exact hx y hy
theorem tL {p:Pr} {t:Int} {y:En}:∀ {l:List En},y∈iZ l p t→y∈l∨∃ e∈l,eX p e=true∧e.2.1<t∧y=(e.1,(e.2.1,t))
  | [],h=>by simp [iZ] at h
  | x::l,h=>by
    rw[iZ] at h
    split at h
    · rename_i hf
      rcases List.mem_append.1 h with h | h
      · unfold qH at h
        split at h
        · simp at h
        · simp only[List.mem_singleton] at h
          exact .inr ⟨x,by simp,hf,by omega,h⟩
      · exact .inl (by simp [h])
    · rcases List.mem_cons.1 h with h | h
      · exact .inl (by simp [h])
      · rcases tL h with h | ⟨e,he,h⟩
        · exact .inl (by simp [h])
        · exact .inr ⟨e,by simp [he],h⟩
theorem aK1 {p:Pr} {e:En}:eX p e=true↔e.1=p∧e.2.2=1099511627776:=by simp [eX]
theorem tK {p:Pr} {t:Int}:∀ {l:List En},l.Pairwise RisR→(∀ y∈l,y.2.1<1099511627776)→(iZ l p t).Pairwise RisR
  | [],_,_=>by simp [iZ]
  | x::l,h,h1=>by
    obtain ⟨hx,hl⟩:=List.pairwise_cons.1 h
    rw[iZ]
    split
    · rename_i hf
      have hF:=(aK1.1 hf).2
      unfold qH
      split
      · exact hl
      · refine List.pairwise_cons.2 ⟨fun y hy=>⟨(hx y hy).1,fun e=>?_⟩,hl⟩
        have:=(hx y hy).2 e
        have:=h1 y (List.mem_cons_of_mem _ hy)
        omega
    · refine List.pairwise_cons.2 ⟨fun y hy=>?_,tK hl (fun z hz=>h1 z (by simp [hz]))⟩
      rcases tL hy with hy | ⟨e,he,_,_,rfl⟩
      · exact hx y hy
      · exact⟨(hx e he).1,fun e'=>(hx e he).2 e'⟩
theorem aBw {x:List En} {a t:Int} {p:Pr} (h:aNm x a) (h1:a≤t) (h2:t<1099511627776) (r1:cH p.1=true) (r2:cH p.2=true) (s1:TS p.1) (s2:TS p.2):aNm (aJo x p t) t:=by
  obtain ⟨hr,he⟩:=h
  obtain ⟨ho,hp⟩:=(qG x).1 hr
  have hT:∀ e∈x,e.2.1<e.2.2:=fun e hm=>by have:=ho e hm; simp only[okE,Bool.and_eq_true,decide_eq_true_eq] at this; exact this.1
  have hF:∀ e∈x,e.2.1<1099511627776:=fun e hm=>by have:=(he e hm).1; omega
  unfold aJo
  split
  · refine⟨(qG _).2 ⟨fun y hy=>?_,tK hp hF⟩,fun y hy=>?_⟩
    · rcases tL hy with hy | ⟨e,hm,_,hlt,rfl⟩
      · exact ho y hy
      · have:=ho e hm
        simp only[okE,Bool.and_eq_true,decide_eq_true_eq] at this ⊢
        exact⟨hlt,this.2⟩
    · rcases tL hy with hy | ⟨e,hm,_,hlt,rfl⟩
      · obtain ⟨q1,q2,q3⟩:=he y hy
        exact⟨by omega,by omega,q3⟩
      · obtain ⟨q1,q2,q3⟩:=he e hm
        exact⟨by simp only; omega,.inr (by simp),q3⟩
  · rename_i hon
    refine⟨(qG _).2 ⟨fun y hy=>?_,tU hp (fun y hy hle=>?_) (fun y hy hlt=>?_)⟩,fun y hy=>?_⟩
    · rcases qQ.1 hy with rfl | hy
      · simp [okE,h2,r1,r2]
      · exact ho y hy
    · have hne:¬ (y.1=p∧y.2.2=1099511627776):=fun hh=>hon (onB_iff.2 ⟨y,hy,hh⟩)
      obtain ⟨q1,q2,_⟩:=he y hy
      have q4:=hT y hy
      have hyt:y.1=p→y.2.2≤t:=fun e=>by rcases q2 with q2 | q2; exact absurd ⟨e,q2⟩ hne; omega
      refine⟨?_,fun e=>by simp only at e ⊢; exact hyt e⟩
      rcases Int.lt_or_eq_of_le (show kE y (p,(t,1099511627776))≤0 by omega) with e | e
      · exact e
      · exfalso
        obtain ⟨e1,e2⟩:=ordE_eq.1 e
        have:=hyt e1
        simp only at e2; omega
    · refine⟨by have:=ordE_tri.swap y (p,(t,1099511627776)); omega,fun e=>?_⟩
      exfalso
      simp only at e
      have q1:=(he y hy).1
      have:kE y (p,(t,1099511627776))=iQ y.2.1 t:=by
        rw[qL,qP,if_neg (by simp [yY,← e])]
      rw[this] at hlt
      unfold iQ at hlt
      (repeat' split at hlt) <;> omega
    · rcases qQ.1 hy with rfl | hy
      · exact⟨Int.le_refl _,.inl rfl,s1,s2⟩
      · obtain ⟨q1,q2,q3⟩:=he y hy
        exact⟨by omega,by omega,q3⟩
end Go.Abs
set_option linter.unusedVariables false
set_option linter.unusedSimpArgs false
namespace Go.Abs
theorem oL {s:ByteArray} (h:cH s=true):TS s:=by
  simp only[cH,Bool.and_eq_true,decide_eq_true_eq] at h
  have:=h.1.2
  show s.size≤_
  omega
theorem kF {s:Sta} {x:bD}:iE s x=true↔(∀ e∈s.opn,e.1.1=x.2.1→x.1.2≤e.2.2)∧0≤x.1.1∧x.1.2≤s.now∧1≤x.2.1∧x.2.1≤999∧1≤x.2.2∧x.2.2≤4:=by
  simp only[iE,Bool.and_eq_true,decide_eq_true_eq,Bool.not_eq_true',List.any_eq_false,not_and,Int.not_lt]
theorem mR {s:Sta} {x:Us}:wY s x=true↔x.2≠[]∧uV x.2=true∧∀ y∈x.2,iE s y=true:=by
  simp only[wY,Bool.and_eq_true,Bool.not_eq_true',List.isEmpty_eq_false_iff,List.all_eq_true,ne_eq]
theorem eQ {s:Sta} {e:En}:zF s e=true↔0≤e.2.1∧e.2.1≤s.now∧(e.2.2≤s.now∨e.2.2=1099511627776):=by
  simp only[zF,Bool.and_eq_true,Bool.or_eq_true,decide_eq_true_eq]
theorem iD {s:Sta} {x:Tm}:aMf s x=true↔0≤x.2∧x.2≤s.now:=by
  simp only[aMf,Bool.and_eq_true,decide_eq_true_eq]
theorem uY {e:Se}:gF e=true↔cH e.1.2=true∧1≤e.1.1∧e.1.1≤999∧1≤e.2.1∧e.2.1≤4∧0≤e.2.2∧e.2.2≤1099511627775:=by
  simp only[gF,Bool.and_eq_true,decide_eq_true_eq,and_assoc]
theorem aKk {s:Sta} (h:RightP s) {e:Se} (he:e∈s.opn):cH e.1.2=true∧1≤e.1.1∧e.1.1≤999∧1≤e.2.1∧e.2.1≤4∧0≤e.2.2∧e.2.2≤1099511627775 :=
  uY.1 (((iB _).1 h.opn).1.1 e he)
theorem aCp {l:List Us} {u:ByteArray} {p:Us→Prop} (h:cR cM l) (hp:∀ x∈l,p x) (h0:p (u,[])):p (u,ofU l u):=by
  by_cases hh:jZ cM l u=true
  · obtain ⟨hk,e⟩:=zG h hh
    rw[← e]; exact hp _ (List.getElem_mem hk)
  · rw[oV (Bool.eq_false_iff.2 hh)]; exact h0
theorem aKs {s:Sta} (h:RightP s) (u:ByteArray):uV (ofU s.usr u)=true∧∀ y∈ofU s.usr u,iE s y=true:=by
  have:=aCp (u:=u) (p:=fun x=>uV x.2=true∧∀ y∈x.2,iE s y=true) h.usr (fun x hx=>(mR.1 (h.uok x hx)).2) ⟨rfl,by simp⟩
  exact this
theorem aNg {l:List bD} {x y:bD} (h:y∈gX l x):y=x∨y∈l:=by
  unfold gX at h
  split at h
  · exact .inr h
  · exact List.mem_cons.1 ((fP x l).mem_iff.1 h)
theorem xX {s:Sta} {t:Int} {opn':List Se} {e:Se} (h:RightP s) (ht:s.now≤t) (ht1:t<1099511627776) (he:e∈s.opn) (hr:iC opn'=true) (hl:∀ x∈opn',x.2.2≤t)
    (hb:∀ x∈opn',(x∈s.opn∧x.1.1≠e.1.1)∨t≤x.2.2):RightP ⟨t,s.hor,opn',kK s.usr e.1.2 (eW e t),s.sub,s.tmb⟩:=by
  obtain ⟨g1,g2,g3,g4,g5,g6,g7⟩:=aKk h he
  have hold:∀ y,iE s y=true→iE ⟨t,s.hor,opn',kK s.usr e.1.2 (eW e t),s.sub,s.tmb⟩ y=true:=fun y hy=>by
    obtain ⟨a1,a2,a3,a4⟩:=kF.1 hy
    refine kF.2 ⟨fun x hx hn=>?_,a2,Int.le_trans a3 ht,a4⟩
    rcases hb x hx with ⟨h1,_⟩ | h1
    · exact a1 x h1 hn
    · exact Int.le_trans a3 (Int.le_trans ht h1)
  have hold2:∀ x,wY s x=true→wY ⟨t,s.hor,opn',kK s.usr e.1.2 (eW e t),s.sub,s.tmb⟩ x=true:=fun x hx=>by
    obtain ⟨a1,a2,a3⟩:=mR.1 hx
    exact mR.2 ⟨a1,a2,fun y hy=>hold y (a3 y hy)⟩
  have hmem:∀ x∈kK s.usr e.1.2 (eW e t),x∈s.usr∨(e.2.2<t∧x=(e.1.2,gX (ofU s.usr e.1.2) (eW e t))):=fun x hx=>by
    unfold kK at hx
    split at hx
    · exact .inl hx
    · rename_i hlt
      rcases kC.1 hx with ⟨hx,_⟩ | hx
      · exact .inl hx
      · unfold qF at hx
        split at hx
        · cases hx
        · exact .inr ⟨Int.not_le.1 hlt,List.mem_singleton.1 hx⟩
  refine⟨Int.le_trans h.n0 ht,ht1,h.h0,h.h1,hr,hl,fun x hx=>?_,?_,fun x hx=>?_,h.sub,fun y hy=>?_,h.tnm,h.tmb,fun x hx=>?_⟩
  · rcases hmem x hx with hx | ⟨_,rfl⟩
    · exact h.unm x hx
    · exact g1
  · show cR cM (kK s.usr e.1.2 (eW e t))
    unfold kK
    split
    · exact h.usr
    · exact qC h.usr
  · rcases hmem x hx with hx | ⟨hlt,rfl⟩
    · exact hold2 x (h.uok x hx)
    · obtain ⟨q1,q2⟩:=aKs h e.1.2
      refine mR.2 ⟨fun e0=>?_,?_,fun y hy=>?_⟩
      · have h1:=zL (ofU s.usr e.1.2) (eW e t)
        simp only at e0
        rw[gX,if_neg (show ¬ (eW e t).1.2≤(eW e t).1.1 from Int.not_le.2 hlt)] at e0
        rw[e0] at h1; simp at h1
      · show uV (gX (ofU s.usr e.1.2) (eW e t))=true
        rw[ris_add q1,Bool.not_eq_true',List.any_eq_false]
        intro y hy hye
        simp only[decide_eq_true_eq] at hye
        have:=(kF.1 (q2 y hy)).1 e he (by rw[hye]; rfl)
        rw[hye] at this
        exact absurd hlt (Int.not_lt.2 this)
      · rcases aNg hy with rfl | hy
        · refine kF.2 ⟨fun x hx hn=>?_,g6,Int.le_refl _,g2,g3,g4,g5⟩
          rcases hb x hx with ⟨_,h1⟩ | h1
          · exact absurd hn h1
          · exact h1
        · exact hold y (q2 y hy)
  · obtain ⟨a,b,c⟩:=eQ.1 (h.sok y hy)
    exact eQ.2 ⟨a,Int.le_trans b ht,c.imp (fun c=>Int.le_trans c ht) id⟩
  · obtain ⟨a,b⟩:=iD.1 (h.tok x hx)
    exact iD.2 ⟨a,Int.le_trans b ht⟩
theorem mM {s s':Sta} (h:RightP s) (ht:s.now≤s'.now) (ht1:s'.now<1099511627776) (h0:0≤s'.hor) (h1:s'.hor<1099511627776) (hr:iC s'.opn=true) (hl:∀ x∈s'.opn,x.2.2≤s'.now)
    (hb:∀ x∈s'.opn,x∈s.opn∨s.now≤x.2.2) (hu:∀ x∈s'.usr,x∈s.usr) (hu2:cR cM s'.usr) (hs:aA0 s'.sub=true) (hs2:∀ e∈s'.sub,zF s' e=true) (htm:cR dN s'.tmb) (htm2:∀ x∈s'.tmb,x∈s.tmb∨(cH x.1=true∧0≤x.2∧x.2≤s'.now)):RightP s':=by
  have hold:∀ y,iE s y=true→iE s' y=true:=fun y hy=>by
    obtain ⟨a1,a2,a3,a4⟩:=kF.1 hy
    refine kF.2 ⟨fun x hx hn=>?_,a2,Int.le_trans a3 ht,a4⟩
    rcases hb x hx with h1 | h1
    · exact a1 x h1 hn
    · exact Int.le_trans a3 h1
  refine⟨Int.le_trans h.n0 ht,ht1,h0,h1,hr,hl,fun x hx=>h.unm x (hu x hx),hu2,fun x hx=>?_,hs,hs2,fun x hx=>?_,htm,fun x hx=>?_⟩
  · obtain ⟨a1,a2,a3⟩:=mR.1 (h.uok x (hu x hx))
    exact mR.2 ⟨a1,a2,fun y hy=>hold y (a3 y hy)⟩
  · rcases htm2 x hx with h2 | h2
    · exact h.tnm x h2
    · exact h2.1
  · rcases htm2 x hx with h2 | h2
    · obtain ⟨a,b⟩:=iD.1 (h.tok x h2)
      exact iD.2 ⟨a,Int.le_trans b ht⟩
    · exact iD.2 h2.2
theorem uW {s:Sta} (h:RightP s) {t:Int} (ht:s.now≤t) {u:List Us} {o:List Se} {hr:Int} {tm:List Tm}:∀ e∈s.sub,zF ⟨t,hr,o,u,s.sub,tm⟩ e=true:=fun e he=>by
  obtain ⟨a,b,c⟩:=eQ.1 (h.sok e he)
  exact eQ.2 ⟨a,Int.le_trans b ht,c.imp (fun c=>Int.le_trans c ht) id⟩
theorem yO {s:Sta} (h:RightP s):aNm s.sub s.now:=by
  refine⟨h.sub,fun e he=>?_⟩
  obtain ⟨a,b,c⟩:=eQ.1 (h.sok e he)
  have:=((qG _).1 h.sub).1 e he
  simp only[okE,Bool.and_eq_true,decide_eq_true_eq] at this
  exact⟨b,c.symm,oL this.2.1,oL this.2.2⟩
theorem ev_at {e:Ev} (h:bY e=true):0≤e.at'∧e.at'<1099511627776:=by
  simp only[bY,Bool.and_eq_true,decide_eq_true_eq] at h
  exact⟨h.1,h.2.1⟩
theorem zV {e:Ev} (h:bY e=true):(e.kind=1∧dD e=true∧1≤e.st∧e.st≤4)∨(e.kind=2∧dD e=true∧1≤e.st∧e.st≤4)∨(e.kind=3∧dD e=true∧e.st=0)∨(e.kind=4∧cH e.user=true∧cH e.other=true∧e.n=0∧e.st=0)∨(e.kind=5∧cH e.user=true∧cH e.other=true∧e.n=0∧e.st=0)∨(e.kind=6∧e.user=bs0∧e.other=bs0∧e.st=0∧0≤e.n∧e.n<1099511627776)∨(e.kind=7∧cH e.user=true∧e.other=bs0∧e.n=0∧e.st=0):=by
  simp only[bY,Bool.and_eq_true,decide_eq_true_eq] at h
  obtain ⟨_,_,h⟩:=h
  split at h
  · rename_i hk
    simp only[Bool.and_eq_true,decide_eq_true_eq] at h
    rcases hk with hk | hk
    · exact .inl ⟨hk,h⟩
    · exact .inr (.inl ⟨hk,h⟩)
  · split at h
    · rename_i hk
      simp only[Bool.and_eq_true,decide_eq_true_eq] at h
      exact .inr (.inr (.inl ⟨hk,h⟩))
    · split at h
      · rename_i hk
        simp only[Bool.and_eq_true,decide_eq_true_eq] at h
        rcases hk with hk | hk
        · exact .inr (.inr (.inr (.inl ⟨hk,h⟩)))
        · exact .inr (.inr (.inr (.inr (.inl ⟨hk,h⟩))))
      · split at h
        · rename_i hk
          simp only[Bool.and_eq_true,decide_eq_true_eq] at h
          exact .inr (.inr (.inr (.inr (.inr (.inl ⟨hk,h⟩)))))
        · split at h
          · rename_i hk
            simp only[Bool.and_eq_true,decide_eq_true_eq] at h
            exact .inr (.inr (.inr (.inr (.inr (.inr ⟨hk,h⟩)))))
          · cases h
theorem aD4 {e:Ev}:dD e=true↔1≤e.n∧e.n≤999∧cH e.user=true∧e.other=bs0:=by
  simp only[dD,Bool.and_eq_true,decide_eq_true_eq]
theorem aQa {l:List Se} (h:iC l=true) {x e:Se} (hx:x∈l) (he:e∈l) (hn:x.1.1=e.1.1):x=e:=by
  have hp:=((iB l).1 h).1.2
  clear h
  induction l with
  | nil=>cases hx
  | cons y l ih =>
    obtain ⟨q1,q2⟩:=List.pairwise_cons.1 hp
    rcases List.mem_cons.1 hx with a | a <;> rcases List.mem_cons.1 he with b | b
    · rw[a,b]
    · subst a; have:=q1 e b; omega
    · subst b; have:=q1 x a; omega
    · exact ih a b q2
theorem zZ {l:List Se} {n:Int} {u:ByteArray} (h:gH l n u=0):∃ pre e post,l=pre++e::post∧e.1=(n,u)∧aIl l n=e∧(∀ st t,aF1 l n st t=pre++(e.1,(st,t))::post)∧aFx l n=pre++post:=by
  obtain ⟨k,hk,ek,h1,h2,h3⟩:=aC6 h
  refine⟨l.take k,l[k],l.drop (k+1),?_,?_,?_,fun st t=>?_,?_⟩
  · rw[← List.drop_eq_getElem_cons hk,List.take_append_drop]
  · exact Prod.ext (by simpa [isN] using h1) h2
  · exact(mC n u 0 0 l k hk h3 h1).2.1
  · rw[(mC n u st t l k hk h3 h1).2.2.2.1,List.set_eq_take_append_cons_drop,if_pos hk]
  · exact(mC n u 0 0 l k hk h3 h1).2.2.2.2
theorem aJz {pre post:List Se} {e:Se} (h:iC (pre++e::post)=true):iC (pre++post)=true∧∀ x∈pre++post,x∈pre++e::post∧x.1.1≠e.1.1:=by
  obtain ⟨⟨h1,h2⟩,h3⟩:=(iB _).1 h
  have hm:∀ x∈pre++post,x∈pre++e::post:=fun x hx=>by
    rcases List.mem_append.1 hx with hx | hx
    · exact List.mem_append_left _ hx
    · exact List.mem_append_right _ (List.mem_cons_of_mem _ hx)
  obtain ⟨p1,p2,p3⟩:=List.pairwise_append.1 h2
  obtain ⟨p4,p5⟩:=List.pairwise_cons.1 p2
  refine⟨(iB _).2 ⟨⟨fun x hx=>h1 x (hm x hx),List.pairwise_append.2 ⟨p1,p5,fun a ha b hb=>p3 a ha b (List.mem_cons_of_mem _ hb)⟩⟩,by simp only[List.length_append,List.length_cons] at h3 ⊢; omega⟩,fun x hx=>⟨hm x hx,?_⟩⟩
  rcases List.mem_append.1 hx with hx | hx
  · have:=p3 x hx e (by simp); omega
  · have:=p4 x hx; omega
theorem chg_ris {pre post:List Se} {e e':Se} (h:iC (pre++e::post)=true) (he:gF e'=true) (hn:e'.1.1=e.1.1):iC (pre++e'::post)=true:=by
  obtain ⟨⟨h1,h2⟩,h3⟩:=(iB _).1 h
  obtain ⟨p1,p2,p3⟩:=List.pairwise_append.1 h2
  obtain ⟨p4,p5⟩:=List.pairwise_cons.1 p2
  refine(iB _).2 ⟨⟨fun x hx=>?_,List.pairwise_append.2 ⟨p1,List.pairwise_cons.2 ⟨fun b hb=>by rw[hn]; exact p4 b hb,p5⟩,fun a ha b hb=>?_⟩⟩,by simp only[List.length_append,List.length_cons] at h3 ⊢; omega⟩
  · rcases List.mem_append.1 hx with hx | hx
    · exact h1 x (List.mem_append_left _ hx)
    · rcases List.mem_cons.1 hx with rfl | hx
      · exact he
      · exact h1 x (List.mem_append_right _ (List.mem_cons_of_mem _ hx))
  · rcases List.mem_cons.1 hb with rfl | hb
    · rw[hn]; exact p3 a ha e (by simp)
    · exact p3 a ha b (List.mem_cons_of_mem _ hb)
theorem aD8 {l:List Se} (q:Se→Bool) (h:iC l=true):iC (l.filter q)=true:=by
  obtain ⟨⟨h1,h2⟩,h3⟩:=(iB _).1 h
  exact(iB _).2 ⟨⟨fun x hx=>h1 x (List.mem_filter.1 hx).1,h2.filter q⟩,Nat.le_trans (List.length_filter_le _ _) h3⟩
theorem aLx {l:List Tm} {u:ByteArray} {t:Int} (h:cR dN l):cR dN (qA l u t):=tI h (by simp) (by simp)
theorem aIn {s:Sta} {e:Ev} (h:RightP s) (he:bY e=true) (ht:s.now≤e.at') (h0:(bA s e).2=0):RightP { (bA s e).1 with now:=e.at' }:=by
  obtain ⟨t0,t1⟩:=ev_at he
  rcases zV he with ⟨hk,hs,s1,s2⟩ | ⟨hk,hs,s1,s2⟩ | ⟨hk,hs,s1⟩ | ⟨hk,r1,r2,n0,s0⟩ | ⟨hk,r1,r2,n0,s0⟩ | ⟨hk,r1,r2,s0,n0,n1⟩ | ⟨hk,r1,r2,n0,s0⟩
  · obtain ⟨m1,m2,m3,m4⟩:=aD4.1 hs
    rw[bA,if_pos hk] at h0 ⊢
    simp only at h0 ⊢
    rw[show nR s.opn ((e.n,e.user),(e.st,e.at'))=aCo s.opn ((e.n,e.user),(e.st,e.at')) from if_pos h0]
    have hm:∀ x∈aCo s.opn ((e.n,e.user),(e.st,e.at')),x=((e.n,e.user),(e.st,e.at'))∨x∈s.opn:=fun x hx=>tV.1 hx
    have h1:iC [((e.n,e.user),(e.st,e.at'))]=true:=(iB _).2 ⟨⟨fun x hx=>by rw[List.mem_singleton.1 hx]; exact uY.2 ⟨m3,m1,m2,s1,s2,t0,by show e.at'≤_; omega⟩,List.pairwise_singleton _ _⟩,by simp⟩
    refine mM h ht t1 h.h0 h.h1 (opn_ris h.opn h1 h0) (fun x hx=>?_) (fun x hx=>?_) (fun _ hx=>hx) h.usr h.sub (uW h ht) h.tmb (fun _ hx=>.inl hx)
    · rcases hm x hx with rfl | hx
      · exact Int.le_refl _
      · exact Int.le_trans (h.late x hx) ht
    · rcases hm x hx with rfl | hx
      · exact .inr ht
      · exact .inl hx
  · obtain ⟨m1,m2,m3,m4⟩:=aD4.1 hs
    rw[bA,if_neg (by omega),if_pos hk] at h0 ⊢
    simp only at h0 ⊢
    obtain ⟨pre,x,post,e1,e2,e3,e4,e5⟩:=zZ h0
    have hx:x∈s.opn:=by rw[e1]; simp
    have hn:x.1.1=e.n∧x.1.2=e.user:=by rw[e2]; exact⟨rfl,rfl⟩
    have hr:=h.opn
    rw[e1] at hr
    obtain ⟨q1,q2⟩:=aJz hr
    rw[show nT s.opn e.n e.user e.st e.at'=pre++(x.1,(e.st,e.at'))::post from by rw[nT,if_pos h0,e4],show stR s.opn e.n e.user e.at'=eW x e.at' from by rw[stR,if_pos h0,e3],← hn.2]
    have hm:∀ y∈pre++(x.1,(e.st,e.at'))::post,y=(x.1,(e.st,e.at'))∨y∈pre++post:=fun y hy=>by
      rcases List.mem_append.1 hy with hy | hy
      · exact .inr (List.mem_append_left _ hy)
      · rcases List.mem_cons.1 hy with hy | hy
        · exact .inl hy
        · exact .inr (List.mem_append_right _ hy)
    refine xX h ht t1 hx (chg_ris hr (uY.2 ⟨by show cH x.1.2=true; rw[hn.2]; exact m3,by show 1≤x.1.1; omega,by show x.1.1≤999; omega,s1,s2,t0,by show e.at'≤_; omega⟩) rfl) (fun y hy=>?_) (fun y hy=>?_)
    · rcases hm y hy with rfl | hy
      · exact Int.le_refl _
      · exact Int.le_trans (h.late y (by rw[e1]; exact(q2 y hy).1)) ht
    · rcases hm y hy with rfl | hy
      · exact .inr (Int.le_refl _)
      · exact .inl ⟨by rw[e1]; exact(q2 y hy).1,(q2 y hy).2⟩
  · rw[bA,if_neg (by omega),if_neg (by omega),if_pos hk] at h0 ⊢
    simp only at h0 ⊢
    obtain ⟨pre,x,post,e1,e2,e3,e4,e5⟩:=zZ h0
    have hx:x∈s.opn:=by rw[e1]; simp
    have hn:x.1.2=e.user:=by rw[e2]
    have hr:=h.opn
    rw[e1] at hr
    obtain ⟨q1,q2⟩:=aJz hr
    rw[show nS s.opn e.n e.user=pre++post from by rw[nS,if_pos h0,e5],show stR s.opn e.n e.user e.at'=eW x e.at' from by rw[stR,if_pos h0,e3],← hn]
    exact xX h ht t1 hx q1 (fun y hy=>Int.le_trans (h.late y (by rw[e1]; exact(q2 y hy).1)) ht) (fun y hy=>.inl ⟨by rw[e1]; exact(q2 y hy).1,(q2 y hy).2⟩)
  · rw[bA,if_neg (by omega),if_neg (by omega),if_neg (by omega),if_pos hk] at h0 ⊢
    simp only at h0 ⊢
    have hon:¬ onB s.sub (e.user,e.other)=true:=fun hh=>by rw[if_pos hh] at h0; omega
    rw[if_neg hon]
    have hg:=aBw (p:=(e.user,e.other)) (yO h) ht t1 r1 r2 (oL r1) (oL r2)
    rw[aJo,if_neg hon] at hg
    refine mM h ht t1 h.h0 h.h1 h.opn (fun x hx=>Int.le_trans (h.late x hx) ht) (fun _ hx=>.inl hx) (fun _ hx=>hx) h.usr hg.1 (fun y hy=>eQ.2 ⟨?_,(hg.2 y hy).1,(hg.2 y hy).2.1.symm⟩) h.tmb (fun _ hx=>.inl hx)
    rcases qQ.1 hy with rfl | hy
    · exact t0
    · exact(eQ.1 (h.sok y hy)).1
  · rw[bA,if_neg (by omega),if_neg (by omega),if_neg (by omega),if_neg (by omega),if_pos hk] at h0 ⊢
    simp only at h0 ⊢
    have hon:onB s.sub (e.user,e.other)=true:=by
      by_cases hh:onB s.sub (e.user,e.other)=true
      · exact hh
      · rw[if_neg hh] at h0; omega
    rw[if_pos hon]
    have hg:=aBw (p:=(e.user,e.other)) (yO h) ht t1 r1 r2 (oL r1) (oL r2)
    rw[aJo,if_pos hon] at hg
    refine mM h ht t1 h.h0 h.h1 h.opn (fun x hx=>Int.le_trans (h.late x hx) ht) (fun _ hx=>.inl hx) (fun _ hx=>hx) h.usr hg.1 (fun y hy=>eQ.2 ⟨?_,(hg.2 y hy).1,(hg.2 y hy).2.1.symm⟩) h.tmb (fun _ hx=>.inl hx)
    rcases tL hy with hy | ⟨z,hz,_,_,rfl⟩
    · exact(eQ.1 (h.sok y hy)).1
    · exact(eQ.1 (h.sok z hz)).1
  · rw[bA,if_neg (by omega),if_neg (by omega),if_neg (by omega),if_neg (by omega),if_neg (by omega),if_pos hk] at h0 ⊢
    have:=h.h0
    have:=h.h1
    exact mM h ht t1 (by show 0≤max s.hor e.n; omega) (by show max s.hor e.n<_; omega) h.opn (fun x hx=>Int.le_trans (h.late x hx) ht) (fun _ hx=>.inl hx) (fun _ hx=>hx) h.usr h.sub (uW h ht) h.tmb (fun _ hx=>.inl hx)
  · rw[bA,if_neg (by omega),if_neg (by omega),if_neg (by omega),if_neg (by omega),if_neg (by omega),if_neg (by omega)] at h0 ⊢
    refine mM h ht t1 h.h0 h.h1 (aD8 _ h.opn) (fun x hx=>Int.le_trans (h.late x (List.mem_filter.1 hx).1) ht) (fun x hx=>.inl (List.mem_filter.1 hx).1) (fun x hx=>?_) (qC h.usr) (aD9 _ h.sub) (fun y hy=>uW (o:=[]) (u:=[]) (hr:=0) (tm:=[]) h ht y (List.mem_filter.1 hy).1) (aLx h.tmb) (fun x hx=>?_)
    · rcases kC.1 hx with hx | hx
      · exact hx.1
      · unfold qF at hx; rw[if_pos rfl] at hx; cases hx
    · rcases kC.1 hx with hx | hx
      · exact .inl hx.1
      · rw[List.mem_singleton.1 hx]; exact .inr ⟨r1,t0,Int.le_refl _⟩
theorem aF3 {s:Sta} {e:Ev} (h:RightP s) (h0:(cQ s e).2=0):RightP (cQ s e).1:=by
  unfold cQ at h0 ⊢
  split at h0
  · rename_i he
    rw[if_pos he]
    split at h0
    · simp at h0
    · rename_i ht
      rw[if_neg ht]
      split at h0
      · rename_i h2
        rw[if_pos h2]
        exact aIn h he (Int.not_lt.1 ht) h2
      · rename_i h2; exact absurd h0 h2
  · simp at h0
theorem sH:RightP oE:=oQ.1 (by decide)
theorem aNd (l:List Us) (u:ByteArray) (x:bD) (h:cR cM l):(kK l u x).length≤l.length+1:=by
  unfold kK; split
  · omega
  · have e:=(oO (u:=u) h).1
    have e2:=congrArg List.length e
    have:=@aD7 u (gX (ofU l u) x)
    simp only[pK,wV,List.length_append] at *
    omega
end Go.Abs
set_option linter.unusedVariables false
set_option linter.unusedSimpArgs false
namespace Go.Abs
open Go
theorem aLv (a b:Int):IntKind.i64.wrap (IntKind.i64.wrap a+b)=IntKind.i64.wrap (a+b):=by
  rw[IntKind.wrap_i64,IntKind.wrap_i64,IntKind.wrap_i64]; omega
theorem aFr {l:List Us} {k:Nat} (hk:k<l.length):sU (l.take (k+1))=sU (l.take k)+l[k].2.length:=by
  rw[sU,sU,mL l _ k hk,List.sum_append]; simp
theorem aH {a:ByteArray}:a.toList=[]↔a=bs0:=by
  have:bs0.toList=[]:=by rw[lA]
  rw[← this,toList_inj]
theorem has_not {α:Type} {key:α→ByteArray} {l:List α} {u:ByteArray}:jZ key (l.filter fun x=>!isK key u x) u=false:=by
  rw[jZ,List.any_eq_false]
  intro x hx
  have:=(List.mem_filter.1 hx).2
  simpa using this
theorem aDt {l:List Tm} {u:ByteArray} {t:Int} (h:cR dN l):(l.filter fun x=>!isK dN u x).take (cN dN (l.filter fun x=>!isK dN u x) u)++(u,t)::(l.filter fun x=>!isK dN u x).drop (cN dN (l.filter fun x=>!isK dN u x) u)=qA l u t:=by
  rw[aJp (key:=dN) (kO h _) has_not,qA]
  refine sM (key:=dN) (tI (kO h _) (by simp) (by simp)) (tI h (by simp) (by simp)) fun x=>?_
  rw[kC,kC,List.mem_filter]
  simp only[isK,Bool.not_eq_true',decide_eq_false_iff_not]
  constructor
  · rintro (⟨⟨a,_⟩,b⟩ | a)
    · exact .inl ⟨a,b⟩
    · exact .inr a
  · rintro (⟨a,b⟩ | a)
    · exact .inl ⟨⟨a,b⟩,b⟩
    · exact .inr a
theorem aKa {l:List Tm} {u:ByteArray} {t:Int} (h:cR dN l):((l.filter fun x=>!isK dN u x).map tmC).take (cN dN (l.filter fun x=>!isK dN u x) u)++[.s (.string u),.s (.int .i64 t)]::((l.filter fun x=>!isK dN u x).map tmC).drop (cN dN (l.filter fun x=>!isK dN u x) u)=(qA l u t).map tmC:=by
  rw[← aDt h]
  simp only[List.map_append,List.map_cons,List.map_take,List.map_drop]; rfl
theorem aLy {l:List Tm} {u:ByteArray} {t:Int}:(qA l u t).length≤l.length+1:=by
  have:(qA l u t).length=(l.filter (loK dN u)).length+((l.filter (hiK dN u)).length+1):=by simp [qA,wV]
  have h2:(l.filter (loK dN u)).length+(l.filter (hiK dN u)).length≤l.length:=by
    induction l with
    | nil=>simp
    | cons x l ih =>
      simp only[List.filter_cons]
      have:¬ (loK dN u x=true∧hiK dN u x=true):=by
        rintro ⟨a,b⟩
        simp only[loK,hiK,decide_eq_true_eq] at a b
        omega
      have ih:=ih (by simp [qA,wV])
      by_cases a:loK dN u x=true <;> by_cases b:hiK dN u x=true <;> simp [a,b] <;> first | omega | exact absurd ⟨a,b⟩ this
  omega
theorem erU {s:Sta} {u:ByteArray} {t:Int} (hr:cR cM s.usr):(s.usr.filter fun x=>!isK cM u x)=(fM s u t).usr:=by
  show _=pK s.usr u []
  rw[pK,qF,if_pos rfl]
  exact aD3 hr u
theorem erUl {s:Sta} {u:ByteArray} {t:Int} (hr:cR cM s.usr):(s.usr.filter fun x=>!isK cM u x).length=((fM s u t).usr.map usC).length:=by rw[List.length_map,erU hr]
theorem erTl {l:List Tm} {u:ByteArray} {t:Int} (h:cR dN l):(l.filter fun x=>!isK dN u x).length+1=((qA l u t).map tmC).length:=by
  have hp:=tP (key:=dN) (l.filter fun x=>!isK dN u x) u
  rw[← aDt h,List.length_map,List.length_append,List.length_cons,List.length_take,List.length_drop]
  omega
theorem eR {P:Program} {t:TypeId} {k:IntKind} {a b:Int} (h:a≠b):pS P .eql t (.int k a) (.int k b)=some (.bool false):=by
  simp [pS,uE,h]
theorem aL3 {l:List Us} {u:ByteArray} (h:cR cM l):(pK l u []).length≤l.length:=by
  have e:pK l u []=l.filter fun x=>!isK cM u x:=by rw[pK,qF,if_pos rfl]; exact(aD3 h u).symm
  rw[e]; exact List.length_filter_le _ _
theorem erSz {n m:Nat} {s:Sta} {u:ByteArray} {t:Int} (hz:SzS n s) (hr:cR cM s.usr) (hm:n+24≤m):SzS m (fM s u t):=by
  have h1:=List.length_filter_le (fun e=>!rW u e) s.opn
  have h2:=List.length_filter_le (fun e=>!zO u e) s.sub
  have h3:=aL3 (u:=u) hr
  have h4:=aLy (l:=s.tmb) (u:=u) (t:=t)
  have z1:=hz.o
  have z2:=hz.u
  have z3:=hz.b
  have z4:=hz.t
  refine⟨?_,?_,?_,?_,fun x hx=>?_⟩
  · show (s.opn.filter fun e=>!rW u e).length*40≤m
    omega
  · show (pK s.usr u []).length*40≤m
    omega
  · show (s.sub.filter fun e=>!zO u e).length*48≤m
    omega
  · show (qA s.tmb u t).length*24≤m
    omega
  · have hx':x∈pK s.usr u []:=hx
    rcases kC.1 hx' with ⟨hx',_⟩ | hx'
    · have:=hz.y x hx'; omega
    · unfold qF at hx'; rw[if_pos rfl] at hx'; cases hx'
theorem addSz {n m:Nat} {s:Sta} {u:ByteArray} {x:bD} (hz:SzS n s) (hr:cR cM s.usr) (hm:n+40≤m):SzS m (dF s u x):=by
  have z1:=hz.o
  have z2:=hz.u
  have z3:=hz.b
  have z4:=hz.t
  have q:=aNd s.usr u x hr
  refine⟨by show s.opn.length*40≤m; omega,by show (kK s.usr u x).length*40≤m; omega,by show s.sub.length*48≤m; omega,by show s.tmb.length*24≤m; omega,fun y hy=>?_⟩
  have hy':y∈kK s.usr u x:=hy
  unfold kK at hy'
  split at hy'
  · have:=hz.y y hy'; omega
  · rcases kC.1 hy' with ⟨hy',_⟩ | hy'
    · have:=hz.y y hy'; omega
    · unfold qF at hy'
      split at hy'
      · cases hy'
      · rw[List.mem_singleton.1 hy']
        have h1:(ofU s.usr u).length*32≤n:=aCp (p:=fun x=>x.2.length*32≤n) hr hz.y (by simp)
        have h2:=aAh (ofU s.usr u) x
        show (gX (ofU s.usr u) x).length*32≤m
        omega
theorem aNb {l:List Us} {u:ByteArray} {x:bD} (h:cR cM l):cR cM (kK l u x):=by
  unfold kK; split
  · exact h
  · exact qC h
end Go.Abs
set_option linter.unusedVariables false
set_option linter.unusedSimpArgs false
namespace Go.Proofs.YthapfogcaklbbaaGreat
open Go Go.Abs
theorem aD0 (s:Sta) (u:ByteArray) (t:Int) (hz:SzS 140737488353280 s) (ho:s.opn.length≤50) (hr:cR cM s.usr) :Den Tryz.prog 37 [.agg (aY s),.s (.string u),.s (.int .i64 t)]  (·=.sl 4 ((aDz s u t).map stC)):=by
 have z1:=hz.o
 have z2:=hz.u
 have hlm:(s.usr.map usC).length=s.usr.length:=List.length_map _
 have hpl:=tP (key:=cM) s.usr u
 have hsl:=aKc s.opn u t
 have hou:(ofU s.usr u).length*32≤140737488353280:=aCp (p:=fun x=>x.2.length*32≤140737488353280) hr hz.y (by simp)
 refine aU Tryz.func37 rfl (Nat.le_of_ble_eq_true rfl) (fun w0 A hf=>(aC (fun K1 hK1=>(aB (aM hf rfl (cP rfl rfl (lf rfl)) (aG rfl (bH) (aD (hK1 _ (aC (fun K2 hK2=>(aB (aG rfl (yZ (k:=4)) (aD (hK2 _ (aC (fun K3 hK3=>?_))))))))))))))))
 refine aC (fun K4 hK4=>(aB (aE aA 3 rfl (aM hf rfl (aQ rfl rfl aAn rfl (xQ s.usr u (by omega) hr)) (aE aA 5 rfl (aD (hK4 _ (aC (fun K5 hK5=>(aB (aE aA 1 rfl (aD (hK5 _ (aK rfl (fun hc1=>?_) (fun hc1=>?_)))))))))))))))
 ·
  obtain ⟨hk0,he⟩:=zG hr (show jZ cM s.usr u=true by assumption)
  refine aB (aE aA 3 rfl (aG rfl (bB rfl rfl eL dQ (iO (k:=cN cM s.usr u) (by omega) hk0)) (aE aA 2 rfl (aM hf rfl (aQ rfl rfl sX rfl (cJ (sL s.usr[cN cM s.usr u].2 (by rw[he]; show (ofU s.usr u).length*32≤_; omega)))) ?_))))
  refine aE aA 1 rfl (aD (hK3 _ (aC (fun K6 hK6=>(aC (fun K7 hK7=>(aB (aE aA 4 rfl (aM hf rfl (aQ rfl rfl aAm rfl (vO s.opn u t (by omega))) (aE aA 2 rfl (aD (hK7 _ (aO (bR (ι:=Nat×List bD) (fun(⟨k,out⟩:Nat×List bD)=>⟨42,[(7,.sl 4 (out.map stC)),(31,.sl 4 ((fG s.opn u t).map stC)),(32,.s (.int .i64 (((fG s.opn u t).map stC).length:Nat))),(33,.s (.int .i64 (k:Nat)))],[]⟩) (fun(⟨k,out⟩:Nat×List bD)=>k≤(fG s.opn u t).length∧out=((fG s.opn u t).take k).foldl gX (ofU s.usr u)∧out.length≤(ofU s.usr u).length+k) (fun(⟨k,out⟩:Nat×List bD)=>(fG s.opn u t).length - k) (0,ofU s.usr u) ?_ ?_ ?_))))))))))))))
  · exact⟨Nat.zero_le _,rfl,Nat.le_refl _⟩
  · first | exact jB ⟨(by rw[show (ofU s.usr u)=(s.usr[cN cM s.usr u]).2 from by rw[he]]; rfl),rfl,rfl,rfl,trivial⟩ | exact jB ⟨(by rw[oV hno]; rfl),rfl,rfl,rfl,trivial⟩
  ·
   rintro ⟨k,out⟩ hC
   obtain ⟨h1,h2,h3⟩:=hC
   refine aC (fun K8 hK8=>(aB (aE aA 1 rfl (aD (hK8 _ (aC (fun K9 hK9=>(aK rfl (fun hc2=>?_) (fun hc2=>?_)))))))))
   ·
    simp only[bs] at hc2
    refine aN (hK9 _ (aC (fun K10 hK10=>(aO (aC (fun K11 hK11=>(aB ?_)))))))
    refine aG rfl (bB rfl rfl bZ aS (by first | exact ixm (by omega) | assumption | exact⟨by decide,rfl⟩)) ?_
    refine aE aA 1 rfl (cC hf rfl dP rfl aS rfl rfl rfl rfl (lf rfl) (aD (hK11 _ (aB (aE aA 2 rfl (aM hf rfl (aQ rfl rfl sY rfl (aAi out (fG s.opn u t)[k] (by omega))) (aE aA 1 rfl ?_)))))))
    refine bG ?_
    refine hK10 _ (aB ?_)
    refine aG rfl (bO rfl rfl (by omega) (by omega)) ?_
    refine aE aA 1 rfl (aD ?_)
    exact⟨(k+1,gX out (fG s.opn u t)[k]),⟨by omega,by rw[xU (fG s.opn u t) gX _ k (by omega),← h2],by have:=aAh out (fG s.opn u t)[k]; omega⟩,by simp only; omega,cX rfl⟩
   ·
    simp only[bs] at hc2
    refine aW (hK6 _ (aC (fun K12 hK12=>(aB (aE aA 2 rfl (aD (hK12 _ (aJ ?_))))))))
    refine⟨_,rfl,?_⟩
    show AV.sl 4 (out.map stC)=_
    rw[h2,List.take_of_length_le (by omega)]; rfl
 ·
  have hno:jZ cM s.usr u=false:=by simp_all
  refine aN (hK3 _ (aC (fun K13 hK13=>(aC (fun K14 hK14=>(aB (aE aA 4 rfl (aM hf rfl (aQ rfl rfl aAm rfl (vO s.opn u t (by omega))) (aE aA 2 rfl (aD (hK14 _ (aO (bR (ι:=Nat×List bD) (fun(⟨k,out⟩:Nat×List bD)=>⟨42,[(7,.sl 4 (out.map stC)),(31,.sl 4 ((fG s.opn u t).map stC)),(32,.s (.int .i64 (((fG s.opn u t).map stC).length:Nat))),(33,.s (.int .i64 (k:Nat)))],[]⟩) (fun(⟨k,out⟩:Nat×List bD)=>k≤(fG s.opn u t).length∧out=((fG s.opn u t).take k).foldl gX (ofU s.usr u)∧out.length≤(ofU s.usr u).length+k) (fun(⟨k,out⟩:Nat×List bD)=>(fG s.opn u t).length - k) (0,ofU s.usr u) ?_ ?_ ?_)))))))))))))
  · exact⟨Nat.zero_le _,rfl,Nat.le_refl _⟩
  · first | exact jB ⟨(by rw[show (ofU s.usr u)=(s.usr[cN cM s.usr u]).2 from by rw[he]]; rfl),rfl,rfl,rfl,trivial⟩ | exact jB ⟨(by rw[oV hno]; rfl),rfl,rfl,rfl,trivial⟩
  ·
   rintro ⟨k,out⟩ hC
   obtain ⟨h1,h2,h3⟩:=hC
   refine aC (fun K15 hK15=>(aB (aE aA 1 rfl (aD (hK15 _ (aC (fun K16 hK16=>(aK rfl (fun hc3=>?_) (fun hc3=>?_)))))))))
   ·
    simp only[bs] at hc3
    refine aN (hK16 _ (aC (fun K17 hK17=>(aO (aC (fun K18 hK18=>(aB ?_)))))))
    refine aG rfl (bB rfl rfl bZ aS (by first | exact ixm (by omega) | assumption | exact⟨by decide,rfl⟩)) ?_
    refine aE aA 1 rfl (cC hf rfl dP rfl aS rfl rfl rfl rfl (lf rfl) (aD (hK18 _ (aB (aE aA 2 rfl (aM hf rfl (aQ rfl rfl sY rfl (aAi out (fG s.opn u t)[k] (by omega))) (aE aA 1 rfl ?_)))))))
    refine bG ?_
    refine hK17 _ (aB ?_)
    refine aG rfl (bO rfl rfl (by omega) (by omega)) ?_
    refine aE aA 1 rfl (aD ?_)
    exact⟨(k+1,gX out (fG s.opn u t)[k]),⟨by omega,by rw[xU (fG s.opn u t) gX _ k (by omega),← h2],by have:=aAh out (fG s.opn u t)[k]; omega⟩,by simp only; omega,cX rfl⟩
   ·
    simp only[bs] at hc3
    refine aW (hK13 _ (aC (fun K19 hK19=>(aB (aE aA 2 rfl (aD (hK19 _ (aJ ?_))))))))
    refine⟨_,rfl,?_⟩
    show AV.sl 4 (out.map stC)=_
    rw[h2,List.take_of_length_le (by omega)]; rfl
theorem yT (s:Sta) (hz:SzS 140737488353280 s) :Den Tryz.prog 65 [.agg (aY s)]  (·=.s (.int .i64 (IntKind.i64.wrap ((zY s:Nat):Int)))):=by
 have z1:=hz.o
 have z2:=hz.u
 have z3:=hz.b
 have z4:=hz.t
 have y1:(s.opn.map seC).length=s.opn.length:=List.length_map _
 have y2:(s.sub.map enC).length=s.sub.length:=List.length_map _
 have y3:(s.tmb.map tmC).length=s.tmb.length:=List.length_map _
 refine aU Tryz.func65 rfl (Nat.le_of_ble_eq_true rfl) (fun w0 A hf=>(aC (fun K1 hK1=>(aB (aM hf rfl (cP rfl rfl (lf rfl)) (aE aA 1 rfl (aD (hK1 _ (aC (fun K2 hK2=>(aB (aE aA 6 rfl ?_))))))))))))
 refine aG rfl (bO rfl rfl (by omega) (by omega)) ?_
 refine aE aA 3 rfl ?_
 refine aG rfl (bO rfl rfl (by omega) (by omega)) ?_
 refine aE aA 1 rfl (aD (hK2 _ (aC (fun K3 hK3=>(aC (fun K4 hK4=>(aB (aE aA 1 rfl (aD (hK4 _ (aO (bR (ι:=Nat) (fun k=>⟨33,[(1,.adr (aY s)),(3,.s (.int .i64 (IntKind.i64.wrap ((s.opn.length+s.sub.length+s.tmb.length+sU (s.usr.take k):Nat):Int)))),(4,.s (.int .i64 (k:Nat)))],[]⟩) (fun k=>k≤s.usr.length) (fun k=>s.usr.length - k) 0 ?_ ?_ ?_))))))))))))
 · exact Nat.zero_le _
 · exact jB ⟨rfl,(aL (by rw[List.take_zero,show sU []=0 from rfl,wrap_i64 (by omega) (by omega)]; simp only[List.length_map]; omega)),rfl,trivial⟩
 ·
  rintro k hC
  refine aC (fun K5 hK5=>(aC (fun K6 hK6=>(aB (aE aA 5 rfl (aD (hK6 _ (aK rfl (fun hc1=>?_) (fun hc1=>?_)))))))))
  ·
   simp only[bs] at hc1
   refine aN (hK5 _ (aC (fun K7 hK7=>(aO (aB (aE aA 4 rfl ?_))))))
   refine aG rfl (bB rfl rfl uN mJ (by first | exact ixm (by omega) | assumption | exact⟨by decide,rfl⟩)) ?_
   refine aE aA 3 rfl (aG rfl (eI rfl rfl rfl) (aE aA 1 rfl ?_))
   refine bG ?_
   refine hK7 _ (aB (aE aA 1 rfl ?_))
   refine aG rfl (bO rfl rfl (by omega) (by omega)) ?_
   refine aE aA 1 rfl (aD ?_)
   exact⟨k+1,by omega,by omega,jB ⟨rfl,(aL (by rw[aLv,aFr (by omega)]; congr 1; simp only[List.length_map]; omega)),rfl,trivial⟩⟩
  ·
   simp only[bs] at hc1
   refine aW (hK3 _ (aC (fun K8 hK8=>(aB (aE aA 2 rfl (aD (hK8 _ (aJ ?_))))))))
   refine⟨_,rfl,?_⟩
   unfold zY
   rw[List.take_of_length_le (by omega)]; rfl
end Go.Proofs.YthapfogcaklbbaaGreat
set_option linter.unusedVariables false
set_option linter.unusedSimpArgs false
namespace Go.Proofs.YthapfogcaklbbaaGreat
open Go Go.Abs
theorem aFl (x:Us) (u:ByteArray) :Den Tryz.prog 227 [.agg (usC x),.adr [.s (.string u)]]  (·=.s (.bool (isK cM u x))):=by
 refine aU Tryz.func227 rfl (Nat.le_of_ble_eq_true rfl) (fun w0 A hf=>(aC (fun K1 hK1=>(aB (aM hf rfl (cP rfl rfl (lf rfl)) (aE aA 1 rfl (aD (hK1 _ (aC (fun K2 hK2=>(aB (aE aA 5 rfl (aD (hK2 _ (aJ ?_)))))))))))))))
 refine⟨_,rfl,?_⟩
 refine aP ?_
 rw[Bool.eq_iff_iff]
 simp [isK,toList_inj]
theorem aFk (x:Tm) (u:ByteArray) :Den Tryz.prog 229 [.agg (tmC x),.adr [.s (.string u)]]  (·=.s (.bool (isK dN u x))):=by
 refine aU Tryz.func229 rfl (Nat.le_of_ble_eq_true rfl) (fun w0 A hf=>(aC (fun K1 hK1=>(aB (aM hf rfl (cP rfl rfl (lf rfl)) (aE aA 1 rfl (aD (hK1 _ (aC (fun K2 hK2=>(aB (aE aA 5 rfl (aD (hK2 _ (aJ ?_)))))))))))))))
 refine⟨_,rfl,?_⟩
 refine aP ?_
 rw[Bool.eq_iff_iff]
 simp [isK,toList_inj]
theorem aBx (g k off n:Nat):AV.fromE g (.own E0 k off n)=.own g k off n:=by simp [AV.fromE]
theorem jN (s:Sta):(AV.agg (dK s E0 E1)).ren [(E0,G0),(E1,G1)]=.agg (dK s G0 G1):=rfl
theorem aIm (s:Sta) (u:ByteArray) (t:Int) (hz:SzS 140737488355200 s) (hr:cR cM s.usr) (hr2:cR dN s.tmb) :DenX Tryz.prog 186 [.agg (dK s E0 E1),.s (.string u),.s (.int .i64 t)] [(E0,.buf 2 (s.usr.map usC)),(E1,.buf 2 (s.tmb.map tmC))] (fun r m=>r=.agg (dK (fM s u t) E0 E1)∧m=[(E0,.buf 2 ((fM s u t).usr.map usC)),(E1,.buf 2 ((fM s u t).tmb.map tmC))]):=by
 have z1:=hz.o
 have z2:=hz.u
 have z3:=hz.b
 have z4:=hz.t
 have tf:=List.length_filter_le (fun x=>!isK dN u x) s.tmb
 have hpl:=tP (key:=dN) (s.tmb.filter fun x=>!isK dN u x) u
 refine fW [(E0,G0),(E1,G1)] Tryz.func186 rfl (Nat.le_of_ble_eq_true rfl) (args':=[.agg (dK s G0 G1),.s (.string u),.s (.int .i64 t)]) (m':=[(G0,.buf 2 (s.usr.map usC)),(G1,.buf 2 (s.tmb.map tmC))]) rfl rfl (by decide) (by decide) rfl (fun w0 o0 A hf=>?_)
 refine aC (fun K1 hK1=>(aB (pX hf rfl rfl rfl rfl (l1 rfl) ?_)))
 refine aM hf rfl (cP rfl rfl (lf rfl)) (bJ hf rfl rfl rfl bC (aD (hK1 _ (aC (fun K2 hK2=>(iR hf (L:=#[true,true,true,true,true,true,true,true,true,false,false,false]) 9 3 bI (by kernel_rfl) rfl (by kernel_rfl) rfl ?_))))))
 refine aX aA 3 rfl (bT [(10,_),(11,_)] rfl rfl ⟨⟨rfl,rfl⟩,⟨rfl,rfl⟩,trivial⟩ rfl (aQ rfl rfl aG0 rfl (aAx s.opn u (by omega))) (aX aA 3 rfl (bT [(14,_),(15,_)] rfl rfl ⟨⟨rfl,rfl⟩,⟨rfl,rfl⟩,trivial⟩ rfl (aQ rfl rfl aGz rfl (aDn s.sub u (by omega))) (aX aA 1 rfl (vC [2,3,4,6,12,16,17] rfl rfl rfl ?_)))))
 refine aI 9 [] (by kernel_rfl) ⟨?_,trivial⟩
 ·
  refine⟨_,rfl,rfl,(ao rfl (aT hf rfl rfl lP rfl rfl (l1 rfl) (l4 rfl) rfl (aF (aI 10 [] (by kernel_rfl) ⟨?_,trivial⟩))))⟩
  ·
   refine⟨_,rfl,rfl,(ao rfl (aE aA 1 rfl (aF (aI 11 [] (by kernel_rfl) ⟨?_,trivial⟩))))⟩
   ·
    refine⟨_,rfl,rfl,(ao rfl (aT hf rfl rfl nP rfl rfl (l1 rfl) (l4 rfl) rfl (aF (dC (by kernel_rfl) ?_))))⟩
    refine hK2 _ (aC (fun K3 hK3=>(aB (aE aA 2 rfl (aG rfl (fV rfl) (fK hf G0 rfl rfl rfl rfl rfl aGy (wT aGx rfl (fun _=>rfl) (isK cM u) s.usr _ (by rw[List.length_map]) (by omega) (fun x _=>aFl x u)) ?_))))))
    rintro r zs ⟨rfl,rfl⟩
    rw[aBx]
    refine aE aA 1 rfl (aT hf rfl rfl nQ rfl rfl (l1 rfl) (l4 rfl) rfl (aD (hK3 _ (aC (fun K4 hK4=>(aB (aE aA 2 rfl (aG rfl (fV rfl) (fK hf G1 rfl rfl rfl rfl rfl aGw (wU aGv rfl (fun _=>rfl) (isK dN u) s.tmb _ (by rw[List.length_map]) (by omega) (fun x _=>aFk x u)) ?_)))))))))
    rintro r zs ⟨rfl,rfl⟩
    rw[aBx]
    refine aE aA 1 rfl (aT hf rfl rfl rB rfl rfl (l1 rfl) (l4 rfl) rfl (aD (hK4 _ (aC (fun K5 hK5=>(aB (aE aA 3 rfl (aM hf rfl (pN rfl rfl (by show [AV.conv _ _,_,_]=_; rw[cI (g:=G1) rfl (by rw[List.length_map])]; rfl) aGu (aH4 (s.tmb.filter fun x=>!isK dN u x) u (by omega) (kO hr2 _)) rfl) ?_))))))))
    refine aE aA 5 rfl (aD (hK5 _ (aC (fun K6 hK6=>(aB (aE aA 5 rfl (aG rfl (cS rfl vK aIx (l3 rfl) rfl) (gO hf rfl rfl rfl iT rfl rfl rfl rfl (l2 rfl) ?_))))))))
    refine fZ hf [(E0,G1),(E1,42)] [(E0,43)] rfl rfl rfl rfl rfl rfl (by decide) (by decide) (by decide) rfl aGt (aE3 ((s.tmb.filter fun x=>!isK dN u x).map tmC) [.s (.string u),.s (.int .i64 t)] _ (cN dN (s.tmb.filter fun x=>!isK dN u x) u) (by rw[List.length_map]) hpl (by omega)) ?_
    rintro r m1 ⟨rfl,rfl⟩
    refine cD (cK (sl':=[(3,.ref 3 0 0 0),(6,.ref 6 0 0 0),(43,.own 43 2 0 ((s.tmb.filter fun x=>!isK dN u x).length+1))]) (m':=[(43,.buf 2 (((s.tmb.filter fun x=>!isK dN u x).map tmC).take (cN dN (s.tmb.filter fun x=>!isK dN u x) u)++[.s (.string u),.s (.int .i64 t)]::((s.tmb.filter fun x=>!isK dN u x).map tmC).drop (cN dN (s.tmb.filter fun x=>!isK dN u x) u))),(6,.box [.s (.int .i64 0),.s (.int .i64 0),.s (.slice none 0 0),.s (.slice none 0 0),.s (.slice none 0 0),.s (.slice none 0 0)]),(3,.box [.s (.int .i64 s.now),.s (.int .i64 s.hor),.sl 4 ((s.opn.filter fun e=>!rW u e).map seC),.own G0 2 0 (s.usr.filter fun x=>!isK cM u x).length,.sl 4 ((s.sub.filter fun e=>!zO u e).map enC),.bad]),(G0,.buf 2 ((s.usr.filter fun x=>!isK cM u x).map usC))]) ⟨rfl,rfl,rfl,trivial⟩ rfl) ?_
    refine aE aA 1 rfl (aT hf rfl rfl rB rfl rfl (l1 rfl) (l4 rfl) rfl (aD (hK6 _ (aC (fun K7 hK7=>(aB ?_))))))
    rw[aKa hr2,erTl (t:=t) hr2,erUl (t:=t) hr,erU (t:=t) hr]
    refine aG rfl (bP (cs':=dK (fM s u t) G0 43) rfl lK cF rfl rfl rfl) (aT hf rfl rfl cF rfl rfl (l1 rfl) (l4 rfl) rfl (aD (hK7 _ (aJ ?_))))
    exact⟨_,[(E0,G0),(E1,43)],_,Le.refl _,by decide,rfl,rfl,⟨rfl,rfl⟩⟩
end Go.Proofs.YthapfogcaklbbaaGreat
set_option linter.unusedVariables false
set_option linter.unusedSimpArgs false
namespace Go.Proofs.YthapfogcaklbbaaGreat
open Go Go.Abs
theorem aP4 (l:List Se) (n:Int) (u:ByteArray) (hl:l.length≤9223372036854775807) :Den Tryz.prog 237 [.sl 4 (l.map seC),.s (.int .i64 n),.s (.string u)]  (·=.tup [.agg (seC (aRq l n u)),.s (.int .i64 (gH l n u))]):=by
 refine aU Tryz.func237 rfl (Nat.le_of_ble_eq_true rfl) (fun w0 A hf=>(aC (fun K1 hK1=>(aB (bJ hf rfl rfl rfl aB5 (aE aA 1 rfl (aD (hK1 _ (aC (fun K2 hK2=>(aB (aE aA 2 rfl (aM hf rfl (aQ rfl rfl aPt rfl (aPs _ _ (by omega))) (aE aA 1 rfl (aD ?_)))))))))))))))
 refine hK2 _ (aC (fun K3 hK3=>(aC (fun K4 hK4=>(aB (aE aA 2 rfl (aD (hK4 _ (aK rfl (fun hc1=>?_) (fun hc1=>?_))))))))))
 ·
  simp only[bs] at hc1
  refine aC (fun K5 hK5=>(aB (aG rfl (cS rfl aB5 aPy (l3 rfl) rfl) (aT hf rfl rfl jV rfl rfl (l1 rfl) (l4 rfl) rfl (aE aA 1 rfl (aD (hK5 _ (aJ ?_))))))))
  refine⟨_,rfl,?_⟩
  have hc:gH l n u=101:=by
   rcases dM (isN n) l with ⟨_,h⟩ | ⟨k',h1,e,h2,h3⟩
   · exact(aDc n u l (fun j hj=>h _ (List.getElem_mem hj))).2.1
   · exfalso; omega
  rw[aRq,if_neg (by omega),hc]; rfl
 ·
  simp only[bs] at hc1
  obtain ⟨k,hk,ek,hk1,hk2⟩:∃ k:Nat,∃ h:k<l.length,nA (isN n) l=(k:Nat)∧isN n l[k]=true∧∀ (j:Nat) (hj:j<l.length),j<k→isN n l[j]=false:=by
   rcases dM (isN n) l with ⟨e,_⟩ | ⟨k',h1,e,h2,h3⟩
   · exfalso; omega
   · exact⟨k',h1,e,h2,h3⟩
  obtain ⟨e1,e2,e3,_⟩:=mC n u 0 0 l k hk hk2 hk1
  rw[ek]
  refine aN (hK3 _ (aC (fun K6 hK6=>(aC (fun K7 hK7=>(aB (aE aA 2 rfl ?_)))))))
  refine aG rfl (bB rfl rfl pE jV (by first | exact ixm (by omega) | assumption | exact⟨by decide,rfl⟩)) ?_
  refine aE aA 4 rfl (aD (hK7 _ (aK rfl (fun hc2=>?_) (fun hc2=>?_))))
  ·
   simp only[bs] at hc2
   refine aC (fun K8 hK8=>(aB (aG rfl (cS rfl aB5 aPy (l3 rfl) rfl) (aT hf rfl rfl jV rfl rfl (l1 rfl) (l4 rfl) rfl (aE aA 1 rfl (aD (hK8 _ (aJ ?_))))))))
   refine⟨_,rfl,?_⟩
   have hc:gH l n u=102:=by rw[e3,if_neg (by simp_all[toList_inj])]
   rw[aRq,if_neg (by omega),hc]; rfl
  ·
   simp only[bs] at hc2
   refine aN (hK6 _ (aC (fun K9 hK9=>(aB (aE aA 2 rfl ?_)))))
   refine aG rfl (bB rfl rfl pE jV (by first | exact ixm (by omega) | assumption | exact⟨by decide,rfl⟩)) ?_
   refine aE aA 1 rfl (aT hf rfl rfl jV rfl rfl (l1 rfl) (l4 rfl) rfl (aE aA 1 rfl (aD (hK9 _ (aJ ?_)))))
   refine⟨_,rfl,?_⟩
   have hc:gH l n u=0:=by rw[e3,if_pos (by simp_all[toList_inj])]
   rw[aRq,if_pos hc,hc,e2]; rfl
theorem aC8 (l:List Se) (n:Int) (u:ByteArray) (st t:Int) (hl:l.length*40+40≤140737488355328) :Den Tryz.prog 182 [.sl 4 (l.map seC),.s (.int .i64 n),.s (.string u),.s (.int .i64 st),.s (.int .i64 t)]  (·=.tup [.sl 4 ((nT l n u st t).map seC),.agg (stC (stR l n u t)),.s (.int .i64 (gH l n u))]):=by
 refine aU Tryz.func182 rfl (Nat.le_of_ble_eq_true rfl) (fun w0 A hf=>(aC (fun K1 hK1=>(aB (aG rfl (bH) (bJ hf rfl rfl rfl dP (aE aA 1 rfl (aD (hK1 _ (aC (fun K2 hK2=>(aB (aE aA 3 rfl (aM hf rfl (aQ rfl rfl qX rfl (aAd _ _ _ (by omega))) (aE aA 5 rfl ?_)))))))))))))))
 refine aD (hK2 _ (aC (fun K3 hK3=>(aC (fun K4 hK4=>(aB (aE aA 2 rfl (aD (hK4 _ (aK rfl (fun hc1=>?_) (fun hc1=>?_)))))))))))
 ·
  simp only[bs] at hc1
  refine aC (fun K5 hK5=>(aB (aG rfl (cS rfl dP pT (l3 rfl) rfl) (aE aA 1 rfl (aG rfl (yZ (k:=4)) (aT hf rfl rfl aS rfl rfl (l1 rfl) (l4 rfl) rfl (aE aA 1 rfl (aD (hK5 _ (aJ ?_))))))))))
  refine⟨_,rfl,?_⟩
  rw[nT,stR,if_neg (by assumption),if_neg (by assumption)]; rfl
 ·
  simp only[bs] at hc1
  obtain ⟨k,hk,ek,hk1,hk2,hk3⟩:=aC6 (show gH l n u=0 by assumption)
  obtain ⟨c1,c2,c3⟩:=aMr hk hk1 hk2 hk3
  obtain ⟨_,_,_,c4,c5⟩:=mC n u st t l k hk hk3 hk1
  rw[ek]
  refine aN (hK3 _ (aC (fun K6 hK6=>(aB (aE aA 1 rfl (fR hf rfl rfl rfl rfl rfl fE rfl (fU _ (by omega)) ?_))))))
  rintro _ rfl
  refine aE aA 1 rfl (aD (hK6 _ (aC (fun K7 hK7=>(aB ?_)))))
  have hml:(l.map seC).length=l.length:=List.length_map _
  refine aE aA 6 rfl ?_
  refine aG rfl (bN rfl rfl dR cW (by omega)) ?_
  refine aE aA 1 rfl (aT hf rfl rfl cE rfl rfl (by simp [AV.cells,AV.one,Value.oneCell']) (by simp [AV.cells,AV.leaf,Value.oneCell']) (gE (c:=4) (k:=k) (f:=2) (enc:=seC) (v:=(l[k].1,(st,l[k].2.2))) (by omega) (by first | omega | (rw[List.length_set]; omega)) (by first | rfl | (simp only[List.getElem_set_self]; rfl)) (Nat.le_of_ble_eq_true rfl)) ?_)
  refine aG rfl (bN rfl rfl dR cW (by omega)) ?_
  refine aE aA 1 rfl (aT hf rfl rfl cE rfl rfl (by simp [AV.cells,AV.one,Value.oneCell']) (by simp [AV.cells,AV.leaf,Value.oneCell']) (gE (c:=4) (k:=k) (f:=3) (enc:=seC) (v:=(l[k].1,(st,t))) (by omega) (by first | omega | (rw[List.length_set]; omega)) (by first | rfl | (simp only[List.getElem_set_self]; rfl)) (Nat.le_of_ble_eq_true rfl)) ?_)
  refine aD (hK7 _ (aC (fun K8 hK8=>(aB (aE aA 3 rfl ?_)))))
  refine aG rfl (bB rfl rfl dR cW (by first | exact ixm (by omega) | assumption | exact⟨by decide,rfl⟩)) ?_
  refine aE aA 2 rfl (aM hf rfl (aQ rfl rfl rA rfl (sG _ _)) (aE aA 1 rfl (aT hf rfl rfl aS rfl rfl (l1 rfl) (l4 rfl) rfl (aE aA 1 rfl (aD (hK8 _ (aJ ?_)))))))
  refine⟨_,rfl,?_⟩
  refine(congrArg (fun z=>AV.tup [z,.agg (stC (eW l[k] t)),.s (.int .i64 0)]) (cI (g:=28) rfl (by simp only[List.length_map,List.length_set]))).trans ?_
  rw[nT,stR,if_pos c1,if_pos c1,c1,c2,c4,List.set_set]
theorem aQs (l:List Se) (n:Int) (u:ByteArray) (st t:Int) (hl:l.length*40+40≤140737488355328) :Den Tryz.prog 205 [.sl 4 (l.map seC),.s (.int .i64 n),.s (.string u),.s (.int .i64 st),.s (.int .i64 t)]  (·=.tup [.sl 4 ((nT l n u st t).map seC),.agg (stC (stR l n u t)),.s (.int .i64 (gH l n u))]):=by
 refine aU Tryz.func205 rfl (Nat.le_of_ble_eq_true rfl) (fun w0 A hf=>(aC (fun K1 hK1=>(aB (aG rfl (bH) (bJ hf rfl rfl rfl aB6 (aE aA 1 rfl (aD (hK1 _ (aC (fun K2 hK2=>(aB (aE aA 3 rfl (aM hf rfl (aQ rfl rfl aQk rfl (aP4 _ _ _ (by omega))) (aE aA 3 rfl ?_)))))))))))))))
 refine cC hf rfl aB5 rfl jV rfl rfl rfl rfl (lf rfl) (aE aA 1 rfl (aD (hK2 _ (aC (fun K3 hK3=>(aC (fun K4 hK4=>(aB (aE aA 2 rfl (aD (hK4 _ (aK rfl (fun hc1=>?_) (fun hc1=>?_)))))))))))))
 ·
  simp only[bs] at hc1
  refine aC (fun K5 hK5=>(aB (aG rfl (cS rfl aB6 aN0 (l3 rfl) rfl) (aE aA 1 rfl (aG rfl (yZ (k:=4)) (aT hf rfl rfl jW rfl rfl (l1 rfl) (l4 rfl) rfl (aE aA 1 rfl (aD (hK5 _ (aJ ?_))))))))))
  refine⟨_,rfl,?_⟩
  rw[nT,stR,if_neg (by assumption),if_neg (by assumption)]; rfl
 ·
  simp only[bs] at hc1
  obtain ⟨k,hk,ek,hk1,hk2,hk3⟩:=aC6 (show gH l n u=0 by assumption)
  obtain ⟨c1,c2,c3⟩:=aMr hk hk1 hk2 hk3
  obtain ⟨_,_,_,c4,c5⟩:=mC n u st t l k hk hk3 hk1
  refine aN (hK3 _ (aC (fun K6 hK6=>(aB (gO hf rfl rfl rfl aPb rfl rfl rfl rfl (l2 rfl) ?_)))))
  refine aE aA 1 rfl (eF hf rfl aPb rfl rfl rfl (.inl rfl) (by first | rfl | (simp only[List.length_append,List.length_map,List.length_cons,List.length_nil,List.length_take] <;> omega)) rfl (by first | rfl | simp [kA,bF]) (by first | (simp only[maxLen,List.length_map,List.length_append,List.length_cons,List.length_nil]; omega) | (simp [maxLen] <;> omega)) (by first | (simp only[List.length_map,List.length_append,List.length_cons,List.length_nil]; omega) | (simp <;> omega)) ?_)
  refine cD (iX [0,1,2,3,4,11,13,29] rfl) (aE aA 1 rfl (aD (hK6 _ (aC (fun K7 hK7=>(aB ?_))))))
  have hml:(l.map seC).length=l.length:=List.length_map _
  have hix:nA (isN n) l=(k:Nat):=mZ hk hk3 hk1
  refine aE aA 3 rfl (aM hf rfl (aQ rfl rfl aPt rfl (aPs _ _ (by omega))) (aE aA 4 rfl (aG rfl (cS rfl aB5 aPy (l3 rfl) rfl) ?_)))
  rw[hix]
  refine aG rfl (bN rfl rfl pE jV (by omega)) ?_
  refine aT hf rfl rfl jV rfl rfl (by simp [seC,AV.cells,AV.one,Value.oneCell',splice,AV.kill,AV.clean,cleanL,AV.only]) (by simp [seC,AV.cells,AV.leaf,Value.oneCell',splice,AV.kill,AV.clean,cleanL,AV.only]) (gE (c:=4) (k:=k) (enc:=seC) (v:=((n,u),(st,t))) (by omega) (by omega) rfl (Nat.le_refl _)) ?_
  refine aD (hK7 _ (aC (fun K8 hK8=>(aB (aE aA 3 rfl (aM hf rfl (aQ rfl rfl aOd rfl (aN2 _ _)) (aE aA 1 rfl (aT hf rfl rfl jW rfl rfl (l1 rfl) (l4 rfl) rfl (aE aA 1 rfl (aD (hK8 _ (aJ ?_))))))))))))
  refine⟨_,rfl,?_⟩
  refine(congrArg (fun z=>AV.tup [z,.agg (stC (eW (aRq l n u) t)),.s (.int .i64 0)]) (cI (g:=27) rfl (by simp only[List.length_map,List.length_set,Nat.zero_add]))).trans ?_
  rw[nT,stR,aRq,if_pos c1,if_pos c1,if_pos c1,c1,c4,c3]
end Go.Proofs.YthapfogcaklbbaaGreat
set_option linter.unusedVariables false
set_option linter.unusedSimpArgs false
namespace Go.Proofs.YthapfogcaklbbaaGreat
open Go Go.Abs
theorem aFz (l:List Se) (n:Int) (u:ByteArray) (t:Int) (hl:l.length*40+40≤140737488355328) :Den Tryz.prog 183 [.sl 4 (l.map seC),.s (.int .i64 n),.s (.string u),.s (.int .i64 t)]  (·=.tup [.sl 4 ((nS l n u).map seC),.agg (stC (stR l n u t)),.s (.int .i64 (gH l n u))]):=by
 refine aU Tryz.func183 rfl (Nat.le_of_ble_eq_true rfl) (fun w0 A hf=>(aC (fun K1 hK1=>(aB (aG rfl (bH) (bJ hf rfl rfl rfl dP (aE aA 1 rfl (aD (hK1 _ (aC (fun K2 hK2=>(aB (aE aA 3 rfl (aM hf rfl (aQ rfl rfl qX rfl (aAd _ _ _ (by omega))) (aE aA 5 rfl ?_)))))))))))))))
 refine aD (hK2 _ (aC (fun K3 hK3=>(aC (fun K4 hK4=>(aB (aE aA 2 rfl (aD (hK4 _ (aK rfl (fun hc1=>?_) (fun hc1=>?_)))))))))))
 ·
  simp only[bs] at hc1
  refine aC (fun K5 hK5=>(aB (aG rfl (cS rfl dP pT (l3 rfl) rfl) (aE aA 1 rfl (aG rfl (yZ (k:=4)) (aT hf rfl rfl aS rfl rfl (l1 rfl) (l4 rfl) rfl (aE aA 1 rfl (aD (hK5 _ (aJ ?_))))))))))
  refine⟨_,rfl,?_⟩
  rw[nS,stR,if_neg (by assumption),if_neg (by assumption)]; rfl
 ·
  simp only[bs] at hc1
  obtain ⟨k,hk,ek,hk1,hk2,hk3⟩:=aC6 (show gH l n u=0 by assumption)
  obtain ⟨c1,c2,c3⟩:=aMr hk hk1 hk2 hk3
  obtain ⟨_,_,_,c4,c5⟩:=mC n u 0 t l k hk hk3 hk1
  rw[ek]
  refine aN (hK3 _ (aC (fun K6 hK6=>(iR hf (L:=#[true,true,true,true,true,true,true,true,true,true,true,true,true,true,true,true,false,false]) 16 2 bI (by kernel_rfl) rfl (by kernel_rfl) rfl ?_))))
  refine aX aA 2 rfl (bL [(24,_),(25,_)] rfl rfl ⟨⟨rfl,rfl⟩,⟨rfl,rfl⟩,trivial⟩ rfl (dS rfl dR cW rfl (lV rfl (by omega)) (by omega) (by simp only[List.length_map,Int.toNat_natCast] <;> omega) (lC (k:=k) (by omega))) ?_)
  refine aX aA 2 rfl ?_
  refine bL [(28,_)] rfl rfl ⟨⟨rfl,rfl⟩,trivial⟩ rfl (bO rfl rfl (by omega) (by omega)) ?_
  refine bL [(27,_),(29,_)] rfl rfl ⟨⟨rfl,rfl⟩,⟨rfl,rfl⟩,trivial⟩ rfl (dS rfl dR cW (lV rfl (by omega)) rfl (by simp only[List.length_map,Int.toNat_natCast] <;> omega) (by omega) (hZ (k:=k+1) (by omega))) ?_
  refine bT [(26,_),(30,_)] rfl rfl ⟨⟨rfl,rfl⟩,⟨rfl,rfl⟩,trivial⟩ rfl (bE tB rfl rfl rfl rfl (l2 rfl)) (bT [(31,_)] rfl rfl ⟨⟨rfl,rfl⟩,trivial⟩ rfl (aQ rfl rfl qW rfl ((show Den Tryz.prog _ _ (·=.sl 4 ((l.take k++l.drop (k+1)).map seC)) from (cJ (pZ [l.take k,l.drop (k+1)] (by simp) (by simp only[List.flatten_cons,List.flatten_nil,List.length_append,List.length_take,List.length_drop,List.length_nil]; omega))).mono fun r h=>h.trans (by simp)))) ?_)
  refine aX aA 2 rfl ?_
  refine bL [(33,_),(34,_)] rfl rfl ⟨⟨rfl,rfl⟩,⟨rfl,rfl⟩,trivial⟩ rfl (bB rfl rfl dR cW (by first | exact ixm (by omega) | assumption | exact⟨by decide,rfl⟩)) ?_
  refine aX aA 2 rfl (bT [(36,_),(37,_)] rfl rfl ⟨⟨rfl,rfl⟩,⟨rfl,rfl⟩,trivial⟩ rfl (aQ rfl rfl rA rfl (sG l[k] t)) (aX aA 1 rfl (vC [8,9,38] rfl rfl rfl ?_)))
  refine aI 16 [] (by kernel_rfl) ⟨?_,trivial⟩
  ·
   refine⟨_,rfl,rfl,(ao rfl (aT hf rfl rfl aS rfl rfl (l1 rfl) (l4 rfl) rfl (aF (aI 17 [] (by kernel_rfl) ⟨?_,trivial⟩))))⟩
   ·
    refine⟨_,rfl,rfl,(ao rfl (aE aA 1 rfl (aF (dC (by kernel_rfl) ?_))))⟩
    refine hK6 _ (aJ ?_)
    refine⟨_,rfl,?_⟩
    rw[nS,stR,if_pos c1,if_pos c1,c1,c2,c5]; rfl
theorem aPz (l:List Se) (n:Int) (u:ByteArray) (t:Int) (hl:l.length*40+40≤140737488355328) :Den Tryz.prog 204 [.sl 4 (l.map seC),.s (.int .i64 n),.s (.string u),.s (.int .i64 t)]  (·=.tup [.sl 4 ((nS l n u).map seC),.agg (stC (stR l n u t)),.s (.int .i64 (gH l n u))]):=by
 refine aU Tryz.func204 rfl (Nat.le_of_ble_eq_true rfl) (fun w0 A hf=>(aC (fun K1 hK1=>(aB (aG rfl (bH) (bJ hf rfl rfl rfl aB6 (aE aA 1 rfl (aD (hK1 _ (aC (fun K2 hK2=>(aB (aE aA 3 rfl (aM hf rfl (aQ rfl rfl aQk rfl (aP4 _ _ _ (by omega))) (aE aA 3 rfl ?_)))))))))))))))
 refine cC hf rfl aB5 rfl jV rfl rfl rfl rfl (lf rfl) (aE aA 1 rfl (aD (hK2 _ (aC (fun K3 hK3=>(aC (fun K4 hK4=>(aB (aE aA 2 rfl (aD (hK4 _ (aK rfl (fun hc1=>?_) (fun hc1=>?_)))))))))))))
 ·
  simp only[bs] at hc1
  refine aC (fun K5 hK5=>(aB (aG rfl (cS rfl aB6 aN0 (l3 rfl) rfl) (aE aA 1 rfl (aG rfl (yZ (k:=4)) (aT hf rfl rfl jW rfl rfl (l1 rfl) (l4 rfl) rfl (aE aA 1 rfl (aD (hK5 _ (aJ ?_))))))))))
  refine⟨_,rfl,?_⟩
  rw[nS,stR,if_neg (by assumption),if_neg (by assumption)]; rfl
 ·
  simp only[bs] at hc1
  obtain ⟨k,hk,ek,hk1,hk2,hk3⟩:=aC6 (show gH l n u=0 by assumption)
  obtain ⟨c1,c2,c3⟩:=aMr hk hk1 hk2 hk3
  obtain ⟨_,_,_,c4,c5⟩:=mC n u 0 t l k hk hk3 hk1
  have hix:nA (isN n) l=(k:Nat):=mZ hk hk3 hk1
  refine aN (hK3 _ (aC (fun K6 hK6=>(aB (oJ hf 4 rfl rfl rfl (aD (hK6 _ (aC (fun K7 hK7=>(aC (fun K8 hK8=>(aB (aE aA 1 rfl (aD (hK8 _ ?_)))))))))))))))
  refine aO (bR (ι:=Nat×List Se) (fun(⟨j,out⟩:Nat×List Se)=>⟨48,[(0,.sl 4 (l.map seC)),(1,.s (.int .i64 n)),(3,.s (.int .i64 t)),(9,.ref 9 0 0 0),(11,.adr (seC (aRq l n u))),(13,.own 13 4 0 out.length),(14,.s (.int .i64 (j:Nat)))],[(13,.buf 4 (out.map seC)),(9,.box [.s (.int .i64 0),.s (.int .i64 0),.s (.int .i64 0),.s (.int .i64 0)])]⟩) (fun(⟨j,out⟩:Nat×List Se)=>j≤l.length∧out=(l.take j).eraseIdx k∧out.length≤j) (fun(⟨j,out⟩:Nat×List Se)=>l.length - j) (0,[]) ?_ ?_ ?_)
  · exact⟨Nat.zero_le _,rfl,Nat.le_refl _⟩
  · exact cX rfl
  ·
   rintro ⟨j,out⟩ hC
   obtain ⟨h1,h2,h3⟩:=hC
   refine aC (fun K9 hK9=>(aC (fun K10 hK10=>(aB (aE aA 4 rfl (aD (hK10 _ (aK rfl (fun hc2=>?_) (fun hc2=>?_)))))))))
   ·
    simp only[bs] at hc2
    refine aN (hK9 _ (aC (fun K11 hK11=>(aO (aC (fun K12 hK12=>(aB (aE aA 3 rfl (aM hf rfl (aQ rfl rfl aPt rfl (aPs _ _ (by omega))) ?_)))))))))
    rw[hix]
    refine aE aA 1 rfl (aD (hK12 _ (aK rfl (fun hc3=>?_) (fun hc3=>?_))))
    ·
     simp only[bs] at hc3
     refine aB (aE aA 3 rfl ?_)
     refine aG rfl (bB rfl rfl pE jV (by first | exact ixm (by omega) | assumption | exact⟨by decide,rfl⟩)) ?_
     refine aE aA 1 rfl (aM hf rfl (bE aPb rfl rfl rfl rfl (l2 rfl)) (eF hf rfl aPb rfl rfl rfl (.inl rfl) (by first | rfl | (simp only[List.length_append,List.length_map,List.length_cons,List.length_nil,List.length_take] <;> omega)) rfl (by first | rfl | simp [kA,bF]) (by first | (simp only[maxLen,List.length_map,List.length_append,List.length_cons,List.length_nil]; omega) | (simp [maxLen] <;> omega)) (by first | (simp only[List.length_map,List.length_append,List.length_cons,List.length_nil]; omega) | (simp <;> omega)) ?_))
     refine cD (iX [0,1,3,9,11,14,43] rfl) (aE aA 1 rfl ?_)
     refine bG ?_
     refine hK11 _ (aB (aE aA 1 rfl ?_))
     refine aG rfl (bO rfl rfl (by omega) (by omega)) ?_
     refine aE aA 1 rfl (aD ?_)
     exact⟨(j+1,out++[l[j]]),⟨by omega,by rw[h2,er_ne (by omega) (by omega)],by rw[List.length_append]; simp only[List.length_cons,List.length_nil]; omega⟩,by simp only; omega,cK ⟨rfl,rfl,rfl,rfl,rfl,(by first | rfl | (rw[List.length_append]; rfl)),rfl,trivial⟩ (by rw[List.map_append]; rfl)⟩
    ·
     simp only[bs] at hc3
     refine aN (hK11 _ (aB (aE aA 1 rfl ?_)))
     refine aG rfl (bO rfl rfl (by omega) (by omega)) ?_
     refine aE aA 1 rfl (aD ?_)
     exact⟨(j+1,out),⟨by omega,by rw[h2,show j=k by omega,er_eq hk],by omega⟩,by simp only; omega,cK ⟨rfl,rfl,rfl,rfl,rfl,(by first | rfl | (rw[List.length_append]; rfl)),rfl,trivial⟩ rfl⟩
   ·
    simp only[bs] at hc2
    refine aW (hK7 _ (aC (fun K13 hK13=>(aB (aE aA 3 rfl (aM hf rfl (aQ rfl rfl aOd rfl (aN2 _ _)) (aE aA 1 rfl (aT hf rfl rfl jW rfl rfl (l1 rfl) (l4 rfl) rfl (aE aA 1 rfl (aD (hK13 _ (aJ ?_))))))))))))
    refine⟨_,rfl,?_⟩
    refine(congrArg (fun z=>AV.tup [z,.agg (stC (eW (aRq l n u) t)),.s (.int .i64 0)]) (cI (g:=13) rfl (by rw[List.length_map]))).trans ?_
    rw[nS,stR,aRq,if_pos c1,if_pos c1,if_pos c1,c1,c5,h2,List.take_of_length_le (by omega),er_end]
end Go.Proofs.YthapfogcaklbbaaGreat
set_option linter.unusedVariables false
set_option linter.unusedSimpArgs false
namespace Go.Proofs.YthapfogcaklbbaaGreat
open Go Go.Abs
theorem aIc (l:List Se) (e:Se) (hl:l.length*40+40≤140737488355328) :Den Tryz.prog 181 [.sl 4 (l.map seC),.agg (seC e)]  (·=.tup [.sl 4 ((nR l e).map seC),.s (.int .i64 (sP l e))]):=by
 refine aU Tryz.func181 rfl (Nat.le_of_ble_eq_true rfl) (fun w0 A hf=>(aC (fun K1 hK1=>(aB (aM hf rfl (cP rfl rfl (lf rfl)) (aG rfl (bH) (aE aA 1 rfl (aD (hK1 _ (aC (fun K2 hK2=>(aB (aE aA 5 rfl (aM hf rfl (aQ rfl rfl qX rfl (aAd _ _ _ (by omega))) (aE aA 5 rfl ?_)))))))))))))))
 refine aD (hK2 _ (aC (fun K3 hK3=>(aO (aC (fun K4 hK4=>(aB (aE aA 3 rfl (aD (hK4 _ (aK rfl (fun hc1=>?_) (fun hc1=>?_))))))))))))
 ·
  simp only[bs] at hc1
  refine aC (fun K5 hK5=>(aB (aG rfl (yZ (k:=4)) (aE aA 1 rfl (aD (hK5 _ (aJ ?_)))))))
  refine⟨_,rfl,?_⟩
  have ho:sP l e=100:=by
   unfold sP
   rw[if_pos (by have:=(aFs (l:=l) (n:=e.1.1) (u:=e.1.2)); cases hh:aFa l e.1.1 <;> simp_all)]
  rw[nR,if_neg (by omega),ho]; rfl
 ·
  simp only[bs] at hc1
  have hno:aFa l e.1.1=false:=(aFs (u:=e.1.2)).1 (by assumption)
  refine aC (fun K6 hK6=>(aB (aE aA 4 rfl (aD (hK6 _ (aK rfl (fun hc2=>?_) (fun hc2=>?_)))))))
  ·
   simp only[bs] at hc2
   refine aC (fun K7 hK7=>(aB (aG rfl (yZ (k:=4)) (aE aA 1 rfl (aD (hK7 _ (aJ ?_)))))))
   refine⟨_,rfl,?_⟩
   have ho:sP l e=103:=by
    unfold sP
    rw[if_neg (by simp [hno]),if_pos (by omega)]
   rw[nR,if_neg (by omega),ho]; rfl
  ·
   simp only[bs] at hc2
   refine aN (hK3 _ (aC (fun K8 hK8=>(aB (aE aA 1 rfl (aG rfl (fV rfl) (aM hf rfl (aQ rfl rfl wK rfl (pY aG4 rfl (kR e.1.1) l (by omega) (fun x _=>aKq x e))) (aE aA 1 rfl (aD (hK8 _ (aC (fun K9 hK9=>(aC (fun K10 hK10=>(aB ?_)))))))))))))))
   refine aE aA 2 rfl (aD (hK10 _ (aK rfl (fun hc3=>?_) (fun hc3=>?_))))
   ·
    simp only[bs] at hc3
    obtain ⟨k,hk⟩:∃ k:Nat,k=l.length:=⟨_,rfl⟩
    have hnA:∀ x∈l,kR e.1.1 x=false:=by
     rcases dM (kR e.1.1) l with ⟨_,h⟩ | ⟨k',_,e0,_⟩
     · exact h
     · exfalso; omega
    have hins:=aCx (kR e.1.1) e l k (by omega) (fun j hj _=>hnA _ (List.getElem_mem hj)) (fun h=>by omega)
    refine aB (aE aA 2 rfl ?_)
    rw[List.length_map,← hk]
    refine aE aA 1 rfl (aD (hK9 _ (aC (fun K11 hK11=>(eB hf bI (by kernel_rfl) rfl (aX aA 2 rfl (bL [(32,_),(33,_)] rfl rfl ⟨⟨rfl,rfl⟩,⟨rfl,rfl⟩,trivial⟩ rfl (dS rfl dR cW rfl (lV rfl (by omega)) (by omega) (by simp only[List.length_map,Int.toNat_natCast] <;> omega) (lC (k:=k) (by omega))) ?_)))))))
    refine aX aA 1 rfl (bT [(35,_)] rfl rfl ⟨⟨rfl,rfl⟩,trivial⟩ rfl (bE iU rfl rfl rfl rfl (l2 rfl)) (aX aA 2 rfl (bL [(37,_),(38,_)] rfl rfl ⟨⟨rfl,rfl⟩,⟨rfl,rfl⟩,trivial⟩ rfl (dS rfl dR cW (lV rfl (by omega)) rfl (by simp only[List.length_map,Int.toNat_natCast] <;> omega) (by omega) (hZ (k:=k) (by omega))) ?_)))
    refine bT [(34,_),(36,_),(39,_)] rfl rfl ⟨⟨rfl,rfl⟩,⟨rfl,rfl⟩,⟨rfl,rfl⟩,trivial⟩ rfl (bE tB rfl rfl rfl rfl (l2 rfl)) (bT [(40,_)] rfl rfl ⟨⟨rfl,rfl⟩,trivial⟩ rfl (aQ rfl rfl qW rfl ((show Den Tryz.prog _ _ (·=.sl 4 ((l.take k++e::l.drop k).map seC)) from (cJ (pZ [l.take k,[e],l.drop k] (by simp) (by simp only[List.flatten_cons,List.flatten_nil,List.length_append,List.length_take,List.length_drop,List.length_cons,List.length_nil]; omega))).mono fun r h=>h.trans (by simp)))) ?_)
    refine aX aA 2 rfl (eE [4,5] rfl rfl rfl (hK11 _ (aJ ?_)))
    refine⟨_,rfl,?_⟩
    have ho:sP l e=0:=by
     unfold sP
     rw[if_neg (by simp [hno]),if_neg (by omega)]
    rw[nR,if_pos ho,ho,aCo,hins]; rfl
   ·
    simp only[bs] at hc3
    obtain ⟨k,hk,ek,hk1,hk2⟩:∃ k:Nat,∃ h:k<l.length,nA (kR e.1.1) l=(k:Nat)∧kR e.1.1 l[k]=true∧∀ (j:Nat) (hj:j<l.length),j<k→kR e.1.1 l[j]=false:=by
     rcases dM (kR e.1.1) l with ⟨e0,_⟩ | ⟨k',h1,e0,h2,h3⟩
     · exfalso; omega
     · exact⟨k',h1,e0,h2,h3⟩
    rw[ek]
    have hins:=aCx (kR e.1.1) e l k (by omega) hk2 (fun _=>hk1)
    refine aN (hK9 _ (aC (fun K12 hK12=>(eB hf bI (by kernel_rfl) rfl (aX aA 2 rfl (bL [(32,_),(33,_)] rfl rfl ⟨⟨rfl,rfl⟩,⟨rfl,rfl⟩,trivial⟩ rfl (dS rfl dR cW rfl (lV rfl (by omega)) (by omega) (by simp only[List.length_map,Int.toNat_natCast] <;> omega) (lC (k:=k) (by omega))) ?_))))))
    refine aX aA 1 rfl (bT [(35,_)] rfl rfl ⟨⟨rfl,rfl⟩,trivial⟩ rfl (bE iU rfl rfl rfl rfl (l2 rfl)) (aX aA 2 rfl (bL [(37,_),(38,_)] rfl rfl ⟨⟨rfl,rfl⟩,⟨rfl,rfl⟩,trivial⟩ rfl (dS rfl dR cW (lV rfl (by omega)) rfl (by simp only[List.length_map,Int.toNat_natCast] <;> omega) (by omega) (hZ (k:=k) (by omega))) ?_)))
    refine bT [(34,_),(36,_),(39,_)] rfl rfl ⟨⟨rfl,rfl⟩,⟨rfl,rfl⟩,⟨rfl,rfl⟩,trivial⟩ rfl (bE tB rfl rfl rfl rfl (l2 rfl)) (bT [(40,_)] rfl rfl ⟨⟨rfl,rfl⟩,trivial⟩ rfl (aQ rfl rfl qW rfl ((show Den Tryz.prog _ _ (·=.sl 4 ((l.take k++e::l.drop k).map seC)) from (cJ (pZ [l.take k,[e],l.drop k] (by simp) (by simp only[List.flatten_cons,List.flatten_nil,List.length_append,List.length_take,List.length_drop,List.length_cons,List.length_nil]; omega))).mono fun r h=>h.trans (by simp)))) ?_)
    refine aX aA 2 rfl (eE [4,5] rfl rfl rfl (hK12 _ (aJ ?_)))
    refine⟨_,rfl,?_⟩
    have ho:sP l e=0:=by
     unfold sP
     rw[if_neg (by simp [hno]),if_neg (by omega)]
    rw[nR,if_pos ho,ho,aCo,hins]; rfl
theorem aQ6 (l:List Se) (e:Se) (hl:l.length*40+40≤140737488355328) :Den Tryz.prog 203 [.sl 4 (l.map seC),.agg (seC e)]  (·=.tup [.sl 4 ((nR l e).map seC),.s (.int .i64 (sP l e))]):=by
 refine aU Tryz.func203 rfl (Nat.le_of_ble_eq_true rfl) (fun w0 A hf=>(aC (fun K1 hK1=>(aB (aM hf rfl (cP rfl rfl (lf rfl)) (aG rfl (bH) (aE aA 1 rfl (aD (hK1 _ (aC (fun K2 hK2=>(aC (fun K3 hK3=>(aB (aE aA 3 rfl (aM hf rfl (aQ rfl rfl aPt rfl (aPs _ _ (by omega))) ?_))))))))))))))))
 refine aE aA 1 rfl (aD (hK3 _ (aK rfl (fun hc1=>?_) (fun hc1=>?_))))
 ·
  simp only[bs] at hc1
  refine aC (fun K4 hK4=>(aB (aG rfl (yZ (k:=4)) (aE aA 1 rfl (aD (hK4 _ (aJ ?_)))))))
  refine⟨_,rfl,?_⟩
  have ho:sP l e=100:=by
   unfold sP
   rw[if_pos (by rcases dM (isN e.1.1) l with ⟨e0,_⟩ | ⟨k',h1,e0,h2,h3⟩; exact absurd e0 (by omega); exact List.any_eq_true.2 ⟨_,List.getElem_mem h1,h2⟩)]
  rw[nR,if_neg (by omega),ho]; rfl
 ·
  simp only[bs] at hc1
  have hno:aFa l e.1.1=false:=by
   rcases dM (isN e.1.1) l with ⟨_,h⟩ | ⟨k',h1,e0,h2,h3⟩
   · exact(aDc e.1.1 e.1.2 l (fun j hj=>h _ (List.getElem_mem hj))).2.2
   · exfalso; omega
  refine aN (hK2 _ (aC (fun K5 hK5=>(aC (fun K6 hK6=>(aB (aE aA 3 rfl (aD (hK6 _ (aK rfl (fun hc2=>?_) (fun hc2=>?_)))))))))))
  ·
   simp only[bs] at hc2
   refine aC (fun K7 hK7=>(aB (aG rfl (yZ (k:=4)) (aE aA 1 rfl (aD (hK7 _ (aJ ?_)))))))
   refine⟨_,rfl,?_⟩
   have ho:sP l e=103:=by
    unfold sP
    rw[if_neg (by simp [hno]),if_pos (by omega)]
   rw[nR,if_neg (by omega),ho]; rfl
  ·
   simp only[bs] at hc2
   refine aN (hK5 _ (aC (fun K8 hK8=>(aB (aE aA 1 rfl (aD (hK8 _ (aC (fun K9 hK9=>(aO (bR (ι:=Nat) (fun k=>⟨46,[(0,.sl 4 (l.map seC)),(3,.adr (seC e)),(6,.s (.int .i64 (k:Nat)))],[]⟩) (fun k=>k≤l.length∧∀ (j:Nat) (hj:j<l.length),j<k→kR e.1.1 l[j]=false) (fun k=>l.length - k) 0 ?_ ?_ ?_)))))))))))
   · exact⟨Nat.zero_le _,by omega⟩
   · exact cX rfl
   ·
    rintro k hC
    obtain ⟨h1,h2⟩:=hC
    refine aC (fun K10 hK10=>(aC (fun K11 hK11=>(eB hf bI (by kernel_rfl) rfl (aX aA 5 rfl (gA 20 true rfl (fun hg3=>?_) (fun hg3=>?_)))))))
    ·
     simp only[bs] at hg3
     refine aX aA 2 rfl ?_
     refine bL [(21,_),(22,_)] rfl rfl ⟨⟨rfl,rfl⟩,⟨rfl,rfl⟩,trivial⟩ rfl (bB rfl rfl pE jV (by first | exact ixm (by omega) | assumption | exact⟨by decide,rfl⟩)) ?_
     refine aX aA 6 rfl (eE [0,3,6,29] rfl rfl rfl (hK11 _ (aK rfl (fun hc4=>?_) (fun hc4=>?_))))
     ·
      simp only[bs] at hc4
      refine aN (hK10 _ (aO (aB (aE aA 1 rfl ?_))))
      refine aG rfl (bO rfl rfl (by omega) (by omega)) ?_
      refine aE aA 1 rfl ?_
      refine bG ?_
      exact⟨k+1,⟨by omega,fun j hj hjk=>by
       by_cases e0:j=k
       · subst e0; simp only[kR,decide_eq_false_iff_not]; (try simp only[decide_eq_true_eq,decide_eq_false_iff_not,Bool.not_eq_true'] at *); omega
       · exact h2 j hj (by omega)⟩,by omega,cX rfl⟩
     ·
      simp only[bs] at hc4
      refine aW (hK9 _ (aC (fun K12 hK12=>(aB ?_))))
      have hins:=aCx (kR e.1.1) e l k (by omega) h2 (fun h=>by simp only[kR,decide_eq_true_eq]; (try simp only[decide_eq_true_eq,decide_eq_false_iff_not,Bool.not_eq_true'] at *); omega)
      refine gO hf rfl rfl rfl aPb rfl rfl rfl rfl (l2 rfl) ?_
      refine aE aA 2 rfl (aG rfl (dS rfl pE jV rfl (lV rfl (by omega)) (by omega) (by simp only[List.length_map,Int.toNat_natCast] <;> omega) (lC (k:=k) (by omega))) ?_)
      refine eF hf rfl aPb rfl rfl rfl (.inl rfl) (by first | rfl | (simp only[List.length_append,List.length_map,List.length_cons,List.length_nil,List.length_take] <;> omega)) rfl (by first | rfl | simp [kA,bF]) (by first | (simp only[maxLen,List.length_map,List.length_append,List.length_cons,List.length_nil]; omega) | (simp [maxLen] <;> omega)) (by first | (simp only[List.length_map,List.length_append,List.length_cons,List.length_nil]; omega) | (simp <;> omega)) ?_
      refine cD (iX [0,3,6,36] rfl) (aE aA 1 rfl (aD (hK12 _ (aC (fun K13 hK13=>(aB (aE aA 2 rfl (aM hf rfl (bE aPb rfl rfl rfl rfl (l2 rfl)) (eF hf rfl aPb rfl rfl rfl (.inl rfl) (by first | rfl | (simp only[List.length_append,List.length_map,List.length_cons,List.length_nil,List.length_take] <;> omega)) rfl (by first | rfl | simp [kA,bF]) (by first | (simp only[maxLen,List.length_map,List.length_append,List.length_cons,List.length_nil]; omega) | (simp [maxLen] <;> omega)) (by first | (simp only[List.length_map,List.length_append,List.length_cons,List.length_nil]; omega) | (simp <;> omega)) ?_)))))))))
      refine cD (iX [0,6,40] rfl) (aE aA 1 rfl (aD (hK13 _ (aC (fun K14 hK14=>(aB (aE aA 3 rfl (aG rfl (dS rfl pE jV (lV rfl (by omega)) rfl (by simp only[List.length_map,Int.toNat_natCast] <;> omega) (by omega) (hZ (k:=k) (by omega))) ?_))))))))
      refine eF hf rfl aPb rfl rfl rfl (.inl rfl) (by first | rfl | (simp only[List.length_append,List.length_map,List.length_cons,List.length_nil,List.length_take] <;> omega)) rfl (by first | rfl | simp [kA,bF]) (by first | (simp only[maxLen,List.length_map,List.length_append,List.length_cons,List.length_nil]; omega) | (simp [maxLen] <;> omega)) (by first | (simp only[List.length_map,List.length_append,List.length_cons,List.length_nil]; omega) | (simp <;> omega)) ?_
      refine cD (iX [45] rfl) (aE aA 2 rfl (aD (hK14 _ (aJ ?_))))
      refine⟨_,rfl,?_⟩
      have ho:sP l e=0:=by
       unfold sP
       rw[if_neg (by simp [hno]),if_neg (by omega)]
      refine(congrArg (fun z=>AV.tup [z,.s (.int .i64 0)]) (cI (g:=32) rfl ?_)).trans ?_
      · simp only[List.length_append,List.length_map,List.length_cons,List.length_nil,List.length_take]
      · rw[nR,if_pos ho,ho,aCo,hins]; first | (simp; done) | (simp; rfl)
    ·
     simp only[bs] at hg3
     refine aX aA 9 rfl (eE [0,3,6,29] rfl rfl rfl (hK11 _ (bW rfl (aW (hK9 _ (aC (fun K15 hK15=>(aB ?_))))))))
     have hins:=aCx (kR e.1.1) e l k (by omega) h2 (fun h=>by simp only[kR,decide_eq_true_eq]; (try simp only[decide_eq_true_eq,decide_eq_false_iff_not,Bool.not_eq_true'] at *); omega)
     refine gO hf rfl rfl rfl aPb rfl rfl rfl rfl (l2 rfl) ?_
     refine aE aA 2 rfl (aG rfl (dS rfl pE jV rfl (lV rfl (by omega)) (by omega) (by simp only[List.length_map,Int.toNat_natCast] <;> omega) (lC (k:=k) (by omega))) ?_)
     refine eF hf rfl aPb rfl rfl rfl (.inl rfl) (by first | rfl | (simp only[List.length_append,List.length_map,List.length_cons,List.length_nil,List.length_take] <;> omega)) rfl (by first | rfl | simp [kA,bF]) (by first | (simp only[maxLen,List.length_map,List.length_append,List.length_cons,List.length_nil]; omega) | (simp [maxLen] <;> omega)) (by first | (simp only[List.length_map,List.length_append,List.length_cons,List.length_nil]; omega) | (simp <;> omega)) ?_
     refine cD (iX [0,3,6,36] rfl) (aE aA 1 rfl (aD (hK15 _ (aC (fun K16 hK16=>(aB (aE aA 2 rfl (aM hf rfl (bE aPb rfl rfl rfl rfl (l2 rfl)) (eF hf rfl aPb rfl rfl rfl (.inl rfl) (by first | rfl | (simp only[List.length_append,List.length_map,List.length_cons,List.length_nil,List.length_take] <;> omega)) rfl (by first | rfl | simp [kA,bF]) (by first | (simp only[maxLen,List.length_map,List.length_append,List.length_cons,List.length_nil]; omega) | (simp [maxLen] <;> omega)) (by first | (simp only[List.length_map,List.length_append,List.length_cons,List.length_nil]; omega) | (simp <;> omega)) ?_)))))))))
     refine cD (iX [0,6,40] rfl) (aE aA 1 rfl (aD (hK16 _ (aC (fun K17 hK17=>(aB (aE aA 3 rfl (aG rfl (dS rfl pE jV (lV rfl (by omega)) rfl (by simp only[List.length_map,Int.toNat_natCast] <;> omega) (by omega) (hZ (k:=k) (by omega))) ?_))))))))
     refine eF hf rfl aPb rfl rfl rfl (.inl rfl) (by first | rfl | (simp only[List.length_append,List.length_map,List.length_cons,List.length_nil,List.length_take] <;> omega)) rfl (by first | rfl | simp [kA,bF]) (by first | (simp only[maxLen,List.length_map,List.length_append,List.length_cons,List.length_nil]; omega) | (simp [maxLen] <;> omega)) (by first | (simp only[List.length_map,List.length_append,List.length_cons,List.length_nil]; omega) | (simp <;> omega)) ?_
     refine cD (iX [45] rfl) (aE aA 2 rfl (aD (hK17 _ (aJ ?_))))
     refine⟨_,rfl,?_⟩
     have ho:sP l e=0:=by
      unfold sP
      rw[if_neg (by simp [hno]),if_neg (by omega)]
     refine(congrArg (fun z=>AV.tup [z,.s (.int .i64 0)]) (cI (g:=32) rfl ?_)).trans ?_
     · simp only[List.length_append,List.length_map,List.length_cons,List.length_nil,List.length_take]
     · rw[nR,if_pos ho,ho,aCo,hins]; first | (simp; done) | (simp; rfl)
end Go.Proofs.YthapfogcaklbbaaGreat
set_option linter.unusedVariables false
set_option linter.unusedSimpArgs false
namespace Go.Proofs.YthapfogcaklbbaaGreat
open Go Go.Abs
theorem aA1 (l:List En) (hl:l.length≤9223372036854775807) (ht:∀ e∈l,TS e.1.1∧TS e.1.2) :Den Tryz.prog 67 [.sl 4 (l.map enC)]  (·=.s (.bool (aA0 l))):=by
 refine aU Tryz.func67 rfl (Nat.le_of_ble_eq_true rfl) (fun w0 A hf=>(aC (fun K1 hK1=>(aB (aE aA 1 rfl (aD (hK1 _ (aC (fun K2 hK2=>(aC (fun K3 hK3=>(aB (aE aA 1 rfl (aD (hK3 _ (aO ?_))))))))))))))))
 refine bR (ι:=Nat) (fun k=>⟨75,[(0,.sl 4 (l.map enC)),(3,.s (.int .i64 (k:Nat)))],[]⟩) (fun k=>k≤l.length∧aA0 l=lW okE aEr (aYn l k) (l.drop k)) (fun k=>l.length - k) 0 ?_ ?_ ?_
 · exact⟨Nat.zero_le _,rfl⟩
 · exact cX rfl
 ·
  rintro k hC
  obtain ⟨h1,h2⟩:=hC
  refine aC (fun K4 hK4=>(aC (fun K5 hK5=>(aB (aE aA 4 rfl (aD (hK5 _ (aK rfl (fun hc1=>?_) (fun hc1=>?_)))))))))
  ·
   simp only[bs] at hc1
   refine aN (hK4 _ (aC (fun K6 hK6=>(aO (aC (fun K7 hK7=>(aB (aE aA 2 rfl ?_))))))))
   refine aG rfl (bB rfl rfl nM gZ (by first | exact ixm (by omega) | assumption | exact⟨by decide,rfl⟩)) ?_
   refine aE aA 1 rfl (cC hf rfl vL rfl gZ rfl rfl rfl rfl (lf rfl) (aD (hK7 _ (aC (fun K8 hK8=>(aC (fun K9 hK9=>(aB (aE aA 6 rfl (aV rfl rfl rfl (fun hg2=>?_) (fun hg2=>?_)))))))))))
   ·
    simp only[bs] at hg2
    refine aG rfl (bQ rfl aDi bS rfl) ?_
    refine aE aA 1 rfl (aZ rfl rfl rfl (aM hf rfl (aQ rfl rfl nI rfl (Nm.refRight_den _ (by first | assumption | exact(ht _ (List.getElem_mem _)).1 | exact(ht _ (List.getElem_mem _)).2))) ?_))
    refine aE aA 3 rfl (aV rfl rfl rfl (fun hg3=>?_) (fun hg3=>?_))
    ·
     simp only[bs] at hg3
     refine aG rfl (bQ rfl aDh bS rfl) ?_
     refine aE aA 1 rfl (aZ rfl rfl rfl (aM hf rfl (aQ rfl rfl nI rfl (Nm.refRight_den _ (by first | assumption | exact(ht _ (List.getElem_mem _)).1 | exact(ht _ (List.getElem_mem _)).2))) ?_))
     refine aE aA 2 rfl (aD (hK9 _ (aK rfl (fun hc4=>?_) (fun hc4=>?_))))
     ·
      simp only[bs] at hc4
      refine aC (fun K10 hK10=>(aB (aE aA 1 rfl (aD (hK10 _ (aJ ?_))))))
      refine⟨_,rfl,?_⟩
      refine aP ?_
      rw[gV h2 (by omega) (aMh (by first | exact .inl (by omega) | exact .inr (.inl (by assumption)) | exact .inr (.inr (.inl (by assumption))) | exact .inr (.inr (.inr (by assumption))) | (simp_all; done)))]
     ·
      simp only[bs] at hc4
      refine aN (hK8 _ (aC (fun K11 hK11=>(aC (fun K12 hK12=>(aB (aE aA 2 rfl (aD (hK12 _ (aK rfl (fun hc5=>?_) (fun hc5=>?_)))))))))))
      ·
       simp only[bs] at hc5
       refine aW (hK6 _ (aB (aE aA 1 rfl ?_)))
       refine aG rfl (bO rfl rfl (by omega) (by omega)) ?_
       refine aE aA 1 rfl (aD ?_)
       exact⟨k+1,⟨by omega,lD h2 (by omega) (aJu (by omega) (by simp_all) (by simp_all)) (fun h0=>rM.2 ⟨by omega,fun e=>by first | omega | exact absurd e (by assumption) | exact absurd e (aCr (by assumption)) | exact absurd e (aCq (by assumption))⟩)⟩,by omega,cX rfl⟩
      ·
       simp only[bs] at hc5
       refine aN (hK11 _ (aC (fun K13 hK13=>(eB hf bI (by kernel_rfl) rfl (aX aA 2 rfl ?_)))))
       refine bL [(35,_)] rfl rfl ⟨⟨rfl,rfl⟩,trivial⟩ rfl (eH rfl rfl (by omega) (by omega)) ?_
       refine bL [(34,_),(36,_)] rfl rfl ⟨⟨rfl,rfl⟩,⟨rfl,rfl⟩,trivial⟩ rfl (bB rfl rfl nM gZ (iO (k:=k - 1) (by omega) (by omega))) (aX aA 2 rfl (bT [(38,_),(39,_)] rfl rfl ⟨⟨rfl,rfl⟩,⟨rfl,rfl⟩,trivial⟩ rfl (aQ rfl rfl aHr rfl (aIu _ _ (ht _ (List.getElem_mem _)).1 (ht _ (List.getElem_mem _)).2 (ht _ (List.getElem_mem _)).1 (ht _ (List.getElem_mem _)).2)) (aX aA 2 rfl (gA 42 false rfl (fun hg6=>?_) (fun hg6=>?_)))))
       ·
        simp only[bs] at hg6
        refine aX aA 2 rfl ?_
        refine bL [(44,_)] rfl rfl ⟨⟨rfl,rfl⟩,trivial⟩ rfl (eH rfl rfl (by omega) (by omega)) ?_
        refine bL [(43,_),(45,_)] rfl rfl ⟨⟨rfl,rfl⟩,⟨rfl,rfl⟩,trivial⟩ rfl (bB rfl rfl nM gZ (iO (k:=k - 1) (by omega) (by omega))) (aX aA 6 rfl (gA 52 true rfl (fun hg7=>?_) (fun hg7=>?_)))
        ·
         simp only[bs] at hg7
         refine aX aA 2 rfl ?_
         refine bL [(54,_)] rfl rfl ⟨⟨rfl,rfl⟩,trivial⟩ rfl (eH rfl rfl (by omega) (by omega)) ?_
         refine bL [(53,_),(55,_)] rfl rfl ⟨⟨rfl,rfl⟩,⟨rfl,rfl⟩,trivial⟩ rfl (bB rfl rfl nM gZ (iO (k:=k - 1) (by omega) (by omega))) (aX aA 7 rfl (gA 63 true rfl (fun hg8=>?_) (fun hg8=>?_)))
         ·
          simp only[bs] at hg8
          refine aX aA 2 rfl ?_
          refine bL [(65,_)] rfl rfl ⟨⟨rfl,rfl⟩,trivial⟩ rfl (eH rfl rfl (by omega) (by omega)) ?_
          refine bL [(64,_),(66,_)] rfl rfl ⟨⟨rfl,rfl⟩,⟨rfl,rfl⟩,trivial⟩ rfl (bB rfl rfl nM gZ (iO (k:=k - 1) (by omega) (by omega))) (aX aA 7 rfl (eE [0,3,74] rfl rfl rfl (hK13 _ (aK rfl (fun hc9=>?_) (fun hc9=>?_)))))
          ·
           simp only[bs] at hc9
           refine aC (fun K14 hK14=>(aB (aE aA 1 rfl (aD (hK14 _ (aJ ?_))))))
           refine⟨_,rfl,?_⟩
           refine aP ?_
           rw[iA h2 (by omega) (by omega) (aJw (by first | exact .inl (by omega) | exact .inr ⟨by first | assumption | exact aL9 (by assumption) (by assumption),by omega⟩))]
          ·
           simp only[bs] at hc9
           refine aN (hK6 _ (aB (aE aA 1 rfl ?_)))
           refine aG rfl (bO rfl rfl (by omega) (by omega)) ?_
           refine aE aA 1 rfl (aD ?_)
           exact⟨k+1,⟨by omega,lD h2 (by omega) (aJu (by omega) (by simp_all) (by simp_all)) (fun h0=>rM.2 ⟨by omega,fun e=>by first | omega | exact absurd e (by assumption) | exact absurd e (aCr (by assumption)) | exact absurd e (aCq (by assumption))⟩)⟩,by omega,cX rfl⟩
         ·
          simp only[bs] at hg8
          refine aX aA 11 rfl (eE [0,3,74] rfl rfl rfl (hK13 _ (bW rfl (aN (hK6 _ (aB (aE aA 1 rfl ?_)))))))
          refine aG rfl (bO rfl rfl (by omega) (by omega)) ?_
          refine aE aA 1 rfl (aD ?_)
          exact⟨k+1,⟨by omega,lD h2 (by omega) (aJu (by omega) (by simp_all) (by simp_all)) (fun h0=>rM.2 ⟨by omega,fun e=>by first | omega | exact absurd e (by assumption) | exact absurd e (aCr (by assumption)) | exact absurd e (aCq (by assumption))⟩)⟩,by omega,cX rfl⟩
        ·
         simp only[bs] at hg7
         refine aX aA 22 rfl (eE [0,3,74] rfl rfl rfl (hK13 _ (bW rfl (aN (hK6 _ (aB (aE aA 1 rfl ?_)))))))
         refine aG rfl (bO rfl rfl (by omega) (by omega)) ?_
         refine aE aA 1 rfl (aD ?_)
         exact⟨k+1,⟨by omega,lD h2 (by omega) (aJu (by omega) (by simp_all) (by simp_all)) (fun h0=>rM.2 ⟨by omega,fun e=>by first | omega | exact absurd e (by assumption) | exact absurd e (aCr (by assumption)) | exact absurd e (aCq (by assumption))⟩)⟩,by omega,cX rfl⟩
       ·
        simp only[bs] at hg6
        refine aX aA 10 rfl (bM rfl rfl ?_)
        refine bM rfl rfl ?_
        refine bM rfl rfl ?_
        refine bM rfl rfl ?_
        refine bM rfl rfl ?_
        refine bM rfl rfl ?_
        refine bM rfl rfl ?_
        refine bM rfl rfl ?_
        refine bM rfl rfl ?_
        refine aX aA 2 rfl (bM rfl rfl ?_)
        refine bM rfl rfl ?_
        refine bM rfl rfl ?_
        refine bM rfl rfl ?_
        refine bM rfl rfl ?_
        refine bM rfl rfl ?_
        refine bM rfl rfl ?_
        refine bM rfl rfl ?_
        refine bM rfl rfl ?_
        refine aX aA 2 rfl (eE [0,3,74] rfl rfl rfl (hK13 _ (bU rfl (aC (fun K15 hK15=>(aB (aE aA 1 rfl (aD (hK15 _ (aJ ?_))))))))))
        refine⟨_,rfl,?_⟩
        refine aP ?_
        rw[iA h2 (by omega) (by omega) (aJw (by first | exact .inl (by omega) | exact .inr ⟨by first | assumption | exact aL9 (by assumption) (by assumption),by omega⟩))]
    ·
     simp only[bs] at hg3
     refine aE aA 4 rfl (aD (hK9 _ (bU rfl (aC (fun K16 hK16=>(aB (aE aA 1 rfl (aD (hK16 _ (aJ ?_))))))))))
     refine⟨_,rfl,?_⟩
     refine aP ?_
     rw[gV h2 (by omega) (aMh (by first | exact .inl (by omega) | exact .inr (.inl (by assumption)) | exact .inr (.inr (.inl (by assumption))) | exact .inr (.inr (.inr (by assumption))) | (simp_all; done)))]
   ·
    simp only[bs] at hg2
    refine aE aA 10 rfl (aD (hK9 _ (bU rfl (aC (fun K17 hK17=>(aB (aE aA 1 rfl (aD (hK17 _ (aJ ?_))))))))))
    refine⟨_,rfl,?_⟩
    refine aP ?_
    rw[gV h2 (by omega) (aMh (by first | exact .inl (by omega) | exact .inr (.inl (by assumption)) | exact .inr (.inr (.inl (by assumption))) | exact .inr (.inr (.inr (by assumption))) | (simp_all; done)))]
  ·
   simp only[bs] at hc1
   refine aW (hK2 _ (aC (fun K18 hK18=>(aB (aE aA 1 rfl (aD (hK18 _ (aJ ?_))))))))
   refine⟨_,rfl,?_⟩
   refine aP ?_
   rw[yM h2 (by omega)]
theorem jP (l:List En) (hl:l.length*48+48≤140737488355328) :Den Tryz.prog 72 [.sl 4 (l.map enC)]  (·=.sl 4 (l.map enC)):=by
 refine aU Tryz.func72 rfl (Nat.le_of_ble_eq_true rfl) (fun w0 A hf=>(aC (fun K1 hK1=>(aB (aG rfl (bH) (aD (hK1 _ (aC (fun K2 hK2=>(aB (oJ hf 4 rfl rfl rfl (aD (hK2 _ (aC (fun K3 hK3=>(aC (fun K4 hK4=>?_)))))))))))))))))
 refine aB (aE aA 3 rfl (aD (hK4 _ (aO (bR (ι:=Nat) (fun k=>⟨26,[(3,.own 3 4 0 (l.take k).length),(6,.sl 4 (l.map enC)),(7,.s (.int .i64 ((l.map enC).length:Nat))),(8,.s (.int .i64 (k:Nat)))],[(3,.buf 4 ((l.take k).map enC))]⟩) (fun k=>k≤l.length) (fun k=>l.length - k) 0 ?_ ?_ ?_)))))
 · exact Nat.zero_le _
 · exact cX rfl
 ·
  rintro k hC
  refine aC (fun K5 hK5=>(aB (aE aA 1 rfl (aD (hK5 _ (aC (fun K6 hK6=>(aK rfl (fun hc1=>?_) (fun hc1=>?_)))))))))
  ·
   simp only[bs] at hc1
   refine aN (hK6 _ (aC (fun K7 hK7=>(aO (aC (fun K8 hK8=>(aB ?_)))))))
   refine aG rfl (bB rfl rfl nM gZ (by first | exact ixm (by omega) | assumption | exact⟨by decide,rfl⟩)) ?_
   refine aE aA 1 rfl (cC hf rfl vL rfl gZ rfl rfl rfl rfl (lf rfl) (aD (hK8 _ (aB ?_))))
   have htl:(l.take k).length=k:=by rw[List.length_take]; omega
   refine aE aA 9 rfl (aM hf rfl (aQ rfl rfl aHp rfl (one_den _ _ _ _)) (aM hf rfl (bE aTo rfl rfl rfl rfl (l2 rfl)) (eF hf rfl aTo rfl rfl rfl (.inl rfl) (by rw[List.length_map]) rfl (by first | rfl | simp [kA,bF]) (by first | (simp only[maxLen,List.length_map,List.length_append,List.length_cons,List.length_nil]; omega) | (simp [maxLen] <;> omega)) (by first | (simp only[List.length_map,List.length_append,List.length_cons,List.length_nil]; omega) | (simp <;> omega)) ?_)))
   refine cD (iX [6,7,8,23] rfl) (aE aA 1 rfl ?_)
   refine bG ?_
   refine hK7 _ (aB ?_)
   refine aG rfl (bO rfl rfl (by omega) (by omega)) ?_
   refine aE aA 1 rfl (aD ?_)
   exact⟨k+1,by omega,by omega,cK ⟨(by rw[mE l k (by omega)]; rfl),rfl,rfl,rfl,trivial⟩ (by rw[mL l enC k (by omega)]; rfl)⟩
  ·
   simp only[bs] at hc1
   refine aW (hK3 _ (aC (fun K9 hK9=>(aB (aE aA 2 rfl (aD (hK9 _ (aJ ?_))))))))
   refine⟨_,rfl,?_⟩
   refine(cI (g:=3) rfl (by rw[List.length_map])).trans ?_
   rw[List.take_of_length_le (by omega)]
end Go.Proofs.YthapfogcaklbbaaGreat
set_option linter.unusedVariables false
set_option linter.unusedSimpArgs false
namespace Go.Proofs.YthapfogcaklbbaaGreat
open Go Go.Abs
end Go.Proofs.YthapfogcaklbbaaGreat
set_option linter.unusedVariables false
set_option linter.unusedSimpArgs false
namespace Go.Proofs.YthapfogcaklbbaaGreat
open Go Go.Abs
end Go.Proofs.YthapfogcaklbbaaGreat
set_option linter.unusedVariables false
namespace Go.Proofs.YthapfogcaklbbaaGreat
open Go Go.Abs Go.RowKit Go.Lib Go.Sort
theorem tG {P:Program} {ops:Array Oper} {o:Oper} {a:Act} {w:World} {K:Act→World→Prop} {Q:Exit→Act→World→Prop} {E:Prop}
    (hg:o.guard=none) (s x:Operand) (t:TypeId) (hop:o.op=Op.call { callee:=Callee.builtin Builtin.append,args:=#[s,x],argTypes:=#[t,t] })
    {e k:Nat} (ht:elem? P t=some e) (hk:cells? P e=some k) {T:TypeId} (g n cap:Nat) (hs:a.eval s=.slice (some ⟨g,0,none⟩) n cap)
    (cur:Array Value) (hg0:w.heap[g]?=some (.cells cur T (0,0))) (ad:Addr) (m c:Nat) (news:List Value) (hx:a.eval x=.slice (some ad) m c) (hl:news.length=m*k)
    (hnews:∀ j u,news[j]?=some u→w.cell? (ad.add j)=some u) (h1:∀ u∈news,u.oneCell'=true) (hroom:n+m≤cap) (hfit:n*k+news.length≤cur.size)
    (hK:K (a.put o.dst (.slice (some ⟨g,0,none⟩) (n+m) cap)) (w.setRow g (cur.toList.take (n*k)++news++cur.toList.drop (n*k+news.length)).toArray)) :
    if Region.wanted o (yielded ops a.tmps)=true then Oper.wp P o a w K Q else E:=by
  have hw:Region.wanted o (yielded ops a.tmps)=true:=by simp [Region.wanted,hg]
  rw[if_pos hw]
  have hrun:=kN (P:=P) (t:=t) (ty:=o.type) ht hk g n cap cur hg0 ad m c news hl hnews h1 hroom hfit
  unfold Oper.wp
  have he:(execOp a.eval o).run P w=((Builtin.append_ #[t,t] o.type #[a.eval s,a.eval x]).run P w).andThen fun v w'=>.ok (.value v) w':=by
    simp [execOp,hop,resolve,invoke,builtin]
  rw[he,hs,hx,hrun]
  exact hK
theorem aCj (w:World) (b:Nat) (c1 c2:Array Value):(w.setRow b c1).setRow b c2=w.setRow b c2:=by
  unfold World.setRow
  congr 1
  apply Array.ext
  · simp
  · intro i h1 h2
    simp only[Array.getElem_modify]
    split
    · generalize w.heap[i]'(by simpa using h2)=x
      cases x <;> rfl
    · rfl
set_option maxRecDepth 1000000 in
theorem aC4 (b cap n i j:Nat) (cur:Array Value) (T:TypeId) (w:World) (hh:w.heap[b]?=some (.cells cur T (0,0))) (hsz:cap*4≤cur.size) (hn:n≤cap) (hm:cap≤9223372036854775807) (hij:j=i+1) (hi:i<n)
    (hone:∀ (j:Nat) (v:Value),j<n*4→cur[j]?=some v→v.oneCell'=true) :
    Calls Tryz.prog 223 #[.slice (some ⟨b,0,none⟩) n cap,.int .i64 i,.int .i64 ((j:Nat):Int)] w fun e w'=>e=.returned (.slice (some ⟨b,0,none⟩) (n - 1) cap) ∧
      ∃ cs,w'=w.drew.setRow b cs∧cs.size=cur.size∧∀ q,q<(n - 1)*4→cs[q]?=if q<i*4 then cur[q]? else cur[q+4]?:=by
  have hh':w.drew.heap[b]?=some (.cells cur T (0,0)):=hh
  have hcell:∀ j,j<cap*4→w.drew.cell? ⟨b,j,none⟩=cur[j]?:=fun j hj=>by simp [World.cell?,hh']
  obtain ⟨news,hnews⟩:∃ news,news=(cur.toList.drop (j*4)).take ((n - j)*4):=⟨_,rfl⟩
  have hlen:news.length=(n - j)*4:=by
    rw[hnews]; simp only[List.length_take,List.length_drop,Array.length_toList]; omega
  have hget:∀ t,t<(n - j)*4→news[t]?=cur[j*4+t]?:=fun t ht=>by
    rw[hnews,List.getElem?_take,if_pos ht,List.getElem?_drop,Array.getElem?_toList]
  obtain ⟨A,hA,hsrc⟩:∃ A:Addr,(if cap=j then some (⟨b,0,none⟩:Addr) else some ⟨b,j*4,none⟩)=some A∧Hid (∀ t u,news[t]?=some u→w.drew.cell? (A.add t)=some u):=by
    by_cases h:cap=j
    · refine⟨⟨b,0,none⟩,by simp [h],fun t u hu=>?_⟩
      have h0:news.length=0:=by rw[hlen]; omega
      rw[List.length_eq_zero_iff.1 h0] at hu
      simp at hu
    · refine⟨⟨b,j*4,none⟩,by simp [h],fun t u hu=>?_⟩
      have ht:t<(n - j)*4:=by
        have:=(List.getElem?_eq_some_iff.1 hu).1
        rwa [hlen] at this
      rw[hget t ht] at hu
      rw[Addr.add_lit]
      exact(hcell _ (by omega)).trans hu
  obtain ⟨he,hck,hk0,i0,z,hi0,hzz,hik,hby,hzc⟩:=appT?_inv aTo
  have s1:Hid (news.length=(n - j)*4):=hlen
  have s2:Hid (∀ u∈news,u.oneCell'=true):=by
    intro u hu
    obtain ⟨t,ht⟩:=List.getElem?_of_mem hu
    have ht2:=(List.getElem?_eq_some_iff.1 ht).1
    rw[hlen] at ht2
    rw[hget t ht2] at ht
    exact hone _ _ (by omega) ht
  have s3:Hid (i*4+news.length≤cur.size):=by show i*4+news.length≤cur.size; rw[hlen]; omega
  have s4:Hid (w.drew.heap[b]?=some (.cells cur T (0,0))):=hh'
  obtain ⟨cs1,hcs1⟩:∃ cs1,cs1=(cur.toList.take (i*4)++news++cur.toList.drop (i*4+news.length)).toArray:=⟨_,rfl⟩
  have hc1s:cs1.size=cur.size:=by
    rw[hcs1]; simp only[List.size_toArray,List.length_append,List.length_take,List.length_drop,Array.length_toList,hlen]; omega
  obtain ⟨W1,hW1⟩:∃ W1,W1=w.drew.setRow b cs1:=⟨_,rfl⟩
  have hb1:W1.heap[b]?=some (.cells cs1 T (0,0)):=by rw[hW1]; exact setRow_heap _ b cur cs1 T _ hh'
  have hW:Hid (W1=w.drew.setRow b (cur.toList.take (i*4)++news++cur.toList.drop (i*4+news.length)).toArray):=by rw[← hcs1]; exact hW1
  have hrz:(zeroValue 171).run Tryz.prog W1=.ok z W1:=by simp [zeroValue,typeInfo,hi0,hzz]
  have hz1:∀ u∈z.cells.toList,u.oneCell'=true:=by
    have hz:=kS
    unfold zeros? at hz
    simp [hi0,hzz] at hz
    intro u hu
    rw[hz] at hu
    simp at hu
    rcases hu with rfl | rfl <;> rfl
  have hzl:(Builtin.zeroCells z.cells (n - (i+(n - j)))).toList.length=4:=by rw[Array.length_toList,size_zeroCells,hzc]; omega
  have hst:=run_storeCells_at Tryz.prog b ((i+(n - j))*4) T (Builtin.zeroCells z.cells (n - (i+(n - j)))).toList 0 cs1 W1 hb1 (by rw[hzl,hc1s]; omega) (fun u hu=>hz1 u (rZ (by rw[hzc]; exact hk0) hu))
  simp only[Nat.add_zero] at hst
  obtain ⟨cs2,hcs2⟩:∃ cs2,cs2=(cs1.toList.take ((i+(n - j))*4)++(Builtin.zeroCells z.cells (n - (i+(n - j)))).toList++cs1.toList.drop ((i+(n - j))*4+(Builtin.zeroCells z.cells (n - (i+(n - j)))).toList.length)).toArray:=⟨_,rfl⟩
  rw[← hcs2] at hst
  have hcl:∀ ty,(Builtin.clear_ #[36] ty #[.slice (some ⟨b,(i+(n - j))*4,none⟩) (n - (i+(n - j))) (cap - (i+(n - j)))]).run Tryz.prog W1=.ok (.tuple #[]) (W1.setRow b cs2):=fun ty=>by
    have h0:¬ (n - (i+(n - j))=0):=by omega
    simp [Builtin.clear_,run_underlying (elem?_inv he),h0,hrz,hst]
  have hlt:i<j:=by omega
  have hjn:j≤n:=by omega
  have hic:i≤cap:=by omega
  have hjc:j≤cap:=by omega
  have hfin:W1.setRow b cs2=w.drew.setRow b cs2∧cs2.size=cur.size∧∀ q,q<(n - 1)*4→cs2[q]?=if q<i*4 then cur[q]? else cur[q+4]?:=by
    have hnj:(i+(n - j))*4=(n - 1)*4:=by rw[hij]; omega
    refine⟨?_,?_,?_⟩
    · rw[hW1]; exact aCj _ _ _ _
    · rw[hcs2]; simp only[List.size_toArray,List.length_append,List.length_take,List.length_drop,hzl,Array.length_toList,hc1s]; omega
    · intro q hq
      have e2:cs2[q]?=cs1[q]?:=by
        rw[hcs2,List.getElem?_toArray,List.append_assoc,List.getElem?_append_left (by simp only[List.length_take,Array.length_toList]; omega),List.getElem?_take,if_pos (by omega),Array.getElem?_toList]
      rw[e2,hcs1,List.getElem?_toArray,List.append_assoc]
      by_cases h:q<i*4
      · rw[if_pos h,List.getElem?_append_left (by simp only[List.length_take,Array.length_toList]; omega),List.getElem?_take,if_pos h,Array.getElem?_toList]
      · have hlt:(cur.toList.take (i*4)).length=i*4:=by simp only[List.length_take,Array.length_toList]; omega
        rw[if_neg h,List.getElem?_append_right (by omega),hlt,List.getElem?_append_left (by rw[hlen]; omega),hget _ (by omega)]
        congr 1
        omega
  have hfin':=show Hid _ from hfin
  clear hW1 hb1 hcs1 hcs2 hst hnews hget hfin hh' hcell hh hone hc1s hzl
  have hij2:Hid (j=i+1):=hij
  clear hij
  go_enter Tryz.func223,Tryz.ntmps223
  go_wp2_with fail
  go_region_law (refine tG rfl (.tmp 22) (.tmp 25) 36 rfl he hck b i cap (by simp [Act.eval,Act.put]) cur s4.out A (n - j) (cap - j) news (by simp [Act.eval,Act.put]) s1.out hsrc.out s2.out (by omega) s3.out ?_; rw[← hW.out])
  go_wp2
  go_ret
  have h1:j=i+1:=hij2
  refine⟨?_,cs2,hfin'⟩
  rw[show n - 1=i+(n - j) by omega]
  rfl
theorem aFq (xs:List (List AV)) (n i:Nat) (z:Int) (hz:z=((i+1:Nat):Int)) (hn:n=xs.length) (hi:i<n):DenM Tryz.prog 223 [.own E0 4 0 n,.s (.int .i64 (i:Nat)),.s (.int .i64 z)] 4 xs (fun r ys=>r=.own E0 4 0 (n - 1)∧ys=xs.take i++xs.drop (i+1)):=by
  subst hz
  intro A w x vals hA hx hr hb
  obtain ⟨v0,v1,v2,rfl⟩:∃ v0 v1 v2,vals=[v0,v1,v2]:=by
    have:=hr.1
    match vals,this with
    | [a,b,c],_=>exact⟨a,b,c,rfl⟩
  have r0:=hr.2 0 _ v0 rfl rfl
  have r1:=hr.2 1 _ v1 rfl rfl
  have r2:=hr.2 2 _ v2 rfl rfl
  cases r1
  cases r2
  rcases hb with ⟨hb,_⟩ | ⟨b,cur,T,hbE,hh,hcs,hck,hcell⟩
  · rw[hb] at hn; simp at hn; omega
  have hxb:=(gR hbE).2
  subst hxb
  have hbs:b<w.heap.size:=(Array.getElem?_eq_some_iff.1 hh).1
  obtain ⟨cap,hcap,hcm,hsz,rfl⟩:∃ cap,n≤cap∧cap≤9223372036854775807∧cap*4≤cur.size∧v0=.slice (some ⟨b,0,none⟩) n cap:=by
    cases r0 with
    | ownn _ _ _=>omega
    | own _ _ _ _ b' cap cur' T' hg h1 h2 h3 h4 =>
      have:=(gR hg).2; cases this
      rw[hh] at h3; cases h3
      exact⟨cap,h1,by simpa [maxLen] using h2,by omega,by simp⟩
    | own0 _ _ _ _ _ _=>omega
  have hleaf:∀ (j:Nat) (y:List AV) (q:Nat) (a:AV),xs[j]?=some y→y[q]?=some a→a.leaf=true∧q<4:=fun j y q a hy ha =>
    ⟨(hck y (List.mem_of_getElem? hy)).2 a (List.mem_of_getElem? ha),by rw[← (hck y (List.mem_of_getElem? hy)).1]; exact(List.getElem?_eq_some_iff.1 ha).1⟩
  have hone:∀ (j:Nat) (v:Value),j<n*4→cur[j]?=some v→v.oneCell'=true:=fun j v hj hv=>by
    have hj4:j / 4<xs.length:=by rw[← hn]; omega
    have hy:xs[j / 4]?=some xs[j / 4]:=List.getElem?_eq_getElem hj4
    have hl:=(hck _ (List.mem_of_getElem? hy)).1
    obtain ⟨u,hu,hru⟩:=hcell (j / 4) _ (j % 4) _ hy (List.getElem?_eq_getElem (by rw[hl]; omega))
    rw[show j / 4*4+j % 4=j by omega,hv] at hu
    cases hu
    exact hru.one (AV.one_of_leaf (hleaf _ _ (j % 4) _ hy (List.getElem?_eq_getElem (by rw[hl]; omega))).1)
  refine(aC4 b cap n i (i+1) cur T w hh hsz hcap hcm rfl hi hone).mono ?_
  rintro e w' ⟨rfl,cs,rfl,hcsz,hget⟩
  have hb':(w.drew.setRow b cs).heap[b]?=some (.cells cs T (0,0)):=setRow_heap _ b cur cs T _ hh
  have hoth:∀ b',b'≠b→(w.drew.setRow b cs).heap[b']?=w.heap[b']?:=fun b' hne=>setRow_other w.drew b b' cs hne
  have hwsz:(w.drew.setRow b cs).heap.size=w.heap.size:=by
    show (w.drew.setRow b cs).heap.size=w.drew.heap.size
    simp [World.setRow]
  have hne:∀ b',Stable w (eT (some b) A) b'→b'≠b:=fun b' hb' h=>hb'.2.1 E0 (by rw[eU,h])
  have hstab:∀ b',Stable w (eT (some b) A) b'→Stable (w.drew.setRow b cs) (eT (some b) A) b':=fun b' hb'=>⟨by rw[hwsz]; exact hb'.1,hb'.2⟩
  have hmv:∀ (a:AV) (v:Value),a.leaf=true→RelV w (eT (some b) A) a v→RelV (w.drew.setRow b cs) (eT (some b) A) a v :=
    fun a v hlf h=>h.move (ok:=fun _=>false) (fun b' hb'=>⟨hstab b' hb',hoth b' (hne b' hb')⟩) (fun _ _ h _=>by cases h) (AV.clean_of_leaf hlf)
  have hl2:(xs.take i++xs.drop (i+1)).length=n - 1:=by simp only[List.length_append,List.length_take,List.length_drop]; omega
  refine⟨_,.own E0 4 0 (n - 1),xs.take i++xs.drop (i+1),rfl,⟨rfl,rfl⟩,?_,?_,?_⟩
  · refine⟨rfl,⟨rfl,Nat.le_add_right _ _⟩,rfl,by rw[hwsz]; omega,rfl,fun b' hb'=>⟨hstab b' hb',hoth b' (hne b' hb')⟩,fun b' hb' hAb=>hoth b' (fun h=>hx b' (by rw[h]) hAb),fun g' x hg'=>?_⟩
    have:=gR hg'
    obtain ⟨rfl,rfl⟩:=this
    refine .inr ⟨eU _ _,fun b' hb' cur' T' hh'=>?_⟩
    cases hb'
    rw[hh] at hh'; cases hh'
    exact⟨_,by assumption,hcsz⟩
  · refine .inr ⟨b,cs,T,eU _ _,hb',?_,?_,?_⟩
    · rw[hl2,hcsz]; omega
    · intro y hy
      rcases List.mem_append.1 hy with hy | hy
      · exact hck y (List.mem_of_mem_take hy)
      · exact hck y (List.mem_of_mem_drop hy)
    · intro j y q a hy ha
      have hj:j<n - 1:=by rw[← hl2]; exact(List.getElem?_eq_some_iff.1 hy).1
      by_cases h:j<i
      · rw[List.getElem?_append_left (by simp only[List.length_take]; omega),List.getElem?_take,if_pos h] at hy
        obtain ⟨hlf,hq⟩:=hleaf j y q a hy ha
        obtain ⟨u,hu,hru⟩:=hcell j y q a hy ha
        refine⟨u,?_,hmv _ _ hlf hru⟩
        rw[hget _ (by omega),if_pos (by omega)]; exact hu
      · have htl:(xs.take i).length=i:=by simp only[List.length_take]; omega
        rw[List.getElem?_append_right (by omega),htl,List.getElem?_drop,show i+1+(j - i)=j+1 by omega] at hy
        obtain ⟨hlf,hq⟩:=hleaf (j+1) y q a hy ha
        obtain ⟨u,hu,hru⟩:=hcell (j+1) y q a hy ha
        refine⟨u,?_,hmv _ _ hlf hru⟩
        rw[hget _ (by omega),if_neg (by omega),← hu]
        congr 1; omega
  · have:=RelV.own (w:=w.drew.setRow b cs) (p:=eT (some b) A) E0 4 0 (n - 1) b cap cs T (eU _ _) (by omega) (by simpa [maxLen] using hcm) hb' (by omega)
    simpa using this
end Go.Proofs.YthapfogcaklbbaaGreat
set_option linter.unusedVariables false
set_option linter.unusedSimpArgs false
namespace Go.Proofs.YthapfogcaklbbaaGreat
open Go Go.Abs
theorem aH8 (l:List En) (p:Pr) (t:Int) (hl:l.length*48+48≤140737488355328) :Den Tryz.prog 185 [.sl 4 (l.map enC),.agg (prC p),.s (.int .i64 t)]  (·=.tup [.sl 4 ((if onB l p then iZ l p t else []).map enC),.s (.int .i64 (if onB l p then 0 else 91))]):=by
 refine aU Tryz.func185 rfl (Nat.le_of_ble_eq_true rfl) (fun w0 A hf=>(aC (fun K1 hK1=>(aB (aM hf rfl (cP rfl rfl (lf rfl)) (aG rfl (bH) (aE aA 1 rfl (aD (hK1 _ (aC (fun K2 hK2=>(aB (aE aA 2 rfl (aM hf rfl (aQ rfl rfl wI rfl (aBy _ _ (by omega))) (aE aA 1 rfl ?_)))))))))))))))
 refine aD (hK2 _ (aC (fun K3 hK3=>(aC (fun K4 hK4=>(aB (aE aA 2 rfl (aD (hK4 _ (aK rfl (fun hc1=>?_) (fun hc1=>?_)))))))))))
 ·
  simp only[bs] at hc1
  refine aC (fun K5 hK5=>(aB (aG rfl (yZ (k:=4)) (aE aA 1 rfl (aD (hK5 _ (aJ ?_)))))))
  refine⟨_,rfl,?_⟩
  rw[show onB l p=false from aSq (by omega)]; rfl
 ·
  simp only[bs] at hc1
  obtain ⟨k,hk,ek,hk1,hk2⟩:∃ k:Nat,∃ h:k<l.length,nA (eX p) l=(k:Nat)∧eX p l[k]=true∧∀ (j:Nat) (hj:j<l.length),j<k→eX p l[j]=false:=by
    rcases dM (eX p) l with ⟨e,_⟩ | ⟨k',h1,e,h2,h3⟩
    · exfalso; omega
    · exact⟨k',h1,e,h2,h3⟩
  rw[ek]
  refine aN (hK3 _ (aC (fun K6 hK6=>(aB (aE aA 1 rfl (fR hf rfl rfl rfl rfl rfl lN rfl (nD _ (by omega)) ?_))))))
  rintro _ rfl
  refine aE aA 1 rfl (aD (hK6 _ (aC (fun K7 hK7=>(aB ?_)))))
  have hml:(l.map enC).length=l.length:=List.length_map _
  refine aE aA 3 rfl ?_
  refine aG rfl (bN rfl rfl eY eC (by omega)) ?_
  refine aE aA 2 rfl (aT hf rfl rfl cE rfl rfl (by simp [AV.cells,AV.one,Value.oneCell']) (by simp [AV.cells,AV.leaf,Value.oneCell']) (gE (c:=4) (k:=k) (f:=3) (enc:=enC) (v:=(l[k].1,(l[k].2.1,t))) (by omega) (by omega) rfl (Nat.le_refl _)) ?_)
  refine aD (hK7 _ (aC (fun K8 hK8=>(aC (fun K9 hK9=>(aB (aE aA 2 rfl ?_)))))))
  refine aG rfl (bN rfl rfl eY eC (by omega)) ?_
  refine aE aA 1 rfl (aG rfl (bP rfl aNj aAs rfl (by rw[zC (c:=4) (k:=k) (enc:=enC) (by omega) (by rw[List.length_set]; omega),List.getElem_set_self]; rfl) (cs':=spC (l[k].2.1,t)) (by rw[zC (c:=4) (k:=k) (enc:=enC) (by omega) (by rw[List.length_set]; omega),List.getElem_set_self]; rfl)) ?_)
  refine aM hf rfl (aQ rfl rfl oD rfl (tR _)) (aD (hK9 _ (aK rfl (fun hc2=>?_) (fun hc2=>?_))))
  ·
   simp only[bs] at hc2
   refine aB (aE aA 3 rfl ?_)
   refine aG rfl (bO rfl rfl (by omega) (by omega)) ?_
   refine fK hf 16 rfl rfl rfl rfl rfl aG1 (aFq (List.map enC (l.set k (l[k].1,(l[k].2.1,t)))) _ k _ (by omega) (by simp only[List.length_map,List.length_set] <;> omega) (by simp only[List.length_map] <;> omega)) ?_
   rintro r zs ⟨rfl,rfl⟩
   refine aE aA 1 rfl (aD (hK8 _ (aC (fun K10 hK10=>(aB (aE aA 3 rfl (aD (hK10 _ (aJ ?_)))))))))
   refine⟨_,rfl,?_⟩
   rw[show onB l p=true from aMe hk hk1]
   (refine(congrArg (fun z=>AV.tup [z,.s (.int .i64 0)]) (cI (g:=16) rfl (by first | rfl | (simp only[List.length_map,List.length_append,List.length_take,List.length_drop,List.length_set]; omega)))).trans ?_; rw[if_pos rfl,if_pos rfl,← rev_del (v:=(l[k].1,(l[k].2.1,t))) hk hk2 hk1 (by omega),List.map_append,List.map_take,List.map_drop])
  ·
   simp only[bs] at hc2
   refine aN (hK8 _ (aC (fun K11 hK11=>(aB (aE aA 3 rfl (aD (hK11 _ (aJ ?_))))))))
   refine⟨_,rfl,?_⟩
   rw[show onB l p=true from aMe hk hk1]
   (refine(congrArg (fun z=>AV.tup [z,.s (.int .i64 0)]) (cI (g:=16) rfl (by rw[List.length_map,List.length_map,List.length_set]))).trans ?_; rw[if_pos rfl,if_pos rfl,rev_set hk hk2 hk1 (by omega)])
end Go.Proofs.YthapfogcaklbbaaGreat
set_option linter.unusedVariables false
set_option linter.unusedSimpArgs false
namespace Go.Proofs.YthapfogcaklbbaaGreat
open Go Go.Abs
theorem aLd (s:Sta) (e:Ev) (hz:SzS 140737488355100 s) (hr:cR cM s.usr) (hr2:cR dN s.tmb) (hk:e.kind=1) :DenX Tryz.prog 112 [.agg (dK s E0 E1),.agg (evC e)] [(E0,.buf 2 (s.usr.map usC)),(E1,.buf 2 (s.tmb.map tmC))] (fun r m=>r=.tup [.agg (dK (bA s e).1 E0 E1),.s (.int .i64 (bA s e).2)]∧m=[(E0,.buf 2 ((bA s e).1.usr.map usC)),(E1,.buf 2 ((bA s e).1.tmb.map tmC))]):=by
 have z1:=hz.o
 have z2:=hz.u
 have z3:=hz.b
 have z4:=hz.t
 have q:=aEp s.opn ((e.n,e.user),(e.st,e.at'))
 have hz2:SzS 140737488355200 ({ s with opn:=nR s.opn ((e.n,e.user),(e.st,e.at')) }):=⟨by show (nR s.opn ((e.n,e.user),(e.st,e.at'))).length*40≤_; omega,by show s.usr.length*40≤_; omega,by show s.sub.length*48≤_; omega,by show s.tmb.length*24≤_; omega,fun x hx=>by have:=hz.y x hx; omega⟩
 have hr3:cR cM (({ s with opn:=nR s.opn ((e.n,e.user),(e.st,e.at')) })).usr:=hr
 have hd:bA s e=(dF ({ s with opn:=nR s.opn ((e.n,e.user),(e.st,e.at')) }) e.user (st0),sP s.opn ((e.n,e.user),(e.st,e.at'))):=by
  rw[bA,if_pos hk]
  rw[jS (show st0.1.2≤st0.1.1 from Int.le_refl _)]
 rw[hd]
 refine fW [(E0,G0),(E1,G1)] Tryz.func112 rfl (Nat.le_of_ble_eq_true rfl) (args':=[.agg (dK s G0 G1),.agg (evC e)]) (m':=[(G0,.buf 2 (s.usr.map usC)),(G1,.buf 2 (s.tmb.map tmC))]) rfl rfl (by decide) (by decide) rfl (fun w0 o0 A hf=>?_)
 refine aC (fun K1 hK1=>(aB (pX hf rfl rfl rfl rfl (l1 rfl) ?_)))
 refine aM hf rfl (cP rfl rfl (lf rfl)) (bJ hf rfl rfl rfl bC (aE aA 1 rfl (aD (hK1 _ (aC (fun K2 hK2=>(aB (aE aA 4 rfl (aG rfl (cS rfl fJ jT (l3 rfl) rfl) (cC hf rfl fJ rfl nN rfl rfl rfl rfl (lf rfl) (aD (hK2 _ (aC (fun K3 hK3=>?_))))))))))))))
 refine aB (aE aA 1 rfl (aD (hK3 _ (aC (fun K4 hK4=>(aB (bJ hf rfl rfl rfl dP (aD (hK4 _ (aC (fun K5 hK5=>(aC (fun K6 hK6=>(aB (aE aA 2 rfl ?_)))))))))))))))
 refine aD (hK6 _ (aO (aC (fun K7 hK7=>(aB (aG rfl (eI rfl rfl (kW (by omega))) (aE aA 1 rfl (aD (hK7 _ (bU rfl (aB (aE aA 10 rfl (aG rfl (cS rfl pC aIw (l3 rfl) rfl) ?_)))))))))))))
 refine aM hf rfl (aQ rfl rfl aHk rfl (aIc s.opn ((e.n,e.user),(e.st,e.at')) (by omega))) (aE aA 4 rfl (aT hf rfl rfl lP rfl rfl (l1 rfl) (l4 rfl) rfl (aE aA 1 rfl ?_)))
 refine bG ?_
 refine hK5 _ (aC (fun K8 hK8=>(aB (aE aA 4 rfl (fZ hf [(E0,G0),(E1,G1)] [(E0,G0),(E1,G1)] rfl rfl rfl rfl rfl rfl (by decide) (by decide) (by decide) rfl iJ (kQ ({ s with opn:=nR s.opn ((e.n,e.user),(e.st,e.at')) }) e.user (st0) hz2 hr3) ?_)))))
 rintro r m1 ⟨rfl,rfl⟩
 rw[jN]
 refine cD (cK (sl':=[(4,.ref 4 0 0 0),(7,.s (.int .i64 (sP s.opn ((e.n,e.user),(e.st,e.at'))))),(112,.agg (dK (dF ({ s with opn:=nR s.opn ((e.n,e.user),(e.st,e.at')) }) e.user (st0)) G0 G1))]) (m':=[(G0,.buf 2 ((dF ({ s with opn:=nR s.opn ((e.n,e.user),(e.st,e.at')) }) e.user (st0)).usr.map usC)),(G1,.buf 2 ((dF ({ s with opn:=nR s.opn ((e.n,e.user),(e.st,e.at')) }) e.user (st0)).tmb.map tmC)),(8,.box (stC (st0))),(4,.box [.s (.int .i64 0),.s (.int .i64 0),.s (.slice none 0 0),.s (.slice none 0 0),.s (.slice none 0 0),.s (.slice none 0 0)]),(2,.box [.s (.int .i64 (({ s with opn:=nR s.opn ((e.n,e.user),(e.st,e.at')) })).now),.s (.int .i64 (({ s with opn:=nR s.opn ((e.n,e.user),(e.st,e.at')) })).hor),.sl 4 ((({ s with opn:=nR s.opn ((e.n,e.user),(e.st,e.at')) })).opn.map seC),.bad,.sl 4 ((({ s with opn:=nR s.opn ((e.n,e.user),(e.st,e.at')) })).sub.map enC),.bad])]) ⟨rfl,rfl,rfl,trivial⟩ rfl) ?_
 refine aE aA 1 rfl (aT hf rfl rfl cF rfl rfl (l1 rfl) (l4 rfl) rfl (aE aA 1 rfl (aD (hK8 _ (aJ ?_)))))
 exact⟨_,[(E0,G0),(E1,G1)],_,Le.refl _,by decide,rfl,rfl,⟨rfl,rfl⟩⟩
theorem aLc (s:Sta) (e:Ev) (hz:SzS 140737488355100 s) (hr:cR cM s.usr) (hr2:cR dN s.tmb) (hk:e.kind=2) :DenX Tryz.prog 112 [.agg (dK s E0 E1),.agg (evC e)] [(E0,.buf 2 (s.usr.map usC)),(E1,.buf 2 (s.tmb.map tmC))] (fun r m=>r=.tup [.agg (dK (bA s e).1 E0 E1),.s (.int .i64 (bA s e).2)]∧m=[(E0,.buf 2 ((bA s e).1.usr.map usC)),(E1,.buf 2 ((bA s e).1.tmb.map tmC))]):=by
 have z1:=hz.o
 have z2:=hz.u
 have z3:=hz.b
 have z4:=hz.t
 have q:=aF0 s.opn e.n e.user e.st e.at'
 have hz2:SzS 140737488355200 ({ s with opn:=nT s.opn e.n e.user e.st e.at' }):=⟨by show (nT s.opn e.n e.user e.st e.at').length*40≤_; omega,by show s.usr.length*40≤_; omega,by show s.sub.length*48≤_; omega,by show s.tmb.length*24≤_; omega,fun x hx=>by have:=hz.y x hx; omega⟩
 have hr3:cR cM (({ s with opn:=nT s.opn e.n e.user e.st e.at' })).usr:=hr
 have hd:bA s e=(dF ({ s with opn:=nT s.opn e.n e.user e.st e.at' }) e.user (stR s.opn e.n e.user e.at'),gH s.opn e.n e.user):=by
  rw[bA,if_neg (by omega),if_pos hk]
  rfl
 rw[hd]
 refine fW [(E0,G0),(E1,G1)] Tryz.func112 rfl (Nat.le_of_ble_eq_true rfl) (args':=[.agg (dK s G0 G1),.agg (evC e)]) (m':=[(G0,.buf 2 (s.usr.map usC)),(G1,.buf 2 (s.tmb.map tmC))]) rfl rfl (by decide) (by decide) rfl (fun w0 o0 A hf=>?_)
 refine aC (fun K1 hK1=>(aB (pX hf rfl rfl rfl rfl (l1 rfl) ?_)))
 refine aM hf rfl (cP rfl rfl (lf rfl)) (bJ hf rfl rfl rfl bC (aE aA 1 rfl (aD (hK1 _ (aC (fun K2 hK2=>(aB (aE aA 4 rfl (aG rfl (cS rfl fJ jT (l3 rfl) rfl) (cC hf rfl fJ rfl nN rfl rfl rfl rfl (lf rfl) (aD (hK2 _ (aC (fun K3 hK3=>?_))))))))))))))
 refine aB (aE aA 1 rfl (aD (hK3 _ (aC (fun K4 hK4=>(aB (bJ hf rfl rfl rfl dP (aD (hK4 _ (aC (fun K5 hK5=>(aC (fun K6 hK6=>(aB (aE aA 2 rfl ?_)))))))))))))))
 refine aD (hK6 _ (aO (aC (fun K7 hK7=>(aB (aG rfl (eI rfl rfl (eR (by omega))) (aE aA 1 rfl (aD (hK7 _ (bW rfl (aC (fun K8 hK8=>(aB (aG rfl (eI rfl rfl (kW (by omega))) ?_))))))))))))))
 refine aE aA 1 rfl (aD (hK8 _ (bU rfl (aB (aE aA 10 rfl (aM hf rfl (aQ rfl rfl aHj rfl (aC8 s.opn e.n e.user e.st e.at' (by omega))) (aE aA 5 rfl (aT hf rfl rfl lP rfl rfl (l1 rfl) (l4 rfl) rfl (aT hf rfl rfl aS rfl rfl (l1 rfl) (l4 rfl) rfl (aE aA 1 rfl ?_))))))))))
 refine bG ?_
 refine hK5 _ (aC (fun K9 hK9=>(aB (aE aA 4 rfl (fZ hf [(E0,G0),(E1,G1)] [(E0,G0),(E1,G1)] rfl rfl rfl rfl rfl rfl (by decide) (by decide) (by decide) rfl iJ (kQ ({ s with opn:=nT s.opn e.n e.user e.st e.at' }) e.user (stR s.opn e.n e.user e.at') hz2 hr3) ?_)))))
 rintro r m1 ⟨rfl,rfl⟩
 rw[jN]
 refine cD (cK (sl':=[(4,.ref 4 0 0 0),(7,.s (.int .i64 (gH s.opn e.n e.user))),(112,.agg (dK (dF ({ s with opn:=nT s.opn e.n e.user e.st e.at' }) e.user (stR s.opn e.n e.user e.at')) G0 G1))]) (m':=[(G0,.buf 2 ((dF ({ s with opn:=nT s.opn e.n e.user e.st e.at' }) e.user (stR s.opn e.n e.user e.at')).usr.map usC)),(G1,.buf 2 ((dF ({ s with opn:=nT s.opn e.n e.user e.st e.at' }) e.user (stR s.opn e.n e.user e.at')).tmb.map tmC)),(8,.box (stC (stR s.opn e.n e.user e.at'))),(4,.box [.s (.int .i64 0),.s (.int .i64 0),.s (.slice none 0 0),.s (.slice none 0 0),.s (.slice none 0 0),.s (.slice none 0 0)]),(2,.box [.s (.int .i64 (({ s with opn:=nT s.opn e.n e.user e.st e.at' })).now),.s (.int .i64 (({ s with opn:=nT s.opn e.n e.user e.st e.at' })).hor),.sl 4 ((({ s with opn:=nT s.opn e.n e.user e.st e.at' })).opn.map seC),.bad,.sl 4 ((({ s with opn:=nT s.opn e.n e.user e.st e.at' })).sub.map enC),.bad])]) ⟨rfl,rfl,rfl,trivial⟩ rfl) ?_
 refine aE aA 1 rfl (aT hf rfl rfl cF rfl rfl (l1 rfl) (l4 rfl) rfl (aE aA 1 rfl (aD (hK9 _ (aJ ?_)))))
 exact⟨_,[(E0,G0),(E1,G1)],_,Le.refl _,by decide,rfl,rfl,⟨rfl,rfl⟩⟩
theorem aLb (s:Sta) (e:Ev) (hz:SzS 140737488355100 s) (hr:cR cM s.usr) (hr2:cR dN s.tmb) (hk:e.kind=3) :DenX Tryz.prog 112 [.agg (dK s E0 E1),.agg (evC e)] [(E0,.buf 2 (s.usr.map usC)),(E1,.buf 2 (s.tmb.map tmC))] (fun r m=>r=.tup [.agg (dK (bA s e).1 E0 E1),.s (.int .i64 (bA s e).2)]∧m=[(E0,.buf 2 ((bA s e).1.usr.map usC)),(E1,.buf 2 ((bA s e).1.tmb.map tmC))]):=by
 have z1:=hz.o
 have z2:=hz.u
 have z3:=hz.b
 have z4:=hz.t
 have q:=aFw s.opn e.n e.user
 have hz2:SzS 140737488355200 ({ s with opn:=nS s.opn e.n e.user }):=⟨by show (nS s.opn e.n e.user).length*40≤_; omega,by show s.usr.length*40≤_; omega,by show s.sub.length*48≤_; omega,by show s.tmb.length*24≤_; omega,fun x hx=>by have:=hz.y x hx; omega⟩
 have hr3:cR cM (({ s with opn:=nS s.opn e.n e.user })).usr:=hr
 have hd:bA s e=(dF ({ s with opn:=nS s.opn e.n e.user }) e.user (stR s.opn e.n e.user e.at'),gH s.opn e.n e.user):=by
  rw[bA,if_neg (by omega),if_neg (by omega),if_pos hk]
  rfl
 rw[hd]
 refine fW [(E0,G0),(E1,G1)] Tryz.func112 rfl (Nat.le_of_ble_eq_true rfl) (args':=[.agg (dK s G0 G1),.agg (evC e)]) (m':=[(G0,.buf 2 (s.usr.map usC)),(G1,.buf 2 (s.tmb.map tmC))]) rfl rfl (by decide) (by decide) rfl (fun w0 o0 A hf=>?_)
 refine aC (fun K1 hK1=>(aB (pX hf rfl rfl rfl rfl (l1 rfl) ?_)))
 refine aM hf rfl (cP rfl rfl (lf rfl)) (bJ hf rfl rfl rfl bC (aE aA 1 rfl (aD (hK1 _ (aC (fun K2 hK2=>(aB (aE aA 4 rfl (aG rfl (cS rfl fJ jT (l3 rfl) rfl) (cC hf rfl fJ rfl nN rfl rfl rfl rfl (lf rfl) (aD (hK2 _ (aC (fun K3 hK3=>?_))))))))))))))
 refine aB (aE aA 1 rfl (aD (hK3 _ (aC (fun K4 hK4=>(aB (bJ hf rfl rfl rfl dP (aD (hK4 _ (aC (fun K5 hK5=>(aC (fun K6 hK6=>(aB (aE aA 2 rfl ?_)))))))))))))))
 refine aD (hK6 _ (aO (aC (fun K7 hK7=>(aB (aG rfl (eI rfl rfl (eR (by omega))) (aE aA 1 rfl (aD (hK7 _ (bW rfl (aC (fun K8 hK8=>(aB (aG rfl (eI rfl rfl (eR (by omega))) ?_))))))))))))))
 refine aE aA 1 rfl (aD (hK8 _ (bW rfl (aC (fun K9 hK9=>(aB (aG rfl (eI rfl rfl (kW (by omega))) (aE aA 1 rfl (aD (hK9 _ (bU rfl (aB (aE aA 8 rfl ?_)))))))))))))
 refine aM hf rfl (aQ rfl rfl aHi rfl (aFz s.opn e.n e.user e.at' (by omega))) (aE aA 5 rfl (aT hf rfl rfl lP rfl rfl (l1 rfl) (l4 rfl) rfl (aT hf rfl rfl aS rfl rfl (l1 rfl) (l4 rfl) rfl (aE aA 1 rfl ?_))))
 refine bG ?_
 refine hK5 _ (aC (fun K10 hK10=>(aB (aE aA 4 rfl (fZ hf [(E0,G0),(E1,G1)] [(E0,G0),(E1,G1)] rfl rfl rfl rfl rfl rfl (by decide) (by decide) (by decide) rfl iJ (kQ ({ s with opn:=nS s.opn e.n e.user }) e.user (stR s.opn e.n e.user e.at') hz2 hr3) ?_)))))
 rintro r m1 ⟨rfl,rfl⟩
 rw[jN]
 refine cD (cK (sl':=[(4,.ref 4 0 0 0),(7,.s (.int .i64 (gH s.opn e.n e.user))),(112,.agg (dK (dF ({ s with opn:=nS s.opn e.n e.user }) e.user (stR s.opn e.n e.user e.at')) G0 G1))]) (m':=[(G0,.buf 2 ((dF ({ s with opn:=nS s.opn e.n e.user }) e.user (stR s.opn e.n e.user e.at')).usr.map usC)),(G1,.buf 2 ((dF ({ s with opn:=nS s.opn e.n e.user }) e.user (stR s.opn e.n e.user e.at')).tmb.map tmC)),(8,.box (stC (stR s.opn e.n e.user e.at'))),(4,.box [.s (.int .i64 0),.s (.int .i64 0),.s (.slice none 0 0),.s (.slice none 0 0),.s (.slice none 0 0),.s (.slice none 0 0)]),(2,.box [.s (.int .i64 (({ s with opn:=nS s.opn e.n e.user })).now),.s (.int .i64 (({ s with opn:=nS s.opn e.n e.user })).hor),.sl 4 ((({ s with opn:=nS s.opn e.n e.user })).opn.map seC),.bad,.sl 4 ((({ s with opn:=nS s.opn e.n e.user })).sub.map enC),.bad])]) ⟨rfl,rfl,rfl,trivial⟩ rfl) ?_
 refine aE aA 1 rfl (aT hf rfl rfl cF rfl rfl (l1 rfl) (l4 rfl) rfl (aE aA 1 rfl (aD (hK10 _ (aJ ?_)))))
 exact⟨_,[(E0,G0),(E1,G1)],_,Le.refl _,by decide,rfl,rfl,⟨rfl,rfl⟩⟩
theorem aLa (s:Sta) (e:Ev) (hz:SzS 140737488355100 s) (hr:cR cM s.usr) (hr2:cR dN s.tmb) (hk:e.kind=4) :DenX Tryz.prog 112 [.agg (dK s E0 E1),.agg (evC e)] [(E0,.buf 2 (s.usr.map usC)),(E1,.buf 2 (s.tmb.map tmC))] (fun r m=>r=.tup [.agg (dK (bA s e).1 E0 E1),.s (.int .i64 (bA s e).2)]∧m=[(E0,.buf 2 ((bA s e).1.usr.map usC)),(E1,.buf 2 ((bA s e).1.tmb.map tmC))]):=by
 have z1:=hz.o
 have z2:=hz.u
 have z3:=hz.b
 have z4:=hz.t
 have q:=aE1 s.sub (e.user,e.other) e.at'
 have hz2:SzS 140737488355200 ({ s with sub:=if onB s.sub (e.user,e.other)=true then [] else hJ s.sub (e.user,e.other) e.at' }):=⟨by show s.opn.length*40≤_; omega,by show s.usr.length*40≤_; omega,by show (if onB s.sub (e.user,e.other)=true then [] else hJ s.sub (e.user,e.other) e.at').length*48≤_; omega,by show s.tmb.length*24≤_; omega,fun x hx=>by have:=hz.y x hx; omega⟩
 have hr3:cR cM (({ s with sub:=if onB s.sub (e.user,e.other)=true then [] else hJ s.sub (e.user,e.other) e.at' })).usr:=hr
 have hd:bA s e=(dF ({ s with sub:=if onB s.sub (e.user,e.other)=true then [] else hJ s.sub (e.user,e.other) e.at' }) e.user (st0),if onB s.sub (e.user,e.other)=true then 90 else 0):=by
  rw[bA,if_neg (by omega),if_neg (by omega),if_neg (by omega),if_pos hk]
  rw[jS (show st0.1.2≤st0.1.1 from Int.le_refl _)]
 rw[hd]
 refine fW [(E0,G0),(E1,G1)] Tryz.func112 rfl (Nat.le_of_ble_eq_true rfl) (args':=[.agg (dK s G0 G1),.agg (evC e)]) (m':=[(G0,.buf 2 (s.usr.map usC)),(G1,.buf 2 (s.tmb.map tmC))]) rfl rfl (by decide) (by decide) rfl (fun w0 o0 A hf=>?_)
 refine aC (fun K1 hK1=>(aB (pX hf rfl rfl rfl rfl (l1 rfl) ?_)))
 refine aM hf rfl (cP rfl rfl (lf rfl)) (bJ hf rfl rfl rfl bC (aE aA 1 rfl (aD (hK1 _ (aC (fun K2 hK2=>(aB (aE aA 4 rfl (aG rfl (cS rfl fJ jT (l3 rfl) rfl) (cC hf rfl fJ rfl nN rfl rfl rfl rfl (lf rfl) (aD (hK2 _ (aC (fun K3 hK3=>?_))))))))))))))
 refine aB (aE aA 1 rfl (aD (hK3 _ (aC (fun K4 hK4=>(aB (bJ hf rfl rfl rfl dP (aD (hK4 _ (aC (fun K5 hK5=>(aC (fun K6 hK6=>(aB (aE aA 2 rfl ?_)))))))))))))))
 refine aD (hK6 _ (aO (aC (fun K7 hK7=>(aB (aG rfl (eI rfl rfl (eR (by omega))) (aE aA 1 rfl (aD (hK7 _ (bW rfl (aC (fun K8 hK8=>(aB (aG rfl (eI rfl rfl (eR (by omega))) ?_))))))))))))))
 refine aE aA 1 rfl (aD (hK8 _ (bW rfl (aC (fun K9 hK9=>(aB (aG rfl (eI rfl rfl (eR (by omega))) (aE aA 1 rfl (aD (hK9 _ (bW rfl (aC (fun K10 hK10=>(aB ?_))))))))))))))
 refine aG rfl (eI rfl rfl (kW (by omega))) (aE aA 1 rfl (aD (hK10 _ (bU rfl (aB (aE aA 5 rfl (aM hf rfl (aQ rfl rfl aHh rfl (aKz s.sub (e.user,e.other) e.at' (by omega))) (aE aA 4 rfl (aT hf rfl rfl nP rfl rfl (l1 rfl) (l4 rfl) rfl (aE aA 1 rfl ?_))))))))))
 refine bG ?_
 refine hK5 _ (aC (fun K11 hK11=>(aB (aE aA 4 rfl (fZ hf [(E0,G0),(E1,G1)] [(E0,G0),(E1,G1)] rfl rfl rfl rfl rfl rfl (by decide) (by decide) (by decide) rfl iJ (kQ ({ s with sub:=if onB s.sub (e.user,e.other)=true then [] else hJ s.sub (e.user,e.other) e.at' }) e.user (st0) hz2 hr3) ?_)))))
 rintro r m1 ⟨rfl,rfl⟩
 rw[jN]
 refine cD (cK (sl':=[(4,.ref 4 0 0 0),(7,.s (.int .i64 (if onB s.sub (e.user,e.other)=true then 90 else 0))),(112,.agg (dK (dF ({ s with sub:=if onB s.sub (e.user,e.other)=true then [] else hJ s.sub (e.user,e.other) e.at' }) e.user (st0)) G0 G1))]) (m':=[(G0,.buf 2 ((dF ({ s with sub:=if onB s.sub (e.user,e.other)=true then [] else hJ s.sub (e.user,e.other) e.at' }) e.user (st0)).usr.map usC)),(G1,.buf 2 ((dF ({ s with sub:=if onB s.sub (e.user,e.other)=true then [] else hJ s.sub (e.user,e.other) e.at' }) e.user (st0)).tmb.map tmC)),(8,.box (stC (st0))),(4,.box [.s (.int .i64 0),.s (.int .i64 0),.s (.slice none 0 0),.s (.slice none 0 0),.s (.slice none 0 0),.s (.slice none 0 0)]),(2,.box [.s (.int .i64 (({ s with sub:=if onB s.sub (e.user,e.other)=true then [] else hJ s.sub (e.user,e.other) e.at' })).now),.s (.int .i64 (({ s with sub:=if onB s.sub (e.user,e.other)=true then [] else hJ s.sub (e.user,e.other) e.at' })).hor),.sl 4 ((({ s with sub:=if onB s.sub (e.user,e.other)=true then [] else hJ s.sub (e.user,e.other) e.at' })).opn.map seC),.bad,.sl 4 ((({ s with sub:=if onB s.sub (e.user,e.other)=true then [] else hJ s.sub (e.user,e.other) e.at' })).sub.map enC),.bad])]) ⟨rfl,rfl,rfl,trivial⟩ rfl) ?_
 refine aE aA 1 rfl (aT hf rfl rfl cF rfl rfl (l1 rfl) (l4 rfl) rfl (aE aA 1 rfl (aD (hK11 _ (aJ ?_)))))
 exact⟨_,[(E0,G0),(E1,G1)],_,Le.refl _,by decide,rfl,rfl,⟨rfl,rfl⟩⟩
theorem aK9 (s:Sta) (e:Ev) (hz:SzS 140737488355100 s) (hr:cR cM s.usr) (hr2:cR dN s.tmb) (hk:e.kind=5) :DenX Tryz.prog 112 [.agg (dK s E0 E1),.agg (evC e)] [(E0,.buf 2 (s.usr.map usC)),(E1,.buf 2 (s.tmb.map tmC))] (fun r m=>r=.tup [.agg (dK (bA s e).1 E0 E1),.s (.int .i64 (bA s e).2)]∧m=[(E0,.buf 2 ((bA s e).1.usr.map usC)),(E1,.buf 2 ((bA s e).1.tmb.map tmC))]):=by
 have z1:=hz.o
 have z2:=hz.u
 have z3:=hz.b
 have z4:=hz.t
 have q:=aE0 s.sub (e.user,e.other) e.at'
 have hz2:SzS 140737488355200 ({ s with sub:=if onB s.sub (e.user,e.other)=true then iZ s.sub (e.user,e.other) e.at' else [] }):=⟨by show s.opn.length*40≤_; omega,by show s.usr.length*40≤_; omega,by show (if onB s.sub (e.user,e.other)=true then iZ s.sub (e.user,e.other) e.at' else []).length*48≤_; omega,by show s.tmb.length*24≤_; omega,fun x hx=>by have:=hz.y x hx; omega⟩
 have hr3:cR cM (({ s with sub:=if onB s.sub (e.user,e.other)=true then iZ s.sub (e.user,e.other) e.at' else [] })).usr:=hr
 have hd:bA s e=(dF ({ s with sub:=if onB s.sub (e.user,e.other)=true then iZ s.sub (e.user,e.other) e.at' else [] }) e.user (st0),if onB s.sub (e.user,e.other)=true then 0 else 91):=by
  rw[bA,if_neg (by omega),if_neg (by omega),if_neg (by omega),if_neg (by omega),if_pos hk]
  rw[jS (show st0.1.2≤st0.1.1 from Int.le_refl _)]
 rw[hd]
 refine fW [(E0,G0),(E1,G1)] Tryz.func112 rfl (Nat.le_of_ble_eq_true rfl) (args':=[.agg (dK s G0 G1),.agg (evC e)]) (m':=[(G0,.buf 2 (s.usr.map usC)),(G1,.buf 2 (s.tmb.map tmC))]) rfl rfl (by decide) (by decide) rfl (fun w0 o0 A hf=>?_)
 refine aC (fun K1 hK1=>(aB (pX hf rfl rfl rfl rfl (l1 rfl) ?_)))
 refine aM hf rfl (cP rfl rfl (lf rfl)) (bJ hf rfl rfl rfl bC (aE aA 1 rfl (aD (hK1 _ (aC (fun K2 hK2=>(aB (aE aA 4 rfl (aG rfl (cS rfl fJ jT (l3 rfl) rfl) (cC hf rfl fJ rfl nN rfl rfl rfl rfl (lf rfl) (aD (hK2 _ (aC (fun K3 hK3=>?_))))))))))))))
 refine aB (aE aA 1 rfl (aD (hK3 _ (aC (fun K4 hK4=>(aB (bJ hf rfl rfl rfl dP (aD (hK4 _ (aC (fun K5 hK5=>(aC (fun K6 hK6=>(aB (aE aA 2 rfl ?_)))))))))))))))
 refine aD (hK6 _ (aO (aC (fun K7 hK7=>(aB (aG rfl (eI rfl rfl (eR (by omega))) (aE aA 1 rfl (aD (hK7 _ (bW rfl (aC (fun K8 hK8=>(aB (aG rfl (eI rfl rfl (eR (by omega))) ?_))))))))))))))
 refine aE aA 1 rfl (aD (hK8 _ (bW rfl (aC (fun K9 hK9=>(aB (aG rfl (eI rfl rfl (eR (by omega))) (aE aA 1 rfl (aD (hK9 _ (bW rfl (aC (fun K10 hK10=>(aB ?_))))))))))))))
 refine aG rfl (eI rfl rfl (eR (by omega))) (aE aA 1 rfl (aD (hK10 _ (bW rfl (aC (fun K11 hK11=>(aB (aG rfl (eI rfl rfl (kW (by omega))) (aE aA 1 rfl (aD (hK11 _ (bU rfl (aB ?_)))))))))))))
 refine aE aA 5 rfl (aM hf rfl (aQ rfl rfl aHg rfl (aH8 s.sub (e.user,e.other) e.at' (by omega))) (aE aA 4 rfl (aT hf rfl rfl nP rfl rfl (l1 rfl) (l4 rfl) rfl (aE aA 1 rfl ?_))))
 refine bG ?_
 refine hK5 _ (aC (fun K12 hK12=>(aB (aE aA 4 rfl (fZ hf [(E0,G0),(E1,G1)] [(E0,G0),(E1,G1)] rfl rfl rfl rfl rfl rfl (by decide) (by decide) (by decide) rfl iJ (kQ ({ s with sub:=if onB s.sub (e.user,e.other)=true then iZ s.sub (e.user,e.other) e.at' else [] }) e.user (st0) hz2 hr3) ?_)))))
 rintro r m1 ⟨rfl,rfl⟩
 rw[jN]
 refine cD (cK (sl':=[(4,.ref 4 0 0 0),(7,.s (.int .i64 (if onB s.sub (e.user,e.other)=true then 0 else 91))),(112,.agg (dK (dF ({ s with sub:=if onB s.sub (e.user,e.other)=true then iZ s.sub (e.user,e.other) e.at' else [] }) e.user (st0)) G0 G1))]) (m':=[(G0,.buf 2 ((dF ({ s with sub:=if onB s.sub (e.user,e.other)=true then iZ s.sub (e.user,e.other) e.at' else [] }) e.user (st0)).usr.map usC)),(G1,.buf 2 ((dF ({ s with sub:=if onB s.sub (e.user,e.other)=true then iZ s.sub (e.user,e.other) e.at' else [] }) e.user (st0)).tmb.map tmC)),(8,.box (stC (st0))),(4,.box [.s (.int .i64 0),.s (.int .i64 0),.s (.slice none 0 0),.s (.slice none 0 0),.s (.slice none 0 0),.s (.slice none 0 0)]),(2,.box [.s (.int .i64 (({ s with sub:=if onB s.sub (e.user,e.other)=true then iZ s.sub (e.user,e.other) e.at' else [] })).now),.s (.int .i64 (({ s with sub:=if onB s.sub (e.user,e.other)=true then iZ s.sub (e.user,e.other) e.at' else [] })).hor),.sl 4 ((({ s with sub:=if onB s.sub (e.user,e.other)=true then iZ s.sub (e.user,e.other) e.at' else [] })).opn.map seC),.bad,.sl 4 ((({ s with sub:=if onB s.sub (e.user,e.other)=true then iZ s.sub (e.user,e.other) e.at' else [] })).sub.map enC),.bad])]) ⟨rfl,rfl,rfl,trivial⟩ rfl) ?_
 refine aE aA 1 rfl (aT hf rfl rfl cF rfl rfl (l1 rfl) (l4 rfl) rfl (aE aA 1 rfl (aD (hK12 _ (aJ ?_)))))
 exact⟨_,[(E0,G0),(E1,G1)],_,Le.refl _,by decide,rfl,rfl,⟨rfl,rfl⟩⟩
theorem aK8 (s:Sta) (e:Ev) (hz:SzS 140737488355100 s) (hr:cR cM s.usr) (hr2:cR dN s.tmb) (hk:e.kind=6) :DenX Tryz.prog 112 [.agg (dK s E0 E1),.agg (evC e)] [(E0,.buf 2 (s.usr.map usC)),(E1,.buf 2 (s.tmb.map tmC))] (fun r m=>r=.tup [.agg (dK (bA s e).1 E0 E1),.s (.int .i64 (bA s e).2)]∧m=[(E0,.buf 2 ((bA s e).1.usr.map usC)),(E1,.buf 2 ((bA s e).1.tmb.map tmC))]):=by
 have z1:=hz.o
 have z2:=hz.u
 have z3:=hz.b
 have z4:=hz.t
 skip
 have hz2:SzS 140737488355200 ({ s with hor:=max s.hor e.n }):=⟨by show s.opn.length*40≤_; omega,by show s.usr.length*40≤_; omega,by show (s.sub).length*48≤_; omega,by show s.tmb.length*24≤_; omega,fun x hx=>by have:=hz.y x hx; omega⟩
 have hr3:cR cM (({ s with hor:=max s.hor e.n })).usr:=hr
 have hd:bA s e=(dF ({ s with hor:=max s.hor e.n }) e.user (st0),0):=by
  rw[bA,if_neg (by omega),if_neg (by omega),if_neg (by omega),if_neg (by omega),if_neg (by omega),if_pos hk]
  rw[jS (show st0.1.2≤st0.1.1 from Int.le_refl _)]
 rw[hd]
 refine fW [(E0,G0),(E1,G1)] Tryz.func112 rfl (Nat.le_of_ble_eq_true rfl) (args':=[.agg (dK s G0 G1),.agg (evC e)]) (m':=[(G0,.buf 2 (s.usr.map usC)),(G1,.buf 2 (s.tmb.map tmC))]) rfl rfl (by decide) (by decide) rfl (fun w0 o0 A hf=>?_)
 refine aC (fun K1 hK1=>(aB (pX hf rfl rfl rfl rfl (l1 rfl) ?_)))
 refine aM hf rfl (cP rfl rfl (lf rfl)) (bJ hf rfl rfl rfl bC (aE aA 1 rfl (aD (hK1 _ (aC (fun K2 hK2=>(aB (aE aA 4 rfl (aG rfl (cS rfl fJ jT (l3 rfl) rfl) (cC hf rfl fJ rfl nN rfl rfl rfl rfl (lf rfl) (aD (hK2 _ (aC (fun K3 hK3=>?_))))))))))))))
 refine aB (aE aA 1 rfl (aD (hK3 _ (aC (fun K4 hK4=>(aB (bJ hf rfl rfl rfl dP (aD (hK4 _ (aC (fun K5 hK5=>(aC (fun K6 hK6=>(aB (aE aA 2 rfl ?_)))))))))))))))
 refine aD (hK6 _ (aO (aC (fun K7 hK7=>(aB (aG rfl (eI rfl rfl (eR (by omega))) (aE aA 1 rfl (aD (hK7 _ (bW rfl (aC (fun K8 hK8=>(aB (aG rfl (eI rfl rfl (eR (by omega))) ?_))))))))))))))
 refine aE aA 1 rfl (aD (hK8 _ (bW rfl (aC (fun K9 hK9=>(aB (aG rfl (eI rfl rfl (eR (by omega))) (aE aA 1 rfl (aD (hK9 _ (bW rfl (aC (fun K10 hK10=>(aB ?_))))))))))))))
 refine aG rfl (eI rfl rfl (eR (by omega))) (aE aA 1 rfl (aD (hK10 _ (bW rfl (aC (fun K11 hK11=>(aB (aG rfl (eI rfl rfl (eR (by omega))) (aE aA 1 rfl (aD (hK11 _ (bW rfl (aC (fun K12 hK12=>?_))))))))))))))
 refine aB (aG rfl (eI rfl rfl (kW (by omega))) (aE aA 1 rfl (aD (hK12 _ (bU rfl (aB (aE aA 4 rfl (aG rfl (aVg rfl rfl) (aE aA 1 rfl (aT hf rfl rfl cE rfl rfl (l1 rfl) (l4 rfl) rfl ?_))))))))))
 refine bG ?_
 refine hK5 _ (aC (fun K13 hK13=>(aB (aE aA 4 rfl (fZ hf [(E0,G0),(E1,G1)] [(E0,G0),(E1,G1)] rfl rfl rfl rfl rfl rfl (by decide) (by decide) (by decide) rfl iJ (kQ ({ s with hor:=max s.hor e.n }) e.user (st0) hz2 hr3) ?_)))))
 rintro r m1 ⟨rfl,rfl⟩
 rw[jN]
 refine cD (cK (sl':=[(4,.ref 4 0 0 0),(7,.s (.int .i64 (0))),(112,.agg (dK (dF ({ s with hor:=max s.hor e.n }) e.user (st0)) G0 G1))]) (m':=[(G0,.buf 2 ((dF ({ s with hor:=max s.hor e.n }) e.user (st0)).usr.map usC)),(G1,.buf 2 ((dF ({ s with hor:=max s.hor e.n }) e.user (st0)).tmb.map tmC)),(8,.box (stC (st0))),(4,.box [.s (.int .i64 0),.s (.int .i64 0),.s (.slice none 0 0),.s (.slice none 0 0),.s (.slice none 0 0),.s (.slice none 0 0)]),(2,.box [.s (.int .i64 (({ s with hor:=max s.hor e.n })).now),.s (.int .i64 (({ s with hor:=max s.hor e.n })).hor),.sl 4 ((({ s with hor:=max s.hor e.n })).opn.map seC),.bad,.sl 4 ((({ s with hor:=max s.hor e.n })).sub.map enC),.bad])]) ⟨rfl,rfl,rfl,trivial⟩ rfl) ?_
 refine aE aA 1 rfl (aT hf rfl rfl cF rfl rfl (l1 rfl) (l4 rfl) rfl (aE aA 1 rfl (aD (hK13 _ (aJ ?_)))))
 exact⟨_,[(E0,G0),(E1,G1)],_,Le.refl _,by decide,rfl,rfl,⟨rfl,rfl⟩⟩
theorem aK7 (s:Sta) (e:Ev) (hz:SzS 140737488355100 s) (hr:cR cM s.usr) (hr2:cR dN s.tmb) (hk:e.kind=7) :DenX Tryz.prog 112 [.agg (dK s E0 E1),.agg (evC e)] [(E0,.buf 2 (s.usr.map usC)),(E1,.buf 2 (s.tmb.map tmC))] (fun r m=>r=.tup [.agg (dK (bA s e).1 E0 E1),.s (.int .i64 (bA s e).2)]∧m=[(E0,.buf 2 ((bA s e).1.usr.map usC)),(E1,.buf 2 ((bA s e).1.tmb.map tmC))]):=by
 have z1:=hz.o
 have z2:=hz.u
 have z3:=hz.b
 have z4:=hz.t
 skip
 have hz2:SzS 140737488355200 (fM s e.user e.at'):=erSz hz hr (by omega)
 have hr3:cR cM ((fM s e.user e.at')).usr:=qC hr
 have hd:bA s e=(dF (fM s e.user e.at') e.user (st0),0):=by
  rw[bA,if_neg (by omega),if_neg (by omega),if_neg (by omega),if_neg (by omega),if_neg (by omega),if_neg (by omega)]
  rw[jS (show st0.1.2≤st0.1.1 from Int.le_refl _)]
 rw[hd]
 refine fW [(E0,G0),(E1,G1)] Tryz.func112 rfl (Nat.le_of_ble_eq_true rfl) (args':=[.agg (dK s G0 G1),.agg (evC e)]) (m':=[(G0,.buf 2 (s.usr.map usC)),(G1,.buf 2 (s.tmb.map tmC))]) rfl rfl (by decide) (by decide) rfl (fun w0 o0 A hf=>?_)
 refine aC (fun K1 hK1=>(aB (pX hf rfl rfl rfl rfl (l1 rfl) ?_)))
 refine aM hf rfl (cP rfl rfl (lf rfl)) (bJ hf rfl rfl rfl bC (aE aA 1 rfl (aD (hK1 _ (aC (fun K2 hK2=>(aB (aE aA 4 rfl (aG rfl (cS rfl fJ jT (l3 rfl) rfl) (cC hf rfl fJ rfl nN rfl rfl rfl rfl (lf rfl) (aD (hK2 _ (aC (fun K3 hK3=>?_))))))))))))))
 refine aB (aE aA 1 rfl (aD (hK3 _ (aC (fun K4 hK4=>(aB (bJ hf rfl rfl rfl dP (aD (hK4 _ (aC (fun K5 hK5=>(aC (fun K6 hK6=>(aB (aE aA 2 rfl ?_)))))))))))))))
 refine aD (hK6 _ (aO (aC (fun K7 hK7=>(aB (aG rfl (eI rfl rfl (eR (by omega))) (aE aA 1 rfl (aD (hK7 _ (bW rfl (aC (fun K8 hK8=>(aB (aG rfl (eI rfl rfl (eR (by omega))) ?_))))))))))))))
 refine aE aA 1 rfl (aD (hK8 _ (bW rfl (aC (fun K9 hK9=>(aB (aG rfl (eI rfl rfl (eR (by omega))) (aE aA 1 rfl (aD (hK9 _ (bW rfl (aC (fun K10 hK10=>(aB ?_))))))))))))))
 refine aG rfl (eI rfl rfl (eR (by omega))) (aE aA 1 rfl (aD (hK10 _ (bW rfl (aC (fun K11 hK11=>(aB (aG rfl (eI rfl rfl (eR (by omega))) (aE aA 1 rfl (aD (hK11 _ (bW rfl (aC (fun K12 hK12=>?_))))))))))))))
 refine aB (aG rfl (eI rfl rfl (eR (by omega))) (aE aA 1 rfl (aD (hK12 _ (bW rfl (aC (fun K13 hK13=>(aB (aG rfl (eI rfl rfl (kW (by omega))) (aE aA 1 rfl (aD (hK13 _ (bU rfl ?_)))))))))))))
 refine aB (aE aA 5 rfl (fZ hf [(E0,G0),(E1,G1)] [(E0,G0),(E1,G1)] rfl rfl rfl rfl rfl rfl (by decide) (by decide) (by decide) rfl aHf (aIm s e.user e.at' (hz.mono (by omega)) hr hr2) ?_))
 rintro r m1 ⟨rfl,rfl⟩
 rw[jN]
 refine cD (cK (sl':=[(2,.ref 2 0 0 0),(3,.adr (evC e)),(4,.ref 4 0 0 0),(7,.s (.int .i64 0)),(8,.ref 8 0 0 0),(107,.agg (dK (fM s e.user e.at') G0 G1))]) (m':=[(G0,.buf 2 ((fM s e.user e.at').usr.map usC)),(G1,.buf 2 ((fM s e.user e.at').tmb.map tmC)),(8,.box (stC st0)),(4,.box [.s (.int .i64 0),.s (.int .i64 0),.s (.slice none 0 0),.s (.slice none 0 0),.s (.slice none 0 0),.s (.slice none 0 0)]),(2,.box [.s (.int .i64 s.now),.s (.int .i64 s.hor),.sl 4 (s.opn.map seC),.bad,.sl 4 (s.sub.map enC),.bad])]) ⟨rfl,rfl,rfl,rfl,rfl,rfl,trivial⟩ rfl) ?_
 refine aT hf rfl rfl cF rfl rfl (l1 rfl) (l4 rfl) rfl ?_
 refine bG ?_
 refine hK5 _ (aC (fun K14 hK14=>(aB (aE aA 4 rfl (fZ hf [(E0,G0),(E1,G1)] [(E0,G0),(E1,G1)] rfl rfl rfl rfl rfl rfl (by decide) (by decide) (by decide) rfl iJ (kQ (fM s e.user e.at') e.user (st0) hz2 hr3) ?_)))))
 rintro r m1 ⟨rfl,rfl⟩
 rw[jN]
 refine cD (cK (sl':=[(4,.ref 4 0 0 0),(7,.s (.int .i64 (0))),(112,.agg (dK (dF (fM s e.user e.at') e.user (st0)) G0 G1))]) (m':=[(G0,.buf 2 ((dF (fM s e.user e.at') e.user (st0)).usr.map usC)),(G1,.buf 2 ((dF (fM s e.user e.at') e.user (st0)).tmb.map tmC)),(8,.box (stC (st0))),(4,.box [.s (.int .i64 0),.s (.int .i64 0),.s (.slice none 0 0),.s (.slice none 0 0),.s (.slice none 0 0),.s (.slice none 0 0)]),(2,.box [.s (.int .i64 ((fM s e.user e.at')).now),.s (.int .i64 ((fM s e.user e.at')).hor),.sl 4 (((fM s e.user e.at')).opn.map seC),.bad,.sl 4 (((fM s e.user e.at')).sub.map enC),.bad])]) ⟨rfl,rfl,rfl,trivial⟩ rfl) ?_
 refine aE aA 1 rfl (aT hf rfl rfl cF rfl rfl (l1 rfl) (l4 rfl) rfl (aE aA 1 rfl (aD (hK14 _ (aJ ?_)))))
 exact⟨_,[(E0,G0),(E1,G1)],_,Le.refl _,by decide,rfl,rfl,⟨rfl,rfl⟩⟩
end Go.Proofs.YthapfogcaklbbaaGreat
set_option linter.unusedVariables false
set_option linter.unusedSimpArgs false
namespace Go.Proofs.YthapfogcaklbbaaGreat
open Go Go.Abs
theorem aEa (e:Ev) (hu:TS e.user) (ho:TS e.other) :Den Tryz.prog 111 [.agg (evC e)]  (·=.s (.bool (bY e))):=by
 refine aU Tryz.func111 rfl (Nat.le_of_ble_eq_true rfl) (fun w0 A hf=>(aC (fun K1 hK1=>(aB (aM hf rfl (cP rfl rfl (lf rfl)) (aE aA 1 rfl (aD (hK1 _ (aC (fun K2 hK2=>(aB (aE aA 4 rfl (aG rfl (cS rfl jF rR (l3 rfl) rfl) (bJ hf rfl rfl rfl jF (aT hf rfl rfl bV rfl rfl (l1 rfl) (l4 rfl) rfl ?_)))))))))))))))
 refine aD (hK2 _ (aC (fun K3 hK3=>(aB (aE aA 2 rfl (aM hf rfl (aQ rfl rfl iK rfl (hY _ _ _)) (aE aA 1 rfl (aD (hK3 _ (aC (fun K4 hK4=>(aC (fun K5 hK5=>(aB (aE aA 2 rfl ?_)))))))))))))))
 refine aD (hK5 _ (aO (aC (fun K6 hK6=>(aO (aC (fun K7 hK7=>(aO (aC (fun K8 hK8=>(aO (aC (fun K9 hK9=>(aO (aC (fun K10 hK10=>(aO ?_)))))))))))))))))
 refine aC (fun K11 hK11=>(aO (aC (fun K12 hK12=>(aC (fun K13 hK13=>(aC (fun K14 hK14=>(aC (fun K15 hK15=>(aB (aE aA 2 rfl (aD (hK15 _ (cU rfl rfl (fun hc1=>?_) (fun hc1=>?_))))))))))))))))
 ·
  simp only[bs] at hc1
  refine aN (hK14 _ (bU rfl (aW (hK11 _ (aC (fun K16 hK16=>(aB (aE aA 3 rfl (aT hf rfl rfl cE rfl rfl (l1 rfl) (l4 rfl) rfl (aD (hK16 _ (aB (aE aA 2 rfl ?_)))))))))))))
  refine aV rfl rfl rfl (fun hg3=>?_) (fun hg3=>?_)
  ·
   simp only[bs] at hg3
   refine aG rfl (bQ rfl oA cE rfl) ?_
   refine aE aA 1 rfl (aZ rfl rfl rfl (aM hf rfl (aQ rfl rfl iK rfl (hY _ _ _)) (aE aA 2 rfl ?_)))
   refine bG ?_
   refine hK10 _ (aC (fun K17 hK17=>(aB (aE aA 3 rfl (aT hf rfl rfl cE rfl rfl (l1 rfl) (l4 rfl) rfl (aD (hK17 _ (aB (aE aA 2 rfl (aV rfl rfl rfl (fun hg4=>?_) (fun hg4=>?_)))))))))))
   ·
    simp only[bs] at hg4
    refine aG rfl (bQ rfl gM cE rfl) ?_
    refine aE aA 1 rfl (aZ rfl rfl rfl (aM hf rfl (aQ rfl rfl iK rfl (hY _ _ _)) (aE aA 2 rfl ?_)))
    refine bG ?_
    refine hK9 _ (aC (fun K18 hK18=>(aC (fun K19 hK19=>(aB (aE aA 3 rfl (aT hf rfl rfl bS rfl rfl (l1 rfl) (l4 rfl) rfl (aD (hK19 _ (aB (aE aA 2 rfl (aV rfl rfl rfl (fun hg5=>?_) (fun hg5=>?_)))))))))))))
    ·
     simp only[bs] at hg5
     refine aG rfl (bQ rfl cA bS rfl) ?_
     refine aE aA 1 rfl (aZ rfl rfl rfl (aM hf rfl (aQ rfl rfl lM rfl (Nm.right_den e.user hu)) (aE aA 2 rfl (aD (hK18 _ (aW (hK4 _ (aC (fun K20 hK20=>(aB (aE aA 2 rfl (aV rfl rfl rfl (fun hg6=>?_) (fun hg6=>?_)))))))))))))
     ·
      refine aG rfl (bP rfl dA bV rfl rfl rfl) ?_
      refine aE aA 1 rfl (aZ rfl rfl rfl (aG rfl (gQ rfl rfl fT rfl) (aE aA 2 rfl (aD (hK20 _ (aJ ?_))))))
      refine⟨_,rfl,?_⟩
      refine aP ?_
      rw[Bool.eq_iff_iff]
      simp only[bY,dD]
      (have hlt:e.at'<1099511627776:=(by omega); simp_all[toList_inj,aH,eq_comm (a:=(0:Int)) (b:=e.st),eq_comm (a:=(0:Int)) (b:=e.n)]; done)
     ·
      simp only[bs] at hg6
      refine aE aA 4 rfl (aD (hK20 _ (aJ ?_)))
      refine⟨_,rfl,?_⟩
      refine aP ?_
      rw[Bool.eq_iff_iff]
      simp only[bY,dD]
      (simp_all[toList_inj,aH]; done)
    ·
     simp only[bs] at hg5
     refine aE aA 4 rfl (aD (hK18 _ (aW (hK4 _ (aC (fun K21 hK21=>(aB (aE aA 7 rfl (aD (hK21 _ (aJ ?_)))))))))))
     refine⟨_,rfl,?_⟩
     refine aP ?_
     rw[Bool.eq_iff_iff]
     simp only[bY,dD]
     (simp_all[toList_inj,aH]; omega)
   ·
    simp only[bs] at hg4
    refine aE aA 4 rfl ?_
    refine bG ?_
    refine hK9 _ (aC (fun K22 hK22=>(aC (fun K23 hK23=>(aB (aE aA 3 rfl (aT hf rfl rfl bS rfl rfl (l1 rfl) (l4 rfl) rfl (aD (hK23 _ (aB (aE aA 7 rfl (aD (hK22 _ (aW ?_))))))))))))))
    refine hK4 _ (aC (fun K24 hK24=>(aB (aE aA 7 rfl (aD (hK24 _ (aJ ?_)))))))
    refine⟨_,rfl,?_⟩
    refine aP ?_
    rw[Bool.eq_iff_iff]
    simp only[bY,dD]
    (simp_all[toList_inj,aH]; done)
  ·
   simp only[bs] at hg3
   refine aE aA 4 rfl ?_
   refine bG ?_
   refine hK10 _ (aC (fun K25 hK25=>(aB (aE aA 3 rfl (aT hf rfl rfl cE rfl rfl (l1 rfl) (l4 rfl) rfl (aD (hK25 _ (aB (aE aA 7 rfl ?_)))))))))
   refine bG ?_
   refine hK9 _ (aC (fun K26 hK26=>(aC (fun K27 hK27=>(aB (aE aA 3 rfl (aT hf rfl rfl bS rfl rfl (l1 rfl) (l4 rfl) rfl (aD (hK27 _ (aB (aE aA 7 rfl (aD (hK26 _ (aW ?_))))))))))))))
   refine hK4 _ (aC (fun K28 hK28=>(aB (aE aA 7 rfl (aD (hK28 _ (aJ ?_)))))))
   refine⟨_,rfl,?_⟩
   refine aP ?_
   rw[Bool.eq_iff_iff]
   simp only[bY,dD]
   (simp_all[toList_inj,aH]; omega)
 ·
  simp only[bs] at hc1
  refine aB (aE aA 2 rfl (aD (hK14 _ (cU rfl rfl (fun hc7=>?_) (fun hc7=>?_)))))
  ·
   simp only[bs] at hc7
   refine aW (hK11 _ (aC (fun K29 hK29=>(aB (aE aA 3 rfl (aT hf rfl rfl cE rfl rfl (l1 rfl) (l4 rfl) rfl (aD (hK29 _ (aB (aE aA 2 rfl (aV rfl rfl rfl (fun hg8=>?_) (fun hg8=>?_))))))))))))
   ·
    simp only[bs] at hg8
    refine aG rfl (bQ rfl oA cE rfl) ?_
    refine aE aA 1 rfl (aZ rfl rfl rfl (aM hf rfl (aQ rfl rfl iK rfl (hY _ _ _)) (aE aA 2 rfl ?_)))
    refine bG ?_
    refine hK10 _ (aC (fun K30 hK30=>(aB (aE aA 3 rfl (aT hf rfl rfl cE rfl rfl (l1 rfl) (l4 rfl) rfl (aD (hK30 _ (aB (aE aA 2 rfl (aV rfl rfl rfl (fun hg9=>?_) (fun hg9=>?_)))))))))))
    ·
     simp only[bs] at hg9
     refine aG rfl (bQ rfl gM cE rfl) ?_
     refine aE aA 1 rfl (aZ rfl rfl rfl (aM hf rfl (aQ rfl rfl iK rfl (hY _ _ _)) (aE aA 2 rfl ?_)))
     refine bG ?_
     refine hK9 _ (aC (fun K31 hK31=>(aC (fun K32 hK32=>(aB (aE aA 3 rfl (aT hf rfl rfl bS rfl rfl (l1 rfl) (l4 rfl) rfl (aD (hK32 _ (aB (aE aA 2 rfl (aV rfl rfl rfl (fun hg10=>?_) (fun hg10=>?_)))))))))))))
     ·
      simp only[bs] at hg10
      refine aG rfl (bQ rfl cA bS rfl) ?_
      refine aE aA 1 rfl (aZ rfl rfl rfl (aM hf rfl (aQ rfl rfl lM rfl (Nm.right_den e.user hu)) (aE aA 2 rfl (aD (hK31 _ (aW (hK4 _ (aC (fun K33 hK33=>(aB (aE aA 2 rfl (aV rfl rfl rfl (fun hg11=>?_) (fun hg11=>?_)))))))))))))
      ·
       refine aG rfl (bP rfl dA bV rfl rfl rfl) ?_
       refine aE aA 1 rfl (aZ rfl rfl rfl (aG rfl (gQ rfl rfl fT rfl) (aE aA 2 rfl (aD (hK33 _ (aJ ?_))))))
       refine⟨_,rfl,?_⟩
       refine aP ?_
       rw[Bool.eq_iff_iff]
       simp only[bY,dD]
       (have hlt:e.at'<1099511627776:=(by omega); simp_all[toList_inj,aH,eq_comm (a:=(0:Int)) (b:=e.st),eq_comm (a:=(0:Int)) (b:=e.n)]; done)
      ·
       simp only[bs] at hg11
       refine aE aA 4 rfl (aD (hK33 _ (aJ ?_)))
       refine⟨_,rfl,?_⟩
       refine aP ?_
       rw[Bool.eq_iff_iff]
       simp only[bY,dD]
       (simp_all[toList_inj,aH]; done)
     ·
      simp only[bs] at hg10
      refine aE aA 4 rfl (aD (hK31 _ (aW (hK4 _ (aC (fun K34 hK34=>(aB (aE aA 7 rfl (aD (hK34 _ (aJ ?_)))))))))))
      refine⟨_,rfl,?_⟩
      refine aP ?_
      rw[Bool.eq_iff_iff]
      simp only[bY,dD]
      (simp_all[toList_inj,aH]; omega)
    ·
     simp only[bs] at hg9
     refine aE aA 4 rfl ?_
     refine bG ?_
     refine hK9 _ (aC (fun K35 hK35=>(aC (fun K36 hK36=>(aB (aE aA 3 rfl (aT hf rfl rfl bS rfl rfl (l1 rfl) (l4 rfl) rfl (aD (hK36 _ (aB (aE aA 7 rfl (aD (hK35 _ (aW ?_))))))))))))))
     refine hK4 _ (aC (fun K37 hK37=>(aB (aE aA 7 rfl (aD (hK37 _ (aJ ?_)))))))
     refine⟨_,rfl,?_⟩
     refine aP ?_
     rw[Bool.eq_iff_iff]
     simp only[bY,dD]
     (simp_all[toList_inj,aH]; done)
   ·
    simp only[bs] at hg8
    refine aE aA 4 rfl ?_
    refine bG ?_
    refine hK10 _ (aC (fun K38 hK38=>(aB (aE aA 3 rfl (aT hf rfl rfl cE rfl rfl (l1 rfl) (l4 rfl) rfl (aD (hK38 _ (aB (aE aA 7 rfl ?_)))))))))
    refine bG ?_
    refine hK9 _ (aC (fun K39 hK39=>(aC (fun K40 hK40=>(aB (aE aA 3 rfl (aT hf rfl rfl bS rfl rfl (l1 rfl) (l4 rfl) rfl (aD (hK40 _ (aB (aE aA 7 rfl (aD (hK39 _ (aW ?_))))))))))))))
    refine hK4 _ (aC (fun K41 hK41=>(aB (aE aA 7 rfl (aD (hK41 _ (aJ ?_)))))))
    refine⟨_,rfl,?_⟩
    refine aP ?_
    rw[Bool.eq_iff_iff]
    simp only[bY,dD]
    (simp_all[toList_inj,aH]; omega)
  ·
   simp only[bs] at hc7
   refine aN (hK13 _ (aC (fun K42 hK42=>(aC (fun K43 hK43=>(aB (aE aA 2 rfl (aD (hK43 _ (cU rfl rfl (fun hc12=>?_) (fun hc12=>?_)))))))))))
   ·
    simp only[bs] at hc12
    refine aW (hK10 _ (aC (fun K44 hK44=>(aB (aE aA 3 rfl (aT hf rfl rfl cE rfl rfl (l1 rfl) (l4 rfl) rfl (aD (hK44 _ (aB (aE aA 2 rfl (aV rfl rfl rfl (fun hg13=>?_) (fun hg13=>?_))))))))))))
    ·
     simp only[bs] at hg13
     refine aG rfl (bQ rfl gM cE rfl) ?_
     refine aE aA 1 rfl (aZ rfl rfl rfl (aM hf rfl (aQ rfl rfl iK rfl (hY _ _ _)) (aE aA 2 rfl ?_)))
     refine bG ?_
     refine hK9 _ (aC (fun K45 hK45=>(aC (fun K46 hK46=>(aB (aE aA 3 rfl (aT hf rfl rfl bS rfl rfl (l1 rfl) (l4 rfl) rfl (aD (hK46 _ (aB (aE aA 2 rfl (aV rfl rfl rfl (fun hg14=>?_) (fun hg14=>?_)))))))))))))
     ·
      simp only[bs] at hg14
      refine aG rfl (bQ rfl cA bS rfl) ?_
      refine aE aA 1 rfl (aZ rfl rfl rfl (aM hf rfl (aQ rfl rfl lM rfl (Nm.right_den e.user hu)) (aE aA 2 rfl (aD (hK45 _ (aW (hK4 _ (aC (fun K47 hK47=>(aB (aE aA 2 rfl (aV rfl rfl rfl (fun hg15=>?_) (fun hg15=>?_)))))))))))))
      ·
       refine aG rfl (bP rfl dA bV rfl rfl rfl) ?_
       refine aE aA 1 rfl (aZ rfl rfl rfl (aG rfl (gQ rfl rfl fT rfl) (aE aA 2 rfl (aD (hK47 _ (aJ ?_))))))
       refine⟨_,rfl,?_⟩
       refine aP ?_
       rw[Bool.eq_iff_iff]
       simp only[bY,dD]
       (have hlt:e.at'<1099511627776:=(by omega); simp_all[toList_inj,aH,eq_comm (a:=(0:Int)) (b:=e.st),eq_comm (a:=(0:Int)) (b:=e.n)]; done)
      ·
       simp only[bs] at hg15
       refine aE aA 4 rfl (aD (hK47 _ (aJ ?_)))
       refine⟨_,rfl,?_⟩
       refine aP ?_
       rw[Bool.eq_iff_iff]
       simp only[bY,dD]
       (simp_all[toList_inj,aH]; done)
     ·
      simp only[bs] at hg14
      refine aE aA 4 rfl (aD (hK45 _ (aW (hK4 _ (aC (fun K48 hK48=>(aB (aE aA 7 rfl (aD (hK48 _ (aJ ?_)))))))))))
      refine⟨_,rfl,?_⟩
      refine aP ?_
      rw[Bool.eq_iff_iff]
      simp only[bY,dD]
      (simp_all[toList_inj,aH]; omega)
    ·
     simp only[bs] at hg13
     refine aE aA 4 rfl ?_
     refine bG ?_
     refine hK9 _ (aC (fun K49 hK49=>(aC (fun K50 hK50=>(aB (aE aA 3 rfl (aT hf rfl rfl bS rfl rfl (l1 rfl) (l4 rfl) rfl (aD (hK50 _ (aB (aE aA 7 rfl (aD (hK49 _ (aW ?_))))))))))))))
     refine hK4 _ (aC (fun K51 hK51=>(aB (aE aA 7 rfl (aD (hK51 _ (aJ ?_)))))))
     refine⟨_,rfl,?_⟩
     refine aP ?_
     rw[Bool.eq_iff_iff]
     simp only[bY,dD]
     (simp_all[toList_inj,aH]; omega)
   ·
    simp only[bs] at hc12
    refine aN (hK42 _ (aC (fun K52 hK52=>(aC (fun K53 hK53=>(aB (aE aA 2 rfl (aD (hK53 _ (cU rfl rfl (fun hc16=>?_) (fun hc16=>?_)))))))))))
    ·
     simp only[bs] at hc16
     refine aW (hK9 _ (aC (fun K54 hK54=>(aC (fun K55 hK55=>(aB (aE aA 3 rfl (aT hf rfl rfl bS rfl rfl (l1 rfl) (l4 rfl) rfl (aD (hK55 _ (aB (aE aA 2 rfl (aV rfl rfl rfl (fun hg17=>?_) (fun hg17=>?_))))))))))))))
     ·
      simp only[bs] at hg17
      refine aG rfl (bQ rfl cA bS rfl) ?_
      refine aE aA 1 rfl (aZ rfl rfl rfl (aM hf rfl (aQ rfl rfl lM rfl (Nm.right_den e.user hu)) (aE aA 2 rfl (aD (hK54 _ (aW (hK4 _ (aC (fun K56 hK56=>(aB (aE aA 2 rfl (aV rfl rfl rfl (fun hg18=>?_) (fun hg18=>?_)))))))))))))
      ·
       refine aG rfl (bP rfl dA bV rfl rfl rfl) ?_
       refine aE aA 1 rfl (aZ rfl rfl rfl (aG rfl (gQ rfl rfl fT rfl) (aE aA 2 rfl (aD (hK56 _ (aJ ?_))))))
       refine⟨_,rfl,?_⟩
       refine aP ?_
       rw[Bool.eq_iff_iff]
       simp only[bY,dD]
       (have hlt:e.at'<1099511627776:=(by omega); simp_all[toList_inj,aH,eq_comm (a:=(0:Int)) (b:=e.st),eq_comm (a:=(0:Int)) (b:=e.n)]; done)
      ·
       simp only[bs] at hg18
       refine aE aA 4 rfl (aD (hK56 _ (aJ ?_)))
       refine⟨_,rfl,?_⟩
       refine aP ?_
       rw[Bool.eq_iff_iff]
       simp only[bY,dD]
       (simp_all[toList_inj,aH]; done)
     ·
      simp only[bs] at hg17
      refine aE aA 4 rfl (aD (hK54 _ (aW (hK4 _ (aC (fun K57 hK57=>(aB (aE aA 7 rfl (aD (hK57 _ (aJ ?_)))))))))))
      refine⟨_,rfl,?_⟩
      refine aP ?_
      rw[Bool.eq_iff_iff]
      simp only[bY,dD]
      (simp_all[toList_inj,aH]; omega)
    ·
     simp only[bs] at hc16
     refine aN (hK52 _ (aC (fun K58 hK58=>(aC (fun K59 hK59=>(aC (fun K60 hK60=>(aB (aE aA 2 rfl (aD (hK60 _ (cU rfl rfl (fun hc19=>?_) (fun hc19=>?_)))))))))))))
     ·
      simp only[bs] at hc19
      refine aN (hK59 _ (bU rfl (aW (hK8 _ (aC (fun K61 hK61=>(aC (fun K62 hK62=>(eS bI ?_)))))))))
      refine bK (listed':=#[true,false,false,false,false,false,false,false]) 0 rfl (by kernel_rfl) (by kernel_rfl) (by kernel_rfl) rfl (fun _ _ h=>h) (jM rfl cA bS rfl) ?_
      refine bK (listed':=#[true,false,true,false,false,false,false,false]) 2 rfl (by kernel_rfl) (by kernel_rfl) (by kernel_rfl) rfl (fun _ _ h=>h) (jM rfl lL bS rfl) ?_
      refine kZ (iX [1,3,4,54,56] rfl) (aI 1 [3] (by kernel_rfl) ⟨?_,?_,trivial⟩)
      ·
       refine⟨_,rfl,rfl,(ao rfl (aE aA 1 rfl (aF (aI 3 [4] (by kernel_rfl) ⟨?_,?_,trivial⟩))))⟩
       ·
        refine⟨_,rfl,rfl,(ao rfl (aE aA 1 rfl (aF (aI 4 [] (by kernel_rfl) ⟨?_,trivial⟩))))⟩
        ·
         refine⟨_,rfl,rfl,(ao rfl (aE aA 1 rfl (aF (aI 5 [] (by kernel_rfl) ⟨?_,trivial⟩))))⟩
         ·
          refine⟨_,rfl,rfl,(ao rfl (aT hf rfl rfl bS rfl rfl (l1 rfl) (l4 rfl) rfl (aF (aI 6 [] (by kernel_rfl) ⟨?_,trivial⟩))))⟩
          ·
           refine⟨_,rfl,rfl,(ao rfl (aE aA 1 rfl (aF (aI 7 [] (by kernel_rfl) ⟨?_,trivial⟩))))⟩
           ·
            refine⟨_,rfl,rfl,(ao rfl (aT hf rfl rfl bS rfl rfl (l1 rfl) (l4 rfl) rfl (aF (dC (by kernel_rfl) ?_))))⟩
            refine hK62 _ (aB (aE aA 2 rfl (aV rfl rfl rfl (fun hg21=>?_) (fun hg21=>?_))))
            ·
             simp only[bs] at hg21
             refine aG rfl (bQ rfl cA bS rfl) ?_
             refine aE aA 3 rfl (aZ rfl rfl rfl (aM hf rfl (bE iM rfl rfl rfl rfl (l2 rfl)) (aZ rfl rfl rfl (aM hf rfl (aQ rfl rfl gN rfl (Nm.all_den [e.user,e.other] (by refine⟨by simp,fun x hx=>?_⟩; simp at hx; rcases hx with rfl | rfl <;> assumption))) ?_))))
             refine aE aA 2 rfl (aD (hK61 _ (aW (hK4 _ (aC (fun K63 hK63=>(aB (aE aA 2 rfl (aV rfl rfl rfl (fun hg22=>?_) (fun hg22=>?_))))))))))
             ·
              refine aG rfl (bP rfl dA bV rfl rfl rfl) ?_
              refine aE aA 1 rfl (aZ rfl rfl rfl (aG rfl (gQ rfl rfl fT rfl) (aE aA 2 rfl (aD (hK63 _ (aJ ?_))))))
              refine⟨_,rfl,?_⟩
              refine aP ?_
              rw[Bool.eq_iff_iff]
              simp only[bY,dD]
              (have hlt:e.at'<1099511627776:=(by omega); simp_all[toList_inj,aH,eq_comm (a:=(0:Int)) (b:=e.st),eq_comm (a:=(0:Int)) (b:=e.n)]; done)
             ·
              simp only[bs] at hg22
              refine aE aA 4 rfl (aD (hK63 _ (aJ ?_)))
              refine⟨_,rfl,?_⟩
              refine aP ?_
              rw[Bool.eq_iff_iff]
              simp only[bY,dD]
              (simp_all[toList_inj,aH]; done)
            ·
             simp only[bs] at hg21
             refine aE aA 7 rfl (aD (hK61 _ (aW (hK4 _ (aC (fun K64 hK64=>(aB (aE aA 7 rfl (aD (hK64 _ (aJ ?_)))))))))))
             refine⟨_,rfl,?_⟩
             refine aP ?_
             rw[Bool.eq_iff_iff]
             simp only[bY,dD]
             (simp_all[toList_inj,aH]; omega)
       ·
        refine⟨_,rfl,rfl,(ao rfl (aE aA 1 rfl (aF (aI 3 [5] (by kernel_rfl) ⟨?_,?_,trivial⟩))))⟩
        ·
         refine⟨_,rfl,rfl,(ao rfl (aE aA 1 rfl (aF (aI 5 [] (by kernel_rfl) ⟨?_,trivial⟩))))⟩
         ·
          refine⟨_,rfl,rfl,(ao rfl (aT hf rfl rfl bS rfl rfl (l1 rfl) (l4 rfl) rfl (aF (aI 6 [] (by kernel_rfl) ⟨?_,trivial⟩))))⟩
          ·
           refine⟨_,rfl,rfl,(ao rfl (aE aA 1 rfl (aF (aI 7 [] (by kernel_rfl) ⟨?_,trivial⟩))))⟩
           ·
            refine⟨_,rfl,rfl,(ao rfl (aT hf rfl rfl bS rfl rfl (l1 rfl) (l4 rfl) rfl (aF (dC (by kernel_rfl) ?_))))⟩
            refine hK62 _ (aB (aE aA 2 rfl (aV rfl rfl rfl (fun hg23=>?_) (fun hg23=>?_))))
            ·
             simp only[bs] at hg23
             refine aG rfl (bQ rfl cA bS rfl) ?_
             refine aE aA 3 rfl (aZ rfl rfl rfl (aM hf rfl (bE iM rfl rfl rfl rfl (l2 rfl)) (aZ rfl rfl rfl (aM hf rfl (aQ rfl rfl gN rfl (Nm.all_den [e.user,e.other] (by refine⟨by simp,fun x hx=>?_⟩; simp at hx; rcases hx with rfl | rfl <;> assumption))) ?_))))
             refine aE aA 2 rfl (aD (hK61 _ (aW (hK4 _ (aC (fun K65 hK65=>(aB (aE aA 2 rfl (aV rfl rfl rfl (fun hg24=>?_) (fun hg24=>?_))))))))))
             ·
              refine aG rfl (bP rfl dA bV rfl rfl rfl) ?_
              refine aE aA 1 rfl (aZ rfl rfl rfl (aG rfl (gQ rfl rfl fT rfl) (aE aA 2 rfl (aD (hK65 _ (aJ ?_))))))
              refine⟨_,rfl,?_⟩
              refine aP ?_
              rw[Bool.eq_iff_iff]
              simp only[bY,dD]
              (have hlt:e.at'<1099511627776:=(by omega); simp_all[toList_inj,aH,eq_comm (a:=(0:Int)) (b:=e.st),eq_comm (a:=(0:Int)) (b:=e.n)]; done)
             ·
              simp only[bs] at hg24
              refine aE aA 4 rfl (aD (hK65 _ (aJ ?_)))
              refine⟨_,rfl,?_⟩
              refine aP ?_
              rw[Bool.eq_iff_iff]
              simp only[bY,dD]
              (simp_all[toList_inj,aH]; done)
            ·
             simp only[bs] at hg23
             refine aE aA 7 rfl (aD (hK61 _ (aW (hK4 _ (aC (fun K66 hK66=>(aB (aE aA 7 rfl (aD (hK66 _ (aJ ?_)))))))))))
             refine⟨_,rfl,?_⟩
             refine aP ?_
             rw[Bool.eq_iff_iff]
             simp only[bY,dD]
             (simp_all[toList_inj,aH]; omega)
        ·
         refine⟨_,rfl,rfl,(ao rfl (aT hf rfl rfl bS rfl rfl (l1 rfl) (l4 rfl) rfl (aF (aI 3 [] (by kernel_rfl) ⟨?_,trivial⟩))))⟩
         ·
          refine⟨_,rfl,rfl,(ao rfl (aE aA 1 rfl (aF (aI 6 [] (by kernel_rfl) ⟨?_,trivial⟩))))⟩
          ·
           refine⟨_,rfl,rfl,(ao rfl (aE aA 1 rfl (aF (aI 7 [] (by kernel_rfl) ⟨?_,trivial⟩))))⟩
           ·
            refine⟨_,rfl,rfl,(ao rfl (aT hf rfl rfl bS rfl rfl (l1 rfl) (l4 rfl) rfl (aF (dC (by kernel_rfl) ?_))))⟩
            refine hK62 _ (aB (aE aA 2 rfl (aV rfl rfl rfl (fun hg25=>?_) (fun hg25=>?_))))
            ·
             simp only[bs] at hg25
             refine aG rfl (bQ rfl cA bS rfl) ?_
             refine aE aA 3 rfl (aZ rfl rfl rfl (aM hf rfl (bE iM rfl rfl rfl rfl (l2 rfl)) (aZ rfl rfl rfl (aM hf rfl (aQ rfl rfl gN rfl (Nm.all_den [e.user,e.other] (by refine⟨by simp,fun x hx=>?_⟩; simp at hx; rcases hx with rfl | rfl <;> assumption))) ?_))))
             refine aE aA 2 rfl (aD (hK61 _ (aW (hK4 _ (aC (fun K67 hK67=>(aB (aE aA 2 rfl (aV rfl rfl rfl (fun hg26=>?_) (fun hg26=>?_))))))))))
             ·
              refine aG rfl (bP rfl dA bV rfl rfl rfl) ?_
              refine aE aA 1 rfl (aZ rfl rfl rfl (aG rfl (gQ rfl rfl fT rfl) (aE aA 2 rfl (aD (hK67 _ (aJ ?_))))))
              refine⟨_,rfl,?_⟩
              refine aP ?_
              rw[Bool.eq_iff_iff]
              simp only[bY,dD]
              (have hlt:e.at'<1099511627776:=(by omega); simp_all[toList_inj,aH,eq_comm (a:=(0:Int)) (b:=e.st),eq_comm (a:=(0:Int)) (b:=e.n)]; done)
             ·
              simp only[bs] at hg26
              refine aE aA 4 rfl (aD (hK67 _ (aJ ?_)))
              refine⟨_,rfl,?_⟩
              refine aP ?_
              rw[Bool.eq_iff_iff]
              simp only[bY,dD]
              (simp_all[toList_inj,aH]; done)
            ·
             simp only[bs] at hg25
             refine aE aA 7 rfl (aD (hK61 _ (aW (hK4 _ (aC (fun K68 hK68=>(aB (aE aA 7 rfl (aD (hK68 _ (aJ ?_)))))))))))
             refine⟨_,rfl,?_⟩
             refine aP ?_
             rw[Bool.eq_iff_iff]
             simp only[bY,dD]
             (simp_all[toList_inj,aH]; omega)
      ·
       refine⟨_,rfl,rfl,(ao rfl (aE aA 1 rfl (aF (aI 1 [] (by kernel_rfl) ⟨?_,trivial⟩))))⟩
       ·
        refine⟨_,rfl,rfl,(ao rfl (aE aA 1 rfl (aF (aI 4 [] (by kernel_rfl) ⟨?_,trivial⟩))))⟩
        ·
         refine⟨_,rfl,rfl,(ao rfl (aE aA 1 rfl (aF (aI 5 [] (by kernel_rfl) ⟨?_,trivial⟩))))⟩
         ·
          refine⟨_,rfl,rfl,(ao rfl (aT hf rfl rfl bS rfl rfl (l1 rfl) (l4 rfl) rfl (aF (aI 6 [] (by kernel_rfl) ⟨?_,trivial⟩))))⟩
          ·
           refine⟨_,rfl,rfl,(ao rfl (aE aA 1 rfl (aF (aI 7 [] (by kernel_rfl) ⟨?_,trivial⟩))))⟩
           ·
            refine⟨_,rfl,rfl,(ao rfl (aT hf rfl rfl bS rfl rfl (l1 rfl) (l4 rfl) rfl (aF (dC (by kernel_rfl) ?_))))⟩
            refine hK62 _ (aB (aE aA 2 rfl (aV rfl rfl rfl (fun hg27=>?_) (fun hg27=>?_))))
            ·
             simp only[bs] at hg27
             refine aG rfl (bQ rfl cA bS rfl) ?_
             refine aE aA 3 rfl (aZ rfl rfl rfl (aM hf rfl (bE iM rfl rfl rfl rfl (l2 rfl)) (aZ rfl rfl rfl (aM hf rfl (aQ rfl rfl gN rfl (Nm.all_den [e.user,e.other] (by refine⟨by simp,fun x hx=>?_⟩; simp at hx; rcases hx with rfl | rfl <;> assumption))) ?_))))
             refine aE aA 2 rfl (aD (hK61 _ (aW (hK4 _ (aC (fun K69 hK69=>(aB (aE aA 2 rfl (aV rfl rfl rfl (fun hg28=>?_) (fun hg28=>?_))))))))))
             ·
              refine aG rfl (bP rfl dA bV rfl rfl rfl) ?_
              refine aE aA 1 rfl (aZ rfl rfl rfl (aG rfl (gQ rfl rfl fT rfl) (aE aA 2 rfl (aD (hK69 _ (aJ ?_))))))
              refine⟨_,rfl,?_⟩
              refine aP ?_
              rw[Bool.eq_iff_iff]
              simp only[bY,dD]
              (have hlt:e.at'<1099511627776:=(by omega); simp_all[toList_inj,aH,eq_comm (a:=(0:Int)) (b:=e.st),eq_comm (a:=(0:Int)) (b:=e.n)]; done)
             ·
              simp only[bs] at hg28
              refine aE aA 4 rfl (aD (hK69 _ (aJ ?_)))
              refine⟨_,rfl,?_⟩
              refine aP ?_
              rw[Bool.eq_iff_iff]
              simp only[bY,dD]
              (simp_all[toList_inj,aH]; done)
            ·
             simp only[bs] at hg27
             refine aE aA 7 rfl (aD (hK61 _ (aW (hK4 _ (aC (fun K70 hK70=>(aB (aE aA 7 rfl (aD (hK70 _ (aJ ?_)))))))))))
             refine⟨_,rfl,?_⟩
             refine aP ?_
             rw[Bool.eq_iff_iff]
             simp only[bY,dD]
             (simp_all[toList_inj,aH]; omega)
     ·
      simp only[bs] at hc19
      refine aB (aE aA 2 rfl (aD (hK59 _ (cU rfl rfl (fun hc29=>?_) (fun hc29=>?_)))))
      ·
       simp only[bs] at hc29
       refine aW (hK8 _ (aC (fun K71 hK71=>(aC (fun K72 hK72=>(eS bI ?_))))))
       refine bK (listed':=#[true,false,false,false,false,false,false,false]) 0 rfl (by kernel_rfl) (by kernel_rfl) (by kernel_rfl) rfl (fun _ _ h=>h) (jM rfl cA bS rfl) ?_
       refine bK (listed':=#[true,false,true,false,false,false,false,false]) 2 rfl (by kernel_rfl) (by kernel_rfl) (by kernel_rfl) rfl (fun _ _ h=>h) (jM rfl lL bS rfl) ?_
       refine kZ (iX [1,3,4,54,56] rfl) (aI 1 [3] (by kernel_rfl) ⟨?_,?_,trivial⟩)
       ·
        refine⟨_,rfl,rfl,(ao rfl (aE aA 1 rfl (aF (aI 3 [4] (by kernel_rfl) ⟨?_,?_,trivial⟩))))⟩
        ·
         refine⟨_,rfl,rfl,(ao rfl (aE aA 1 rfl (aF (aI 4 [] (by kernel_rfl) ⟨?_,trivial⟩))))⟩
         ·
          refine⟨_,rfl,rfl,(ao rfl (aE aA 1 rfl (aF (aI 5 [] (by kernel_rfl) ⟨?_,trivial⟩))))⟩
          ·
           refine⟨_,rfl,rfl,(ao rfl (aT hf rfl rfl bS rfl rfl (l1 rfl) (l4 rfl) rfl (aF (aI 6 [] (by kernel_rfl) ⟨?_,trivial⟩))))⟩
           ·
            refine⟨_,rfl,rfl,(ao rfl (aE aA 1 rfl (aF (aI 7 [] (by kernel_rfl) ⟨?_,trivial⟩))))⟩
            ·
             refine⟨_,rfl,rfl,(ao rfl (aT hf rfl rfl bS rfl rfl (l1 rfl) (l4 rfl) rfl (aF (dC (by kernel_rfl) ?_))))⟩
             refine hK72 _ (aB (aE aA 2 rfl (aV rfl rfl rfl (fun hg30=>?_) (fun hg30=>?_))))
             ·
              simp only[bs] at hg30
              refine aG rfl (bQ rfl cA bS rfl) ?_
              refine aE aA 3 rfl (aZ rfl rfl rfl (aM hf rfl (bE iM rfl rfl rfl rfl (l2 rfl)) (aZ rfl rfl rfl (aM hf rfl (aQ rfl rfl gN rfl (Nm.all_den [e.user,e.other] (by refine⟨by simp,fun x hx=>?_⟩; simp at hx; rcases hx with rfl | rfl <;> assumption))) ?_))))
              refine aE aA 2 rfl (aD (hK71 _ (aW (hK4 _ (aC (fun K73 hK73=>(aB (aE aA 2 rfl (aV rfl rfl rfl (fun hg31=>?_) (fun hg31=>?_))))))))))
              ·
               refine aG rfl (bP rfl dA bV rfl rfl rfl) ?_
               refine aE aA 1 rfl (aZ rfl rfl rfl (aG rfl (gQ rfl rfl fT rfl) (aE aA 2 rfl (aD (hK73 _ (aJ ?_))))))
               refine⟨_,rfl,?_⟩
               refine aP ?_
               rw[Bool.eq_iff_iff]
               simp only[bY,dD]
               (have hlt:e.at'<1099511627776:=(by omega); simp_all[toList_inj,aH,eq_comm (a:=(0:Int)) (b:=e.st),eq_comm (a:=(0:Int)) (b:=e.n)]; done)
              ·
               simp only[bs] at hg31
               refine aE aA 4 rfl (aD (hK73 _ (aJ ?_)))
               refine⟨_,rfl,?_⟩
               refine aP ?_
               rw[Bool.eq_iff_iff]
               simp only[bY,dD]
               (simp_all[toList_inj,aH]; done)
             ·
              simp only[bs] at hg30
              refine aE aA 7 rfl (aD (hK71 _ (aW (hK4 _ (aC (fun K74 hK74=>(aB (aE aA 7 rfl (aD (hK74 _ (aJ ?_)))))))))))
              refine⟨_,rfl,?_⟩
              refine aP ?_
              rw[Bool.eq_iff_iff]
              simp only[bY,dD]
              (simp_all[toList_inj,aH]; omega)
        ·
         refine⟨_,rfl,rfl,(ao rfl (aE aA 1 rfl (aF (aI 3 [5] (by kernel_rfl) ⟨?_,?_,trivial⟩))))⟩
         ·
          refine⟨_,rfl,rfl,(ao rfl (aE aA 1 rfl (aF (aI 5 [] (by kernel_rfl) ⟨?_,trivial⟩))))⟩
          ·
           refine⟨_,rfl,rfl,(ao rfl (aT hf rfl rfl bS rfl rfl (l1 rfl) (l4 rfl) rfl (aF (aI 6 [] (by kernel_rfl) ⟨?_,trivial⟩))))⟩
           ·
            refine⟨_,rfl,rfl,(ao rfl (aE aA 1 rfl (aF (aI 7 [] (by kernel_rfl) ⟨?_,trivial⟩))))⟩
            ·
             refine⟨_,rfl,rfl,(ao rfl (aT hf rfl rfl bS rfl rfl (l1 rfl) (l4 rfl) rfl (aF (dC (by kernel_rfl) ?_))))⟩
             refine hK72 _ (aB (aE aA 2 rfl (aV rfl rfl rfl (fun hg32=>?_) (fun hg32=>?_))))
             ·
              simp only[bs] at hg32
              refine aG rfl (bQ rfl cA bS rfl) ?_
              refine aE aA 3 rfl (aZ rfl rfl rfl (aM hf rfl (bE iM rfl rfl rfl rfl (l2 rfl)) (aZ rfl rfl rfl (aM hf rfl (aQ rfl rfl gN rfl (Nm.all_den [e.user,e.other] (by refine⟨by simp,fun x hx=>?_⟩; simp at hx; rcases hx with rfl | rfl <;> assumption))) ?_))))
              refine aE aA 2 rfl (aD (hK71 _ (aW (hK4 _ (aC (fun K75 hK75=>(aB (aE aA 2 rfl (aV rfl rfl rfl (fun hg33=>?_) (fun hg33=>?_))))))))))
              ·
               refine aG rfl (bP rfl dA bV rfl rfl rfl) ?_
               refine aE aA 1 rfl (aZ rfl rfl rfl (aG rfl (gQ rfl rfl fT rfl) (aE aA 2 rfl (aD (hK75 _ (aJ ?_))))))
               refine⟨_,rfl,?_⟩
               refine aP ?_
               rw[Bool.eq_iff_iff]
               simp only[bY,dD]
               (have hlt:e.at'<1099511627776:=(by omega); simp_all[toList_inj,aH,eq_comm (a:=(0:Int)) (b:=e.st),eq_comm (a:=(0:Int)) (b:=e.n)]; done)
              ·
               simp only[bs] at hg33
               refine aE aA 4 rfl (aD (hK75 _ (aJ ?_)))
               refine⟨_,rfl,?_⟩
               refine aP ?_
               rw[Bool.eq_iff_iff]
               simp only[bY,dD]
               (simp_all[toList_inj,aH]; done)
             ·
              simp only[bs] at hg32
              refine aE aA 7 rfl (aD (hK71 _ (aW (hK4 _ (aC (fun K76 hK76=>(aB (aE aA 7 rfl (aD (hK76 _ (aJ ?_)))))))))))
              refine⟨_,rfl,?_⟩
              refine aP ?_
              rw[Bool.eq_iff_iff]
              simp only[bY,dD]
              (simp_all[toList_inj,aH]; omega)
         ·
          refine⟨_,rfl,rfl,(ao rfl (aT hf rfl rfl bS rfl rfl (l1 rfl) (l4 rfl) rfl (aF (aI 3 [] (by kernel_rfl) ⟨?_,trivial⟩))))⟩
          ·
           refine⟨_,rfl,rfl,(ao rfl (aE aA 1 rfl (aF (aI 6 [] (by kernel_rfl) ⟨?_,trivial⟩))))⟩
           ·
            refine⟨_,rfl,rfl,(ao rfl (aE aA 1 rfl (aF (aI 7 [] (by kernel_rfl) ⟨?_,trivial⟩))))⟩
            ·
             refine⟨_,rfl,rfl,(ao rfl (aT hf rfl rfl bS rfl rfl (l1 rfl) (l4 rfl) rfl (aF (dC (by kernel_rfl) ?_))))⟩
             refine hK72 _ (aB (aE aA 2 rfl (aV rfl rfl rfl (fun hg34=>?_) (fun hg34=>?_))))
             ·
              simp only[bs] at hg34
              refine aG rfl (bQ rfl cA bS rfl) ?_
              refine aE aA 3 rfl (aZ rfl rfl rfl (aM hf rfl (bE iM rfl rfl rfl rfl (l2 rfl)) (aZ rfl rfl rfl (aM hf rfl (aQ rfl rfl gN rfl (Nm.all_den [e.user,e.other] (by refine⟨by simp,fun x hx=>?_⟩; simp at hx; rcases hx with rfl | rfl <;> assumption))) ?_))))
              refine aE aA 2 rfl (aD (hK71 _ (aW (hK4 _ (aC (fun K77 hK77=>(aB (aE aA 2 rfl (aV rfl rfl rfl (fun hg35=>?_) (fun hg35=>?_))))))))))
              ·
               refine aG rfl (bP rfl dA bV rfl rfl rfl) ?_
               refine aE aA 1 rfl (aZ rfl rfl rfl (aG rfl (gQ rfl rfl fT rfl) (aE aA 2 rfl (aD (hK77 _ (aJ ?_))))))
               refine⟨_,rfl,?_⟩
               refine aP ?_
               rw[Bool.eq_iff_iff]
               simp only[bY,dD]
               (have hlt:e.at'<1099511627776:=(by omega); simp_all[toList_inj,aH,eq_comm (a:=(0:Int)) (b:=e.st),eq_comm (a:=(0:Int)) (b:=e.n)]; done)
              ·
               simp only[bs] at hg35
               refine aE aA 4 rfl (aD (hK77 _ (aJ ?_)))
               refine⟨_,rfl,?_⟩
               refine aP ?_
               rw[Bool.eq_iff_iff]
               simp only[bY,dD]
               (simp_all[toList_inj,aH]; done)
             ·
              simp only[bs] at hg34
              refine aE aA 7 rfl (aD (hK71 _ (aW (hK4 _ (aC (fun K78 hK78=>(aB (aE aA 7 rfl (aD (hK78 _ (aJ ?_)))))))))))
              refine⟨_,rfl,?_⟩
              refine aP ?_
              rw[Bool.eq_iff_iff]
              simp only[bY,dD]
              (simp_all[toList_inj,aH]; omega)
       ·
        refine⟨_,rfl,rfl,(ao rfl (aE aA 1 rfl (aF (aI 1 [] (by kernel_rfl) ⟨?_,trivial⟩))))⟩
        ·
         refine⟨_,rfl,rfl,(ao rfl (aE aA 1 rfl (aF (aI 4 [] (by kernel_rfl) ⟨?_,trivial⟩))))⟩
         ·
          refine⟨_,rfl,rfl,(ao rfl (aE aA 1 rfl (aF (aI 5 [] (by kernel_rfl) ⟨?_,trivial⟩))))⟩
          ·
           refine⟨_,rfl,rfl,(ao rfl (aT hf rfl rfl bS rfl rfl (l1 rfl) (l4 rfl) rfl (aF (aI 6 [] (by kernel_rfl) ⟨?_,trivial⟩))))⟩
           ·
            refine⟨_,rfl,rfl,(ao rfl (aE aA 1 rfl (aF (aI 7 [] (by kernel_rfl) ⟨?_,trivial⟩))))⟩
            ·
             refine⟨_,rfl,rfl,(ao rfl (aT hf rfl rfl bS rfl rfl (l1 rfl) (l4 rfl) rfl (aF (dC (by kernel_rfl) ?_))))⟩
             refine hK72 _ (aB (aE aA 2 rfl (aV rfl rfl rfl (fun hg36=>?_) (fun hg36=>?_))))
             ·
              simp only[bs] at hg36
              refine aG rfl (bQ rfl cA bS rfl) ?_
              refine aE aA 3 rfl (aZ rfl rfl rfl (aM hf rfl (bE iM rfl rfl rfl rfl (l2 rfl)) (aZ rfl rfl rfl (aM hf rfl (aQ rfl rfl gN rfl (Nm.all_den [e.user,e.other] (by refine⟨by simp,fun x hx=>?_⟩; simp at hx; rcases hx with rfl | rfl <;> assumption))) ?_))))
              refine aE aA 2 rfl (aD (hK71 _ (aW (hK4 _ (aC (fun K79 hK79=>(aB (aE aA 2 rfl (aV rfl rfl rfl (fun hg37=>?_) (fun hg37=>?_))))))))))
              ·
               refine aG rfl (bP rfl dA bV rfl rfl rfl) ?_
               refine aE aA 1 rfl (aZ rfl rfl rfl (aG rfl (gQ rfl rfl fT rfl) (aE aA 2 rfl (aD (hK79 _ (aJ ?_))))))
               refine⟨_,rfl,?_⟩
               refine aP ?_
               rw[Bool.eq_iff_iff]
               simp only[bY,dD]
               (have hlt:e.at'<1099511627776:=(by omega); simp_all[toList_inj,aH,eq_comm (a:=(0:Int)) (b:=e.st),eq_comm (a:=(0:Int)) (b:=e.n)]; done)
              ·
               simp only[bs] at hg37
               refine aE aA 4 rfl (aD (hK79 _ (aJ ?_)))
               refine⟨_,rfl,?_⟩
               refine aP ?_
               rw[Bool.eq_iff_iff]
               simp only[bY,dD]
               (simp_all[toList_inj,aH]; done)
             ·
              simp only[bs] at hg36
              refine aE aA 7 rfl (aD (hK71 _ (aW (hK4 _ (aC (fun K80 hK80=>(aB (aE aA 7 rfl (aD (hK80 _ (aJ ?_)))))))))))
              refine⟨_,rfl,?_⟩
              refine aP ?_
              rw[Bool.eq_iff_iff]
              simp only[bY,dD]
              (simp_all[toList_inj,aH]; omega)
      ·
       simp only[bs] at hc29
       refine aN (hK58 _ (aC (fun K81 hK81=>(aB (aE aA 2 rfl (aD (hK81 _ (cU rfl rfl (fun hc38=>?_) (fun hc38=>?_)))))))))
       ·
        simp only[bs] at hc38
        refine aW (hK7 _ (aC (fun K82 hK82=>(aC (fun K83 hK83=>(aB (aE aA 3 rfl (aT hf rfl rfl cE rfl rfl (l1 rfl) (l4 rfl) rfl (aD (hK83 _ (aB (aE aA 2 rfl (aV rfl rfl rfl (fun hg39=>?_) (fun hg39=>?_))))))))))))))
        ·
         simp only[bs] at hg39
         refine aG rfl (bQ rfl gM cE rfl) ?_
         refine aE aA 1 rfl (aZ rfl rfl rfl (aM hf rfl (aQ rfl rfl iK rfl (hY _ _ _)) (aE aA 2 rfl (aD (hK82 _ (aW (hK4 _ (aC (fun K84 hK84=>(aB (aE aA 2 rfl (aV rfl rfl rfl (fun hg40=>?_) (fun hg40=>?_)))))))))))))
         ·
          simp only[bs] at hg40
          refine aG rfl (bP rfl dA bV rfl rfl rfl) ?_
          refine aE aA 1 rfl (aZ rfl rfl rfl (aG rfl (gQ rfl rfl fT rfl) (aE aA 2 rfl (aD (hK84 _ (aJ ?_))))))
          refine⟨_,rfl,?_⟩
          refine aP ?_
          rw[Bool.eq_iff_iff]
          simp only[bY,dD]
          (have hlt:e.at'<1099511627776:=(by omega); have hln:e.n<1099511627776:=(by omega); simp_all[toList_inj,aH,eq_comm (a:=(0:Int)) (b:=e.st),eq_comm (a:=(0:Int)) (b:=e.n)]; done)
         ·
          simp only[bs] at hg40
          refine aE aA 4 rfl (aD (hK84 _ (aJ ?_)))
          refine⟨_,rfl,?_⟩
          refine aP ?_
          rw[Bool.eq_iff_iff]
          simp only[bY,dD]
          (simp_all[toList_inj,aH]; omega)
        ·
         simp only[bs] at hg39
         refine aE aA 4 rfl (aD (hK82 _ (aW (hK4 _ (aC (fun K85 hK85=>(aB (aE aA 7 rfl (aD (hK85 _ (aJ ?_)))))))))))
         refine⟨_,rfl,?_⟩
         refine aP ?_
         rw[Bool.eq_iff_iff]
         simp only[bY,dD]
         (simp_all[toList_inj,aH]; omega)
       ·
        simp only[bs] at hc38
        refine aN (hK12 _ (aW (hK6 _ (aC (fun K86 hK86=>(aC (fun K87 hK87=>(aB (aE aA 1 rfl (aD (hK87 _ (aJ ?_))))))))))))
        refine⟨_,rfl,?_⟩
        refine aP ?_
        rw[Bool.eq_iff_iff]
        simp only[bY,dD]
        (simp_all[toList_inj,aH]; done)
theorem aPv (e:Ev) (hu:TS e.user) (ho:TS e.other) :Den Tryz.prog 202 [.agg (evC e)]  (·=.s (.bool (dD e))):=by
 refine aU Tryz.func202 rfl (Nat.le_of_ble_eq_true rfl) (fun w0 A hf=>(aC (fun K1 hK1=>(aB (aM hf rfl (cP rfl rfl (lf rfl)) (aE aA 1 rfl (aD (hK1 _ (aC (fun K2 hK2=>(aB (aE aA 4 rfl (aV rfl rfl rfl (fun hg1=>?_) (fun hg1=>?_))))))))))))))
 ·
  simp only[bs] at hg1
  refine aG rfl (bQ rfl aPm cE rfl) ?_
  refine aE aA 4 rfl (aV rfl rfl rfl (fun hg2=>?_) (fun hg2=>?_))
  ·
   simp only[bs] at hg2
   refine aG rfl (bQ rfl aR1 bS rfl) ?_
   refine aE aA 1 rfl (aZ rfl rfl rfl (aM hf rfl (aQ rfl rfl nI rfl (Nm.refRight_den _ (by assumption))) (aE aA 2 rfl (aV rfl rfl rfl (fun hg3=>?_) (fun hg3=>?_)))))
   ·
    refine aG rfl (bQ rfl aPo bS rfl) ?_
    refine aE aA 4 rfl (aD (hK2 _ (aJ ?_)))
    refine⟨_,rfl,?_⟩
    refine aP ?_
    rw[Bool.eq_iff_iff]
    simp only[bY,dD]
    (simp_all[toList_inj,aH]; done)
   ·
    simp only[bs] at hg3
    refine aE aA 4 rfl (aD (hK2 _ (aJ ?_)))
    refine⟨_,rfl,?_⟩
    refine aP ?_
    rw[Bool.eq_iff_iff]
    simp only[bY,dD]
    (simp_all[toList_inj,aH]; done)
  ·
   simp only[bs] at hg2
   refine aE aA 9 rfl (aD (hK2 _ (aJ ?_)))
   refine⟨_,rfl,?_⟩
   refine aP ?_
   rw[Bool.eq_iff_iff]
   simp only[bY,dD]
   (simp_all[toList_inj,aH]; omega)
 ·
  simp only[bs] at hg1
  refine aE aA 14 rfl (aD (hK2 _ (aJ ?_)))
  refine⟨_,rfl,?_⟩
  refine aP ?_
  rw[Bool.eq_iff_iff]
  simp only[bY,dD]
  (simp_all[toList_inj,aH]; omega)
theorem aPa (e:Ev) (hu:TS e.user) (ho:TS e.other) :Den Tryz.prog 148 [.agg (evC e)]  (·=.s (.bool (bY e))):=by
 refine aU Tryz.func148 rfl (Nat.le_of_ble_eq_true rfl) (fun w0 A hf=>(aC (fun K1 hK1=>(aB (aM hf rfl (cP rfl rfl (lf rfl)) (aE aA 1 rfl (aD (hK1 _ (aC (fun K2 hK2=>(aC (fun K3 hK3=>(aB (aE aA 4 rfl (aV rfl rfl rfl (fun hg1=>?_) (fun hg1=>?_))))))))))))))))
 ·
  simp only[bs] at hg1
  refine aG rfl (bQ rfl aR2 cE rfl) ?_
  refine aE aA 3 rfl (aD (hK3 _ (cU rfl rfl (fun hc2=>?_) (fun hc2=>?_))))
  ·
   simp only[bs] at hc2
   refine aC (fun K4 hK4=>(aB (aE aA 1 rfl (aD (hK4 _ (aJ ?_))))))
   refine⟨_,rfl,?_⟩
   refine aP ?_
   rw[Bool.eq_iff_iff]
   simp only[bY]
   (simp_all[toList_inj,aH]; omega)
  ·
   simp only[bs] at hc2
   refine aN (hK2 _ (aC (fun K5 hK5=>(aC (fun K6 hK6=>(aB (aE aA 2 rfl (aD (hK6 _ (aO (aC (fun K7 hK7=>(aC (fun K8 hK8=>(aB (aE aA 2 rfl ?_))))))))))))))))
   refine aD (hK8 _ (cU rfl rfl (fun hc3=>?_) (fun hc3=>?_)))
   ·
    simp only[bs] at hc3
    refine aN (hK7 _ (bU rfl (aC (fun K9 hK9=>(aB (aE aA 1 rfl (aM hf rfl (aQ rfl rfl aP2 rfl (aPv e hu ho)) (aE aA 1 rfl (aV rfl rfl rfl (fun hg5=>?_) (fun hg5=>?_))))))))))
    ·
     refine aG rfl (bQ rfl aPd cE rfl) ?_
     refine aE aA 4 rfl (aV rfl rfl rfl (fun hg6=>?_) (fun hg6=>?_))
     ·
      simp only[bs] at hg6
      refine aG rfl (bQ rfl aPd cE rfl) ?_
      refine aE aA 4 rfl (aD (hK9 _ (aJ ?_)))
      refine⟨_,rfl,?_⟩
      refine aP ?_
      rw[Bool.eq_iff_iff]
      simp only[bY]
      (simp_all[toList_inj,aH]; done)
     ·
      simp only[bs] at hg6
      refine aE aA 4 rfl (aD (hK9 _ (aJ ?_)))
      refine⟨_,rfl,?_⟩
      refine aP ?_
      rw[Bool.eq_iff_iff]
      simp only[bY]
      (simp_all[toList_inj,aH]; omega)
    ·
     simp only[bs] at hg5
     refine aE aA 9 rfl (aD (hK9 _ (aJ ?_)))
     refine⟨_,rfl,?_⟩
     refine aP ?_
     rw[Bool.eq_iff_iff]
     simp only[bY]
     (simp_all[toList_inj,aH]; done)
   ·
    simp only[bs] at hc3
    refine aB (aE aA 2 rfl (aD (hK7 _ (cU rfl rfl (fun hc7=>?_) (fun hc7=>?_)))))
    ·
     simp only[bs] at hc7
     refine aC (fun K10 hK10=>(aB (aE aA 1 rfl (aM hf rfl (aQ rfl rfl aP2 rfl (aPv e hu ho)) (aE aA 1 rfl (aV rfl rfl rfl (fun hg8=>?_) (fun hg8=>?_)))))))
     ·
      refine aG rfl (bQ rfl aPd cE rfl) ?_
      refine aE aA 4 rfl (aV rfl rfl rfl (fun hg9=>?_) (fun hg9=>?_))
      ·
       simp only[bs] at hg9
       refine aG rfl (bQ rfl aPd cE rfl) ?_
       refine aE aA 4 rfl (aD (hK10 _ (aJ ?_)))
       refine⟨_,rfl,?_⟩
       refine aP ?_
       rw[Bool.eq_iff_iff]
       simp only[bY]
       (simp_all[toList_inj,aH]; done)
      ·
       simp only[bs] at hg9
       refine aE aA 4 rfl (aD (hK10 _ (aJ ?_)))
       refine⟨_,rfl,?_⟩
       refine aP ?_
       rw[Bool.eq_iff_iff]
       simp only[bY]
       (simp_all[toList_inj,aH]; omega)
     ·
      simp only[bs] at hg8
      refine aE aA 9 rfl (aD (hK10 _ (aJ ?_)))
      refine⟨_,rfl,?_⟩
      refine aP ?_
      rw[Bool.eq_iff_iff]
      simp only[bY]
      (simp_all[toList_inj,aH]; done)
    ·
     simp only[bs] at hc7
     refine aC (fun K11 hK11=>(aB (aE aA 2 rfl (aD (hK11 _ (cU rfl rfl (fun hc10=>?_) (fun hc10=>?_)))))))
     ·
      simp only[bs] at hc10
      refine aC (fun K12 hK12=>(aB (aE aA 1 rfl (aM hf rfl (aQ rfl rfl aP2 rfl (aPv e hu ho)) (aE aA 1 rfl (aV rfl rfl rfl (fun hg11=>?_) (fun hg11=>?_)))))))
      ·
       refine aG rfl (bQ rfl aPd cE rfl) ?_
       refine aE aA 4 rfl (aD (hK12 _ (aJ ?_)))
       refine⟨_,rfl,?_⟩
       refine aP ?_
       rw[Bool.eq_iff_iff]
       simp only[bY]
       (simp_all[toList_inj,aH]; done)
      ·
       simp only[bs] at hg11
       refine aE aA 4 rfl (aD (hK12 _ (aJ ?_)))
       refine⟨_,rfl,?_⟩
       refine aP ?_
       rw[Bool.eq_iff_iff]
       simp only[bY]
       (simp_all[toList_inj,aH]; done)
     ·
      simp only[bs] at hc10
      refine aC (fun K13 hK13=>(aC (fun K14 hK14=>(aB (aE aA 2 rfl (aD (hK14 _ (cU rfl rfl (fun hc12=>?_) (fun hc12=>?_)))))))))
      ·
       simp only[bs] at hc12
       refine aN (hK13 _ (bU rfl (aC (fun K15 hK15=>(aB (aE aA 2 rfl (aM hf rfl (aQ rfl rfl nI rfl (Nm.refRight_den _ (by assumption))) (aE aA 1 rfl (aV rfl rfl rfl (fun hg14=>?_) (fun hg14=>?_))))))))))
       ·
        refine aG rfl (bQ rfl aPo bS rfl) ?_
        refine aE aA 1 rfl (aZ rfl rfl rfl (aM hf rfl (aQ rfl rfl nI rfl (Nm.refRight_den _ (by assumption))) (aE aA 2 rfl (aV rfl rfl rfl (fun hg15=>?_) (fun hg15=>?_)))))
        ·
         refine aG rfl (bQ rfl aPm cE rfl) ?_
         refine aE aA 4 rfl (aV rfl rfl rfl (fun hg16=>?_) (fun hg16=>?_))
         ·
          simp only[bs] at hg16
          refine aG rfl (bQ rfl aPd cE rfl) ?_
          refine aE aA 4 rfl (aD (hK15 _ (aJ ?_)))
          refine⟨_,rfl,?_⟩
          refine aP ?_
          rw[Bool.eq_iff_iff]
          simp only[bY]
          (simp_all[toList_inj,aH]; done)
         ·
          simp only[bs] at hg16
          refine aE aA 4 rfl (aD (hK15 _ (aJ ?_)))
          refine⟨_,rfl,?_⟩
          refine aP ?_
          rw[Bool.eq_iff_iff]
          simp only[bY]
          (simp_all[toList_inj,aH]; done)
        ·
         simp only[bs] at hg15
         refine aE aA 9 rfl (aD (hK15 _ (aJ ?_)))
         refine⟨_,rfl,?_⟩
         refine aP ?_
         rw[Bool.eq_iff_iff]
         simp only[bY]
         (simp_all[toList_inj,aH]; done)
       ·
        simp only[bs] at hg14
        refine aE aA 14 rfl (aD (hK15 _ (aJ ?_)))
        refine⟨_,rfl,?_⟩
        refine aP ?_
        rw[Bool.eq_iff_iff]
        simp only[bY]
        (simp_all[toList_inj,aH]; done)
      ·
       simp only[bs] at hc12
       refine aB (aE aA 2 rfl (aD (hK13 _ (cU rfl rfl (fun hc17=>?_) (fun hc17=>?_)))))
       ·
        simp only[bs] at hc17
        refine aC (fun K16 hK16=>(aB (aE aA 2 rfl (aM hf rfl (aQ rfl rfl nI rfl (Nm.refRight_den _ (by assumption))) (aE aA 1 rfl (aV rfl rfl rfl (fun hg18=>?_) (fun hg18=>?_)))))))
        ·
         refine aG rfl (bQ rfl aPo bS rfl) ?_
         refine aE aA 1 rfl (aZ rfl rfl rfl (aM hf rfl (aQ rfl rfl nI rfl (Nm.refRight_den _ (by assumption))) (aE aA 2 rfl (aV rfl rfl rfl (fun hg19=>?_) (fun hg19=>?_)))))
         ·
          refine aG rfl (bQ rfl aPm cE rfl) ?_
          refine aE aA 4 rfl (aV rfl rfl rfl (fun hg20=>?_) (fun hg20=>?_))
          ·
           simp only[bs] at hg20
           refine aG rfl (bQ rfl aPd cE rfl) ?_
           refine aE aA 4 rfl (aD (hK16 _ (aJ ?_)))
           refine⟨_,rfl,?_⟩
           refine aP ?_
           rw[Bool.eq_iff_iff]
           simp only[bY]
           (simp_all[toList_inj,aH]; done)
          ·
           simp only[bs] at hg20
           refine aE aA 4 rfl (aD (hK16 _ (aJ ?_)))
           refine⟨_,rfl,?_⟩
           refine aP ?_
           rw[Bool.eq_iff_iff]
           simp only[bY]
           (simp_all[toList_inj,aH]; done)
         ·
          simp only[bs] at hg19
          refine aE aA 9 rfl (aD (hK16 _ (aJ ?_)))
          refine⟨_,rfl,?_⟩
          refine aP ?_
          rw[Bool.eq_iff_iff]
          simp only[bY]
          (simp_all[toList_inj,aH]; done)
        ·
         simp only[bs] at hg18
         refine aE aA 14 rfl (aD (hK16 _ (aJ ?_)))
         refine⟨_,rfl,?_⟩
         refine aP ?_
         rw[Bool.eq_iff_iff]
         simp only[bY]
         (simp_all[toList_inj,aH]; done)
       ·
        simp only[bs] at hc17
        refine aC (fun K17 hK17=>(aB (aE aA 2 rfl (aD (hK17 _ (cU rfl rfl (fun hc21=>?_) (fun hc21=>?_)))))))
        ·
         simp only[bs] at hc21
         refine aC (fun K18 hK18=>(aB (aE aA 4 rfl (aV rfl rfl rfl (fun hg22=>?_) (fun hg22=>?_)))))
         ·
          simp only[bs] at hg22
          refine aG rfl (bQ rfl aPo bS rfl) ?_
          refine aE aA 4 rfl (aV rfl rfl rfl (fun hg23=>?_) (fun hg23=>?_))
          ·
           simp only[bs] at hg23
           refine aG rfl (bQ rfl aPd cE rfl) ?_
           refine aE aA 4 rfl (aV rfl rfl rfl (fun hg24=>?_) (fun hg24=>?_))
           ·
            simp only[bs] at hg24
            refine aG rfl (bQ rfl aPm cE rfl) ?_
            refine aE aA 4 rfl (aV rfl rfl rfl (fun hg25=>?_) (fun hg25=>?_))
            ·
             simp only[bs] at hg25
             refine aG rfl (bQ rfl aPm cE rfl) ?_
             refine aE aA 4 rfl (aD (hK18 _ (aJ ?_)))
             refine⟨_,rfl,?_⟩
             refine aP ?_
             rw[Bool.eq_iff_iff]
             simp only[bY]
             (simp_all[toList_inj,aH]; done)
            ·
             simp only[bs] at hg25
             refine aE aA 4 rfl (aD (hK18 _ (aJ ?_)))
             refine⟨_,rfl,?_⟩
             refine aP ?_
             rw[Bool.eq_iff_iff]
             simp only[bY]
             (have hlt:e.at'<1099511627776:=(by omega); have hln:e.n<1099511627776:=(by omega); simp_all[toList_inj,aH,eq_comm (a:=(0:Int)) (b:=e.st),eq_comm (a:=(0:Int)) (b:=e.n)]; done)
           ·
            simp only[bs] at hg24
            refine aE aA 9 rfl (aD (hK18 _ (aJ ?_)))
            refine⟨_,rfl,?_⟩
            refine aP ?_
            rw[Bool.eq_iff_iff]
            simp only[bY]
            (simp_all[toList_inj,aH]; done)
          ·
           simp only[bs] at hg23
           refine aE aA 14 rfl (aD (hK18 _ (aJ ?_)))
           refine⟨_,rfl,?_⟩
           refine aP ?_
           rw[Bool.eq_iff_iff]
           simp only[bY]
           (simp_all[toList_inj,aH]; done)
         ·
          simp only[bs] at hg22
          refine aE aA 19 rfl (aD (hK18 _ (aJ ?_)))
          refine⟨_,rfl,?_⟩
          refine aP ?_
          rw[Bool.eq_iff_iff]
          simp only[bY]
          (simp_all[toList_inj,aH]; done)
        ·
         simp only[bs] at hc21
         refine aC (fun K19 hK19=>(aB (aE aA 2 rfl (aD (hK19 _ (cU rfl rfl (fun hc26=>?_) (fun hc26=>?_)))))))
         ·
          simp only[bs] at hc26
          refine aC (fun K20 hK20=>(aB (aE aA 2 rfl (aM hf rfl (aQ rfl rfl nI rfl (Nm.refRight_den _ (by assumption))) (aE aA 1 rfl (aV rfl rfl rfl (fun hg27=>?_) (fun hg27=>?_)))))))
          ·
           refine aG rfl (bQ rfl aPo bS rfl) ?_
           refine aE aA 4 rfl (aV rfl rfl rfl (fun hg28=>?_) (fun hg28=>?_))
           ·
            simp only[bs] at hg28
            refine aG rfl (bQ rfl aPm cE rfl) ?_
            refine aE aA 4 rfl (aV rfl rfl rfl (fun hg29=>?_) (fun hg29=>?_))
            ·
             simp only[bs] at hg29
             refine aG rfl (bQ rfl aPd cE rfl) ?_
             refine aE aA 4 rfl (aD (hK20 _ (aJ ?_)))
             refine⟨_,rfl,?_⟩
             refine aP ?_
             rw[Bool.eq_iff_iff]
             simp only[bY]
             (simp_all[toList_inj,aH]; done)
            ·
             simp only[bs] at hg29
             refine aE aA 4 rfl (aD (hK20 _ (aJ ?_)))
             refine⟨_,rfl,?_⟩
             refine aP ?_
             rw[Bool.eq_iff_iff]
             simp only[bY]
             (simp_all[toList_inj,aH]; done)
           ·
            simp only[bs] at hg28
            refine aE aA 9 rfl (aD (hK20 _ (aJ ?_)))
            refine⟨_,rfl,?_⟩
            refine aP ?_
            rw[Bool.eq_iff_iff]
            simp only[bY]
            (simp_all[toList_inj,aH]; done)
          ·
           simp only[bs] at hg27
           refine aE aA 14 rfl (aD (hK20 _ (aJ ?_)))
           refine⟨_,rfl,?_⟩
           refine aP ?_
           rw[Bool.eq_iff_iff]
           simp only[bY]
           (simp_all[toList_inj,aH]; done)
         ·
          simp only[bs] at hc26
          refine aN (hK5 _ (aC (fun K21 hK21=>(aB (aE aA 1 rfl (aD (hK21 _ (aJ ?_))))))))
          refine⟨_,rfl,?_⟩
          refine aP ?_
          rw[Bool.eq_iff_iff]
          simp only[bY]
          (simp_all[toList_inj,aH]; done)
 ·
  simp only[bs] at hg1
  refine aE aA 3 rfl (aD (hK3 _ (bU rfl (aC (fun K22 hK22=>(aB (aE aA 1 rfl (aD (hK22 _ (aJ ?_))))))))))
  refine⟨_,rfl,?_⟩
  refine aP ?_
  rw[Bool.eq_iff_iff]
  simp only[bY]
  (simp_all[toList_inj,aH]; omega)
end Go.Proofs.YthapfogcaklbbaaGreat
set_option linter.unusedVariables false
set_option linter.unusedSimpArgs false
namespace Go.Proofs.YthapfogcaklbbaaGreat
open Go Go.Abs
theorem aFo (s:Sta) (e:Ev) (hz:SzS 140737488355100 s) (hr:cR cM s.usr) (hr2:cR dN s.tmb) (he:bY e=true):DenX Tryz.prog 112 [.agg (dK s E0 E1),.agg (evC e)] [(E0,.buf 2 (s.usr.map usC)),(E1,.buf 2 (s.tmb.map tmC))] (fun r m=>r=.tup [.agg (dK (bA s e).1 E0 E1),.s (.int .i64 (bA s e).2)]∧m=[(E0,.buf 2 ((bA s e).1.usr.map usC)),(E1,.buf 2 ((bA s e).1.tmb.map tmC))]):=by
  rcases zV he with ⟨hk,_⟩ | ⟨hk,_⟩ | ⟨hk,_⟩ | ⟨hk,_⟩ | ⟨hk,_⟩ | ⟨hk,_⟩ | ⟨hk,_⟩
  · exact aLd s e hz hr hr2 hk
  · exact aLc s e hz hr hr2 hk
  · exact aLb s e hz hr hr2 hk
  · exact aLa s e hz hr hr2 hk
  · exact aK9 s e hz hr hr2 hk
  · exact aK8 s e hz hr hr2 hk
  · exact aK7 s e hz hr hr2 hk
theorem oI:∀ (w:World) (p:Hp) (v:Value),RelV w p (.agg [.s (.int .i64 0),.s (.int .i64 0),.s (.slice none 0 0),.s (.slice none 0 0),.s (.slice none 0 0),.s (.slice none 0 0)]) v→RelV w p (.agg (aY oE)) v:=by
  intro w p v h
  cases h with
  | agg _ vs hl h =>
    refine .agg _ _ hl fun i c v hc hv=>?_
    match i,hc with
    | 0,hc=>cases hc; exact h 0 _ v rfl hv
    | 1,hc=>cases hc; exact h 1 _ v rfl hv
    | 2,hc=>cases hc; have:=h 2 _ v rfl hv; cases this; exact .sln 4 none 0 (by simp [maxLen])
    | 3,hc=>cases hc; have:=h 3 _ v rfl hv; cases this; exact .sln 2 none 0 (by simp [maxLen])
    | 4,hc=>cases hc; have:=h 4 _ v rfl hv; cases this; exact .sln 4 none 0 (by simp [maxLen])
    | 5,hc=>cases hc; have:=h 5 _ v rfl hv; cases this; exact .sln 2 none 0 (by simp [maxLen])
theorem qI (s:Sta):(AV.agg (dK s E0 E1)).ren [(E0,222),(E1,223)]=.agg (dK s 222 223):=rfl
theorem aEd (s:Sta) (z:Int):(AV.tup [.agg (dK s E0 E1),.s (.int .i64 z)]).ren [(E0,222),(E1,223)]=.tup [.agg (dK s 222 223),.s (.int .i64 z)]:=rfl
theorem aF4 (s:Sta) (e:Ev) (hz:SzS 140737488355100 s) (hr:cR cM s.usr) (hr2:cR dN s.tmb) (hu:TS e.user) (ho:TS e.other) :Den Tryz.prog 56 [.agg (aY s),.agg (evC e)]  (·=.tup [.agg (aY (cQ s e).1),.s (.int .i64 (cQ s e).2)]):=by
 refine aU Tryz.func56 rfl (Nat.le_of_ble_eq_true rfl) (fun w0 A hf=>(aC (fun K1 hK1=>(aB (aM hf rfl (cP rfl rfl (lf rfl)) (aM hf rfl (cP rfl rfl (lf rfl)) (bJ hf rfl rfl rfl bC (aE aA 1 rfl (aD (hK1 _ (aC (fun K2 hK2=>(aO (aC (fun K3 hK3=>(aB ?_))))))))))))))))
 refine aE aA 1 rfl (aM hf rfl (aQ rfl rfl aHv rfl (aEa e hu ho)) (aE aA 2 rfl (aD (hK3 _ (cU rfl rfl (fun hc1=>?_) (fun hc1=>?_))))))
 ·
  simp only[bs] at hc1
  refine aC (fun K4 hK4=>(aB (aG rfl (cS rfl bC jU (l3 rfl) rfl) (cD (rN oI) (aT hf rfl rfl cF rfl rfl (l1 rfl) (l4 rfl) rfl (aE aA 1 rfl (aD (hK4 _ (aJ ?_)))))))))
  refine⟨_,rfl,?_⟩
  rw[show cQ s e=(oE,110) from by rw[cQ,if_neg (by simp_all)]]; rfl
 ·
  simp only[bs] at hc1
  refine aC (fun K5 hK5=>(aB (aE aA 6 rfl (aD (hK5 _ (cU rfl rfl (fun hc2=>?_) (fun hc2=>?_)))))))
  ·
   simp only[bs] at hc2
   refine aC (fun K6 hK6=>(aB (aG rfl (cS rfl bC jU (l3 rfl) rfl) (cD (rN oI) (aT hf rfl rfl cF rfl rfl (l1 rfl) (l4 rfl) rfl (aE aA 1 rfl (aD (hK6 _ (aJ ?_)))))))))
   refine⟨_,rfl,?_⟩
   rw[show cQ s e=(oE,111) from by rw[cQ,if_pos (by simp_all),if_pos (by first | assumption | omega)]]; rfl
  ·
   simp only[bs] at hc2
   refine aN (hK2 _ (aC (fun K7 hK7=>(eS bI ?_))))
   refine aR 1 #[true,true,true,true,true,true,true,true,true,false] ⟨35,[(3,.adr (evC e)),(4,.ref 4 0 0 0),(6,.ref 6 0 0 0),(26,.s (.int .i64 (bA s e).2))],[(6,.box (dK (bA s e).1 222 223)),(222,.buf 2 ((bA s e).1.usr.map usC)),(223,.buf 2 ((bA s e).1.tmb.map tmC)),(4,.box [.s (.int .i64 0),.s (.int .i64 0),.s (.slice none 0 0),.s (.slice none 0 0),.s (.slice none 0 0),.s (.slice none 0 0)])]⟩ ?_ (fun hD0=>?_)
   ·
    refine aI 9 [] (by kernel_rfl) ⟨?_,trivial⟩
    ·
     refine⟨_,rfl,rfl,(ao rfl (aE aA 1 rfl (aF (dC (by kernel_rfl) ?_))))⟩
     refine hK7 _ (aC (fun K8 hK8=>(aC (fun K9 hK9=>(aB (aE aA 2 rfl (aD (hK9 _ (cU rfl rfl (fun hc3=>?_) (fun hc3=>?_))))))))))
     ·
      simp only[bs] at hc3
      refine aC (fun K10 hK10=>(aB (aG rfl (cS rfl bC jU (l3 rfl) rfl) (cD (rN oI) (aE aA 1 rfl (aT hf rfl rfl cF rfl rfl (l1 rfl) (l4 rfl) rfl (aE aA 1 rfl (aD (hK10 _ (aJ ?_))))))))))
      refine⟨_,rfl,?_⟩
      rw[show cQ s e=(oE,(bA s e).2) from by rw[cQ,if_pos (by simp_all),if_neg (by omega),if_neg (by first | assumption | simp_all)]]; rfl
     ·
      simp only[bs] at hc3
      refine aN (hK8 _ (aC (fun K11 hK11=>(aB (aE aA 3 rfl (aT hf rfl rfl cE rfl rfl (l1 rfl) (l4 rfl) rfl (aD (hK11 _ (aC (fun K12 hK12=>(aB (aG rfl (bP (cs':=[.s (.int .i64 e.at'),.s (.int .i64 (bA s e).1.hor),.sl 4 ((bA s e).1.opn.map seC),.own 222 2 0 ((bA s e).1.usr.map usC).length,.sl 4 ((bA s e).1.sub.map enC),.own 223 2 0 ((bA s e).1.tmb.map tmC).length]) rfl lK cF rfl rfl rfl) (aT hf rfl rfl cF rfl rfl (l1 rfl) (l4 rfl) rfl (aE aA 1 rfl ?_))))))))))))))
      refine aD (hK12 _ (aJ ?_))
      refine⟨_,rfl,?_⟩
      rw[show cQ s e=({ (bA s e).1 with now:=e.at' },0) from by rw[cQ,if_pos (by simp_all),if_neg (by omega),if_pos (by first | assumption | simp_all)]]
      show AV.tup [.agg [_,_,_,AV.conv _ (.own 222 2 0 ((bA s e).1.usr.map usC).length),_,AV.conv _ (.own 223 2 0 ((bA s e).1.tmb.map tmC).length)],_]=_
      rw[cI (g:=222) rfl rfl,cI (g:=223) rfl rfl]; rfl
   refine aR 2 #[true,true,true,true,true,true,true,true,false,false] ⟨35,[(3,.adr (evC e)),(4,.ref 4 0 0 0),(6,.ref 6 0 0 0),(25,.agg (dK (bA s e).1 222 223)),(26,.s (.int .i64 (bA s e).2))],[(6,.box [.s (.int .i64 0),.s (.int .i64 0),.s (.slice none 0 0),.s (.slice none 0 0),.s (.slice none 0 0),.s (.slice none 0 0)]),(222,.buf 2 ((bA s e).1.usr.map usC)),(223,.buf 2 ((bA s e).1.tmb.map tmC)),(4,.box [.s (.int .i64 0),.s (.int .i64 0),.s (.slice none 0 0),.s (.slice none 0 0),.s (.slice none 0 0),.s (.slice none 0 0)])]⟩ ?_ (fun hD1=>?_)
   ·
    refine aI 8 [] (by kernel_rfl) ⟨?_,trivial⟩
    ·
     refine⟨_,rfl,rfl,(ao rfl (aT hf rfl rfl cF rfl rfl (l1 rfl) (l4 rfl) rfl (aF (aI 9 [] (by kernel_rfl) ⟨?_,trivial⟩))))⟩
     ·
      refine⟨_,rfl,rfl,(ao rfl (aE aA 1 rfl (aF (dC (by kernel_rfl) ?_))))⟩
      refine hK7 _ (aC (fun K13 hK13=>(aC (fun K14 hK14=>(aB (aE aA 2 rfl (aD (hK14 _ (cU rfl rfl (fun hc4=>?_) (fun hc4=>?_))))))))))
      ·
       simp only[bs] at hc4
       refine aC (fun K15 hK15=>(aB (aG rfl (cS rfl bC jU (l3 rfl) rfl) (cD (rN oI) (aE aA 1 rfl (aT hf rfl rfl cF rfl rfl (l1 rfl) (l4 rfl) rfl (aE aA 1 rfl (aD (hK15 _ (aJ ?_))))))))))
       refine⟨_,rfl,?_⟩
       rw[show cQ s e=(oE,(bA s e).2) from by rw[cQ,if_pos (by simp_all),if_neg (by omega),if_neg (by first | assumption | simp_all)]]; rfl
      ·
       simp only[bs] at hc4
       refine aN (hK13 _ (aC (fun K16 hK16=>(aB (aE aA 3 rfl (aT hf rfl rfl cE rfl rfl (l1 rfl) (l4 rfl) rfl (aD (hK16 _ (aC (fun K17 hK17=>(aB (aG rfl (bP (cs':=[.s (.int .i64 e.at'),.s (.int .i64 (bA s e).1.hor),.sl 4 ((bA s e).1.opn.map seC),.own 222 2 0 ((bA s e).1.usr.map usC).length,.sl 4 ((bA s e).1.sub.map enC),.own 223 2 0 ((bA s e).1.tmb.map tmC).length]) rfl lK cF rfl rfl rfl) (aT hf rfl rfl cF rfl rfl (l1 rfl) (l4 rfl) rfl (aE aA 1 rfl ?_))))))))))))))
       refine aD (hK17 _ (aJ ?_))
       refine⟨_,rfl,?_⟩
       rw[show cQ s e=({ (bA s e).1 with now:=e.at' },0) from by rw[cQ,if_pos (by simp_all),if_neg (by omega),if_pos (by first | assumption | simp_all)]]
       show AV.tup [.agg [_,_,_,AV.conv _ (.own 222 2 0 ((bA s e).1.usr.map usC).length),_,AV.conv _ (.own 223 2 0 ((bA s e).1.tmb.map tmC).length)],_]=_
       rw[cI (g:=222) rfl rfl,cI (g:=223) rfl rfl]; rfl
   refine aR 2 #[true,true,true,true,true,true,false,true,true,false] ⟨35,[(3,.adr (evC e)),(4,.ref 4 0 0 0),(6,.ref 6 0 0 0),(20,.tup [.agg (dK (bA s e).1 222 223),.s (.int .i64 (bA s e).2)])],[(6,.box (dK (bA s e).1 222 223)),(222,.buf 2 ((bA s e).1.usr.map usC)),(223,.buf 2 ((bA s e).1.tmb.map tmC)),(4,.box [.s (.int .i64 0),.s (.int .i64 0),.s (.slice none 0 0),.s (.slice none 0 0),.s (.slice none 0 0),.s (.slice none 0 0)])]⟩ ?_ (fun hD2=>?_)
   ·
    refine aI 6 [] (by kernel_rfl) ⟨?_,trivial⟩
    ·
     refine⟨_,rfl,rfl,(ao rfl (aE aA 1 rfl (aF (ag hD0 rfl rfl rfl))))⟩
   refine aR 3 #[true,true,true,true,true,true,true,false,false,false] ⟨35,[(3,.adr (evC e)),(4,.ref 4 0 0 0),(25,.agg (dK (bA s e).1 222 223)),(26,.s (.int .i64 (bA s e).2))],[(222,.buf 2 ((bA s e).1.usr.map usC)),(223,.buf 2 ((bA s e).1.tmb.map tmC)),(4,.box [.s (.int .i64 0),.s (.int .i64 0),.s (.slice none 0 0),.s (.slice none 0 0),.s (.slice none 0 0),.s (.slice none 0 0)])]⟩ ?_ (fun hD3=>?_)
   ·
    refine aI 7 [] (by kernel_rfl) ⟨?_,trivial⟩
    ·
     refine⟨_,rfl,rfl,(ao rfl (bJ hf rfl rfl rfl bC (aF (ag hD1 rfl rfl rfl))))⟩
   refine aR 3 #[true,true,true,true,true,true,false,true,false,false] ⟨35,[(3,.adr (evC e)),(4,.ref 4 0 0 0),(6,.ref 6 0 0 0),(20,.tup [.agg (dK (bA s e).1 222 223),.s (.int .i64 (bA s e).2)]),(25,.agg (dK (bA s e).1 222 223))],[(6,.box [.s (.int .i64 0),.s (.int .i64 0),.s (.slice none 0 0),.s (.slice none 0 0),.s (.slice none 0 0),.s (.slice none 0 0)]),(222,.buf 2 ((bA s e).1.usr.map usC)),(223,.buf 2 ((bA s e).1.tmb.map tmC)),(4,.box [.s (.int .i64 0),.s (.int .i64 0),.s (.slice none 0 0),.s (.slice none 0 0),.s (.slice none 0 0),.s (.slice none 0 0)])]⟩ ?_ (fun hD4=>?_)
   ·
    refine aI 6 [8] (by kernel_rfl) ⟨?_,?_,trivial⟩
    ·
     refine⟨_,rfl,rfl,(ao rfl (aE aA 1 rfl (aF (ag hD1 rfl rfl rfl))))⟩
    ·
     refine⟨_,rfl,rfl,(ao rfl (aT hf rfl rfl cF rfl rfl (l1 rfl) (l4 rfl) rfl (aF (ag hD2 rfl rfl rfl))))⟩
   refine aR 3 #[true,true,true,true,true,false,true,true,false,false] ⟨35,[(3,.adr (evC e)),(4,.ref 4 0 0 0),(6,.ref 6 0 0 0),(20,.tup [.agg (dK (bA s e).1 222 223),.s (.int .i64 (bA s e).2)]),(26,.s (.int .i64 (bA s e).2))],[(6,.box [.s (.int .i64 0),.s (.int .i64 0),.s (.slice none 0 0),.s (.slice none 0 0),.s (.slice none 0 0),.s (.slice none 0 0)]),(222,.buf 2 ((bA s e).1.usr.map usC)),(223,.buf 2 ((bA s e).1.tmb.map tmC)),(4,.box [.s (.int .i64 0),.s (.int .i64 0),.s (.slice none 0 0),.s (.slice none 0 0),.s (.slice none 0 0),.s (.slice none 0 0)])]⟩ ?_ (fun hD5=>?_)
   ·
    refine aI 5 [] (by kernel_rfl) ⟨?_,trivial⟩
    ·
     refine⟨_,rfl,rfl,(ao rfl (aE aA 1 rfl (aF (ag hD1 rfl rfl rfl))))⟩
   refine aR 4 #[true,true,true,true,true,true,false,false,false,false] ⟨35,[(3,.adr (evC e)),(4,.ref 4 0 0 0),(20,.tup [.agg (dK (bA s e).1 222 223),.s (.int .i64 (bA s e).2)]),(25,.agg (dK (bA s e).1 222 223))],[(222,.buf 2 ((bA s e).1.usr.map usC)),(223,.buf 2 ((bA s e).1.tmb.map tmC)),(4,.box [.s (.int .i64 0),.s (.int .i64 0),.s (.slice none 0 0),.s (.slice none 0 0),.s (.slice none 0 0),.s (.slice none 0 0)])]⟩ ?_ (fun hD6=>?_)
   ·
    refine aI 6 [7] (by kernel_rfl) ⟨?_,?_,trivial⟩
    ·
     refine⟨_,rfl,rfl,(ao rfl (aE aA 1 rfl (aF (ag hD3 rfl rfl rfl))))⟩
    ·
     refine⟨_,rfl,rfl,(ao rfl (bJ hf rfl rfl rfl bC (aF (ag hD4 rfl rfl rfl))))⟩
   refine aR 4 #[true,true,true,true,true,false,true,false,false,false] ⟨35,[(3,.adr (evC e)),(4,.ref 4 0 0 0),(20,.tup [.agg (dK (bA s e).1 222 223),.s (.int .i64 (bA s e).2)]),(26,.s (.int .i64 (bA s e).2))],[(222,.buf 2 ((bA s e).1.usr.map usC)),(223,.buf 2 ((bA s e).1.tmb.map tmC)),(4,.box [.s (.int .i64 0),.s (.int .i64 0),.s (.slice none 0 0),.s (.slice none 0 0),.s (.slice none 0 0),.s (.slice none 0 0)])]⟩ ?_ (fun hD7=>?_)
   ·
    refine aI 5 [7] (by kernel_rfl) ⟨?_,?_,trivial⟩
    ·
     refine⟨_,rfl,rfl,(ao rfl (aE aA 1 rfl (aF (ag hD3 rfl rfl rfl))))⟩
    ·
     refine⟨_,rfl,rfl,(ao rfl (bJ hf rfl rfl rfl bC (aF (ag hD5 rfl rfl rfl))))⟩
   refine aR 4 #[true,true,true,true,true,false,false,true,false,false] ⟨35,[(3,.adr (evC e)),(4,.ref 4 0 0 0),(6,.ref 6 0 0 0),(20,.tup [.agg (dK (bA s e).1 222 223),.s (.int .i64 (bA s e).2)])],[(6,.box [.s (.int .i64 0),.s (.int .i64 0),.s (.slice none 0 0),.s (.slice none 0 0),.s (.slice none 0 0),.s (.slice none 0 0)]),(222,.buf 2 ((bA s e).1.usr.map usC)),(223,.buf 2 ((bA s e).1.tmb.map tmC)),(4,.box [.s (.int .i64 0),.s (.int .i64 0),.s (.slice none 0 0),.s (.slice none 0 0),.s (.slice none 0 0),.s (.slice none 0 0)])]⟩ ?_ (fun hD8=>?_)
   ·
    refine aI 5 [6] (by kernel_rfl) ⟨?_,?_,trivial⟩
    ·
     refine⟨_,rfl,rfl,(ao rfl (aE aA 1 rfl (aF (ag hD4 rfl rfl rfl))))⟩
    ·
     refine⟨_,rfl,rfl,(ao rfl (aE aA 1 rfl (aF (ag hD5 rfl rfl rfl))))⟩
   refine aR 5 #[true,true,true,true,true,false,false,false,false,false] ⟨35,[(3,.adr (evC e)),(4,.ref 4 0 0 0),(20,.tup [.agg (dK (bA s e).1 222 223),.s (.int .i64 (bA s e).2)])],[(222,.buf 2 ((bA s e).1.usr.map usC)),(223,.buf 2 ((bA s e).1.tmb.map tmC)),(4,.box [.s (.int .i64 0),.s (.int .i64 0),.s (.slice none 0 0),.s (.slice none 0 0),.s (.slice none 0 0),.s (.slice none 0 0)])]⟩ ?_ (fun hD9=>?_)
   ·
    refine aI 5 [6,7] (by kernel_rfl) ⟨?_,?_,?_,trivial⟩
    ·
     refine⟨_,rfl,rfl,(ao rfl (aE aA 1 rfl (aF (ag hD6 rfl rfl rfl))))⟩
    ·
     refine⟨_,rfl,rfl,(ao rfl (aE aA 1 rfl (aF (ag hD7 rfl rfl rfl))))⟩
    ·
     refine⟨_,rfl,rfl,(ao rfl (bJ hf rfl rfl rfl bC (aF (ag hD8 rfl rfl rfl))))⟩
   refine aR 5 #[true,true,true,true,false,false,false,true,false,false] ⟨35,[(3,.adr (evC e)),(4,.ref 4 0 0 0),(6,.ref 6 0 0 0),(24,.tup [.agg (dK (bA s e).1 222 223),.s (.int .i64 (bA s e).2)])],[(6,.box [.s (.int .i64 0),.s (.int .i64 0),.s (.slice none 0 0),.s (.slice none 0 0),.s (.slice none 0 0),.s (.slice none 0 0)]),(222,.buf 2 ((bA s e).1.usr.map usC)),(223,.buf 2 ((bA s e).1.tmb.map tmC)),(4,.box [.s (.int .i64 0),.s (.int .i64 0),.s (.slice none 0 0),.s (.slice none 0 0),.s (.slice none 0 0),.s (.slice none 0 0)])]⟩ ?_ (fun hD10=>?_)
   ·
    refine aI 4 [] (by kernel_rfl) ⟨?_,trivial⟩
    ·
     refine⟨_,rfl,rfl,(ao rfl (aE aA 1 rfl (aF (ag hD8 rfl rfl rfl))))⟩
   refine aR 6 #[true,true,true,true,false,false,false,false,false,false] ⟨35,[(3,.adr (evC e)),(4,.ref 4 0 0 0),(24,.tup [.agg (dK (bA s e).1 222 223),.s (.int .i64 (bA s e).2)])],[(222,.buf 2 ((bA s e).1.usr.map usC)),(223,.buf 2 ((bA s e).1.tmb.map tmC)),(4,.box [.s (.int .i64 0),.s (.int .i64 0),.s (.slice none 0 0),.s (.slice none 0 0),.s (.slice none 0 0),.s (.slice none 0 0)])]⟩ ?_ (fun hD11=>?_)
   ·
    refine aI 4 [7] (by kernel_rfl) ⟨?_,?_,trivial⟩
    ·
     refine⟨_,rfl,rfl,(ao rfl (aE aA 1 rfl (aF (ag hD9 rfl rfl rfl))))⟩
    ·
     refine⟨_,rfl,rfl,(ao rfl (bJ hf rfl rfl rfl bC (aF (ag hD10 rfl rfl rfl))))⟩
   refine aR 6 #[true,true,true,false,false,false,false,true,false,false] ⟨35,[(3,.adr (evC e)),(4,.ref 4 0 0 0),(6,.ref 6 0 0 0),(22,.agg (dK s 222 223)),(23,.agg (evC e))],[(6,.box [.s (.int .i64 0),.s (.int .i64 0),.s (.slice none 0 0),.s (.slice none 0 0),.s (.slice none 0 0),.s (.slice none 0 0)]),(222,.buf 2 (s.usr.map usC)),(223,.buf 2 (s.tmb.map tmC)),(4,.box [.s (.int .i64 0),.s (.int .i64 0),.s (.slice none 0 0),.s (.slice none 0 0),.s (.slice none 0 0),.s (.slice none 0 0)])]⟩ ?_ (fun hD12=>?_)
   ·
    refine aI 3 [] (by kernel_rfl) ⟨?_,trivial⟩
    ·
     refine⟨_,rfl,rfl,(ao rfl (fZ hf [(E0,222),(E1,223)] [(E0,222),(E1,223)] rfl rfl rfl rfl rfl rfl (by decide) (by decide) (by decide) rfl wP (aFo s e hz hr hr2 (by simp_all)) ?_))⟩
     rintro r m1 ⟨rfl,rfl⟩
     rw[aEd]
     refine cD (iX [3,4,6,24] rfl) (aF (ag hD10 rfl rfl rfl))
   refine aR 7 #[true,true,true,false,false,false,false,false,false,false] ⟨35,[(3,.adr (evC e)),(4,.ref 4 0 0 0),(22,.agg (dK s 222 223)),(23,.agg (evC e))],[(222,.buf 2 (s.usr.map usC)),(223,.buf 2 (s.tmb.map tmC)),(4,.box [.s (.int .i64 0),.s (.int .i64 0),.s (.slice none 0 0),.s (.slice none 0 0),.s (.slice none 0 0),.s (.slice none 0 0)])]⟩ ?_ (fun hD13=>?_)
   ·
    refine aI 3 [7] (by kernel_rfl) ⟨?_,?_,trivial⟩
    ·
     refine⟨_,rfl,rfl,(ao rfl (fZ hf [(E0,222),(E1,223)] [(E0,222),(E1,223)] rfl rfl rfl rfl rfl rfl (by decide) (by decide) (by decide) rfl wP (aFo s e hz hr hr2 (by simp_all)) ?_))⟩
     rintro r m1 ⟨rfl,rfl⟩
     rw[aEd]
     refine cD (iX [3,4,24] rfl) (aF (ag hD11 rfl rfl rfl))
    ·
     refine⟨_,rfl,rfl,(ao rfl (bJ hf rfl rfl rfl bC (aF (ag hD12 rfl rfl rfl))))⟩
   refine aR 7 #[true,true,false,false,false,false,false,true,false,false] ⟨35,[(3,.adr (evC e)),(4,.ref 4 0 0 0),(6,.ref 6 0 0 0),(22,.agg (dK s 222 223))],[(6,.box [.s (.int .i64 0),.s (.int .i64 0),.s (.slice none 0 0),.s (.slice none 0 0),.s (.slice none 0 0),.s (.slice none 0 0)]),(222,.buf 2 (s.usr.map usC)),(223,.buf 2 (s.tmb.map tmC)),(4,.box [.s (.int .i64 0),.s (.int .i64 0),.s (.slice none 0 0),.s (.slice none 0 0),.s (.slice none 0 0),.s (.slice none 0 0)])]⟩ ?_ (fun hD14=>?_)
   ·
    refine aI 2 [] (by kernel_rfl) ⟨?_,trivial⟩
    ·
     refine⟨_,rfl,rfl,(ao rfl (aE aA 1 rfl (aF (ag hD12 rfl rfl rfl))))⟩
   refine aR 7 #[true,false,true,false,false,false,false,true,false,false] ⟨35,[(3,.adr (evC e)),(4,.ref 4 0 0 0),(6,.ref 6 0 0 0),(21,.agg (aY s)),(23,.agg (evC e))],[(6,.box [.s (.int .i64 0),.s (.int .i64 0),.s (.slice none 0 0),.s (.slice none 0 0),.s (.slice none 0 0),.s (.slice none 0 0)]),(4,.box [.s (.int .i64 0),.s (.int .i64 0),.s (.slice none 0 0),.s (.slice none 0 0),.s (.slice none 0 0),.s (.slice none 0 0)])]⟩ ?_ (fun hD15=>?_)
   ·
    refine aI 1 [] (by kernel_rfl) ⟨?_,trivial⟩
    ·
     refine⟨_,rfl,rfl,(ao rfl (fZ hf [] [(E0,222),(E1,223)] rfl rfl rfl rfl rfl rfl (by decide) (by decide) (by decide) rfl nH (lI s (hz.mono (by omega))) ?_))⟩
     rintro r m1 ⟨rfl,rfl⟩
     rw[qI]
     refine cD (iX [3,4,6,22,23] rfl) (aF (ag hD12 rfl rfl rfl))
   refine aR 8 #[true,true,false,false,false,false,false,false,false,false] ⟨35,[(3,.adr (evC e)),(4,.ref 4 0 0 0),(22,.agg (dK s 222 223))],[(222,.buf 2 (s.usr.map usC)),(223,.buf 2 (s.tmb.map tmC)),(4,.box [.s (.int .i64 0),.s (.int .i64 0),.s (.slice none 0 0),.s (.slice none 0 0),.s (.slice none 0 0),.s (.slice none 0 0)])]⟩ ?_ (fun hD16=>?_)
   ·
    refine aI 2 [7] (by kernel_rfl) ⟨?_,?_,trivial⟩
    ·
     refine⟨_,rfl,rfl,(ao rfl (aE aA 1 rfl (aF (ag hD13 rfl rfl rfl))))⟩
    ·
     refine⟨_,rfl,rfl,(ao rfl (bJ hf rfl rfl rfl bC (aF (ag hD14 rfl rfl rfl))))⟩
   refine aR 8 #[true,false,true,false,false,false,false,false,false,false] ⟨35,[(3,.adr (evC e)),(4,.ref 4 0 0 0),(21,.agg (aY s)),(23,.agg (evC e))],[(4,.box [.s (.int .i64 0),.s (.int .i64 0),.s (.slice none 0 0),.s (.slice none 0 0),.s (.slice none 0 0),.s (.slice none 0 0)])]⟩ ?_ (fun hD17=>?_)
   ·
    refine aI 1 [7] (by kernel_rfl) ⟨?_,?_,trivial⟩
    ·
     refine⟨_,rfl,rfl,(ao rfl (fZ hf [] [(E0,222),(E1,223)] rfl rfl rfl rfl rfl rfl (by decide) (by decide) (by decide) rfl nH (lI s (hz.mono (by omega))) ?_))⟩
     rintro r m1 ⟨rfl,rfl⟩
     rw[qI]
     refine cD (iX [3,4,22,23] rfl) (aF (ag hD13 rfl rfl rfl))
    ·
     refine⟨_,rfl,rfl,(ao rfl (bJ hf rfl rfl rfl bC (aF (ag hD15 rfl rfl rfl))))⟩
   refine aR 8 #[true,false,false,false,false,false,false,true,false,false] ⟨35,[(3,.adr (evC e)),(4,.ref 4 0 0 0),(6,.ref 6 0 0 0),(21,.agg (aY s))],[(6,.box [.s (.int .i64 0),.s (.int .i64 0),.s (.slice none 0 0),.s (.slice none 0 0),.s (.slice none 0 0),.s (.slice none 0 0)]),(4,.box [.s (.int .i64 0),.s (.int .i64 0),.s (.slice none 0 0),.s (.slice none 0 0),.s (.slice none 0 0),.s (.slice none 0 0)])]⟩ ?_ (fun hD18=>?_)
   ·
    refine aI 1 [2] (by kernel_rfl) ⟨?_,?_,trivial⟩
    ·
     refine⟨_,rfl,rfl,(ao rfl (fZ hf [] [(E0,222),(E1,223)] rfl rfl rfl rfl rfl rfl (by decide) (by decide) (by decide) rfl nH (lI s (hz.mono (by omega))) ?_))⟩
     rintro r m1 ⟨rfl,rfl⟩
     rw[qI]
     refine cD (iX [3,4,6,22] rfl) (aF (ag hD14 rfl rfl rfl))
    ·
     refine⟨_,rfl,rfl,(ao rfl (aE aA 1 rfl (aF (ag hD15 rfl rfl rfl))))⟩
   refine aR 8 #[false,false,true,false,false,false,false,true,false,false] ⟨35,[(2,.adr (aY s)),(3,.adr (evC e)),(4,.ref 4 0 0 0),(6,.ref 6 0 0 0),(23,.agg (evC e))],[(6,.box [.s (.int .i64 0),.s (.int .i64 0),.s (.slice none 0 0),.s (.slice none 0 0),.s (.slice none 0 0),.s (.slice none 0 0)]),(4,.box [.s (.int .i64 0),.s (.int .i64 0),.s (.slice none 0 0),.s (.slice none 0 0),.s (.slice none 0 0),.s (.slice none 0 0)])]⟩ ?_ (fun hD19=>?_)
   ·
    refine aI 0 [] (by kernel_rfl) ⟨?_,trivial⟩
    ·
     refine⟨_,rfl,rfl,(ao rfl (aE aA 1 rfl (aF (ag hD15 rfl rfl rfl))))⟩
   refine aR 9 #[true,false,false,false,false,false,false,false,false,false] ⟨35,[(3,.adr (evC e)),(4,.ref 4 0 0 0),(21,.agg (aY s))],[(4,.box [.s (.int .i64 0),.s (.int .i64 0),.s (.slice none 0 0),.s (.slice none 0 0),.s (.slice none 0 0),.s (.slice none 0 0)])]⟩ ?_ (fun hD20=>?_)
   ·
    refine aI 1 [2,7] (by kernel_rfl) ⟨?_,?_,?_,trivial⟩
    ·
     refine⟨_,rfl,rfl,(ao rfl (fZ hf [] [(E0,222),(E1,223)] rfl rfl rfl rfl rfl rfl (by decide) (by decide) (by decide) rfl nH (lI s (hz.mono (by omega))) ?_))⟩
     rintro r m1 ⟨rfl,rfl⟩
     rw[qI]
     refine cD (iX [3,4,22] rfl) (aF (ag hD16 rfl rfl rfl))
    ·
     refine⟨_,rfl,rfl,(ao rfl (aE aA 1 rfl (aF (ag hD17 rfl rfl rfl))))⟩
    ·
     refine⟨_,rfl,rfl,(ao rfl (bJ hf rfl rfl rfl bC (aF (ag hD18 rfl rfl rfl))))⟩
   refine aR 9 #[false,false,true,false,false,false,false,false,false,false] ⟨35,[(2,.adr (aY s)),(3,.adr (evC e)),(4,.ref 4 0 0 0),(23,.agg (evC e))],[(4,.box [.s (.int .i64 0),.s (.int .i64 0),.s (.slice none 0 0),.s (.slice none 0 0),.s (.slice none 0 0),.s (.slice none 0 0)])]⟩ ?_ (fun hD21=>?_)
   ·
    refine aI 0 [7] (by kernel_rfl) ⟨?_,?_,trivial⟩
    ·
     refine⟨_,rfl,rfl,(ao rfl (aE aA 1 rfl (aF (ag hD17 rfl rfl rfl))))⟩
    ·
     refine⟨_,rfl,rfl,(ao rfl (bJ hf rfl rfl rfl bC (aF (ag hD19 rfl rfl rfl))))⟩
   refine aR 9 #[false,false,false,false,false,false,false,true,false,false] ⟨35,[(2,.adr (aY s)),(3,.adr (evC e)),(4,.ref 4 0 0 0),(6,.ref 6 0 0 0)],[(6,.box [.s (.int .i64 0),.s (.int .i64 0),.s (.slice none 0 0),.s (.slice none 0 0),.s (.slice none 0 0),.s (.slice none 0 0)]),(4,.box [.s (.int .i64 0),.s (.int .i64 0),.s (.slice none 0 0),.s (.slice none 0 0),.s (.slice none 0 0),.s (.slice none 0 0)])]⟩ ?_ (fun hD22=>?_)
   ·
    refine aI 0 [2] (by kernel_rfl) ⟨?_,?_,trivial⟩
    ·
     refine⟨_,rfl,rfl,(ao rfl (aE aA 1 rfl (aF (ag hD18 rfl rfl rfl))))⟩
    ·
     refine⟨_,rfl,rfl,(ao rfl (aE aA 1 rfl (aF (ag hD19 rfl rfl rfl))))⟩
   refine kZ (aCu (sl':=[(2,.adr (aY s)),(3,.adr (evC e)),(4,.ref 4 0 0 0)]) (m':=[(4,.box [.s (.int .i64 0),.s (.int .i64 0),.s (.slice none 0 0),.s (.slice none 0 0),.s (.slice none 0 0),.s (.slice none 0 0)])]) rfl rfl rfl) (aI 0 [2,7] (by kernel_rfl) ⟨?_,?_,?_,trivial⟩)
   ·
    refine⟨_,rfl,rfl,(ao rfl (aE aA 1 rfl (aF (ag hD20 rfl rfl rfl))))⟩
   ·
    refine⟨_,rfl,rfl,(ao rfl (aE aA 1 rfl (aF (ag hD21 rfl rfl rfl))))⟩
   ·
    refine⟨_,rfl,rfl,(ao rfl (bJ hf rfl rfl rfl bC (aF (ag hD22 rfl rfl rfl))))⟩
end Go.Proofs.YthapfogcaklbbaaGreat
set_option linter.unusedVariables false
set_option linter.unusedSimpArgs false
namespace Go.Abs
open Go
section
variable {α:Type} {key:α→ByteArray}
def aPf (key:α→ByteArray) (u:ByteArray) (y:α):Bool→List α→List α
  | d,[]=>if d=true then [] else [y]
  | d,x::l=>if d=false∧dL u (key x)≤0 then y::(if key x=u then aPf key u y true l else x::aPf key u y true l) else (if key x=u then aPf key u y d l else x::aPf key u y d l)
theorem aPu (u:ByteArray) (y:α):∀ (l:List α),aPf key u y true l=l.filter fun x=>!isK key u x
  | []=>by simp [aPf]
  | x::l=>by
    rw[aPf,if_neg (by simp),aPu u y l,List.filter_cons]
    by_cases h:key x=u
    · simp [isK,h]
    · simp [isK,h]
theorem aQy (u:ByteArray) (y:α) (hy:key y=u):∀ (l:List α) (z:α),z∈aPf key u y false l↔(z∈l∧key z≠u)∨z=y
  | [],z=>by simp [aPf]
  | x::l,z=>by
    have ht:z∈aPf key u y true l↔z∈l∧key z≠u:=by rw[aPu,List.mem_filter]; simp [isK]
    have ih:=aQy u y hy l z
    rw[aPf]
    split
    · split
      · rename_i h
        rw[List.mem_cons,ht,List.mem_cons]
        constructor
        · rintro (e | ⟨a,b⟩)
          · exact .inr e
          · exact .inl ⟨.inr a,b⟩
        · rintro (⟨a | a,b⟩ | e)
          · subst a; exact absurd h b
          · exact .inr ⟨a,b⟩
          · exact .inl e
      · rename_i h
        rw[List.mem_cons,List.mem_cons,ht,List.mem_cons]
        constructor
        · rintro (e | e | ⟨a,b⟩)
          · exact .inr e
          · subst e; exact .inl ⟨.inl rfl,h⟩
          · exact .inl ⟨.inr a,b⟩
        · rintro (⟨a | a,b⟩ | e)
          · exact .inr (.inl a)
          · exact .inr (.inr ⟨a,b⟩)
          · exact .inl e
    · split
      · rename_i h
        rw[ih,List.mem_cons]
        constructor
        · rintro (⟨a,b⟩ | e)
          · exact .inl ⟨.inr a,b⟩
          · exact .inr e
        · rintro (⟨a | a,b⟩ | e)
          · subst a; exact absurd h b
          · exact .inl ⟨a,b⟩
          · exact .inr e
      · rename_i h
        rw[List.mem_cons,ih,List.mem_cons]
        constructor
        · rintro (e | ⟨a,b⟩ | e)
          · subst e; exact .inl ⟨.inl rfl,h⟩
          · exact .inl ⟨.inr a,b⟩
          · exact .inr e
        · rintro (⟨a | a,b⟩ | e)
          · exact .inl a
          · exact .inr (.inl ⟨a,b⟩)
          · exact .inr (.inr e)
theorem aRy (u:ByteArray) (y:α) (hy:key y=u):∀ (l:List α),cR key l→cR key (aPf key u y false l)
  | [],_=>by simp [aPf,cR]
  | x::l,h=>by
    obtain ⟨h1,h2⟩:=List.pairwise_cons.1 h
    have ih:=aRy u y hy l h2
    have hf:cR key (aPf key u y true l):=by rw[aPu]; exact kO h2 _
    have hm:∀ z∈aPf key u y true l,z∈l:=fun z hz=>by rw[aPu] at hz; exact(List.mem_filter.1 hz).1
    rw[aPf]
    split
    · rename_i hc
      split
      · rename_i he
        exact List.pairwise_cons.2 ⟨fun z hz=>by rw[hy,← he]; exact h1 z (hm z hz),hf⟩
      · rename_i hne
        have hlt:dL u (key x)<0:=by
          have:dL u (key x)≠0:=fun e=>hne ((pR _ _).1 e).symm
          omega
        refine List.pairwise_cons.2 ⟨fun z hz=>?_,List.pairwise_cons.2 ⟨fun z hz=>h1 z (hm z hz),hf⟩⟩
        rw[hy]
        rcases List.mem_cons.1 hz with rfl | hz
        · exact hlt
        · exact fC hlt (h1 z (hm z hz))
    · rename_i hc
      split
      · exact ih
      · rename_i hne
        refine List.pairwise_cons.2 ⟨fun z hz=>?_,ih⟩
        rcases (aQy u y hy l z).1 hz with ⟨a,_⟩ | rfl
        · exact h1 z a
        · rw[hy]
          have:=mI u (key x)
          have:dL u (key x)≠0:=fun e=>hne ((pR _ _).1 e).symm
          simp only[true_and] at hc
          omega
theorem aRx {u:ByteArray} {y:α} (hy:key y=u) {l:List α} (h:cR key l):aPf key u y false l=wV key l u [y] :=
  sM (key:=key) (aRy u y hy l h) (tI h (by simpa using hy) (by simp)) fun z=>by
    rw[aQy u y hy,kC,List.mem_singleton]
theorem aSx {u:ByteArray} {y:α} {l:List α} (h:cR key l):aPf key u y true l=wV key l u []:=by
  rw[aPu,aD3 h]
variable {u:ByteArray} {y:α} {l:List α} {k:Nat}
theorem aS3 {out:List α} {X:List α} (e:X=out++aPf key u y false (l.drop k)) (hk:k<l.length) (h:dL u (key l[k])<0):X=(out++[y]++[l[k]])++aPf key u y true (l.drop (k+1)):=by
  rw[e,List.drop_eq_getElem_cons hk,aPf,if_pos ⟨rfl,by omega⟩,if_neg (fun e=>by rw[e,nF] at h; omega)]
  simp
theorem aSd {out:List α} {X:List α} (e:X=out++aPf key u y false (l.drop k)) (hk:k<l.length) (h:key l[k]=u):X=(out++[y])++aPf key u y true (l.drop (k+1)):=by
  rw[e,List.drop_eq_getElem_cons hk,aPf,if_pos ⟨rfl,by rw[h,nF]; omega⟩,if_pos h]
  simp
theorem aRw {out:List α} {X:List α} (e:X=out++aPf key u y true (l.drop k)) (hk:k<l.length) (h:key l[k]=u):X=out++aPf key u y true (l.drop (k+1)):=by
  rw[e,List.drop_eq_getElem_cons hk,aPf,if_neg (by simp),if_pos h]
theorem aQe {out:List α} {X:List α} {d:Bool} (e:X=out++aPf key u y d (l.drop k)) (hk:k<l.length) (h:key l[k]≠u) (h2:d=false→¬ dL u (key l[k])<0):X=(out++[l[k]])++aPf key u y d (l.drop (k+1)):=by
  rw[e,List.drop_eq_getElem_cons hk,aPf,if_neg (fun⟨a,b⟩=>by
    have:=h2 a
    have:dL u (key l[k])≠0:=fun e=>h ((pR _ _).1 e).symm
    omega),if_neg h]
  simp
theorem aQu {out:List α} {X:List α} {d:Bool} (e:X=out++aPf key u y d (l.drop k)) (hk:l.length≤k):X=out++(if d=true then [] else [y]):=by
  rw[e,List.drop_eq_nil_of_le hk]; simp [aPf]
end
theorem put_set {l:List Us} {u:ByteArray} {ys:List bD} (h:cR cM l):aPf cM u (u,ys) (decide (ys=[])) l=pK l u ys:=by
  unfold pK qF
  by_cases e:ys=[]
  · rw[if_pos e,decide_eq_true e,aSx h]
  · rw[if_neg e,decide_eq_false e,aRx (u:=u) (y:=(u,ys)) rfl h]
theorem aSu {l:List Tm} {u:ByteArray} {t:Int} (h:cR dN l):aPf dN u (u,t) false l=qA l u t:=aRx (u:=u) (y:=(u,t)) rfl h
theorem aOz {l:List Us} {u:ByteArray} {k:Nat} (hk:k<l.length) (h:∀ (j:Nat) (hj:j<l.length),j<k→isK cM u l[j]=false) (he:l[k].1=u):ofU l u=l[k].2:=by
  rw[ofU,List.find?_eq_some_iff_getElem.2 ⟨by simp [isK,he],k,hk,rfl,fun j hj=>by have:=h j (by omega) hj; simpa using this⟩]; rfl
theorem ofU_no {l:List Us} {u:ByteArray} (h:∀ (j:Nat) (hj:j<l.length),isK cM u l[j]=false):ofU l u=[]:=by
  rw[ofU,List.find?_eq_none.2 fun x hx=>by obtain ⟨j,hj,rfl⟩:=List.getElem_of_mem hx; have:=h j hj; simpa using this]; rfl
theorem len_nil {ys:List bD}:((((ys.map stC).length:Nat):Int) == 0)=decide (ys=[]):=by
  cases ys <;> simp <;> omega
structure TsS (s:Sta):Prop where
  o:∀ e∈s.opn,TS e.1.2
  u:∀ x∈s.usr,TS x.1
  b:∀ e∈s.sub,TS e.1.1∧TS e.1.2
  t:∀ x∈s.tmb,TS x.1
theorem aRt {s:Sta} (h:RightP s):TsS s:=⟨fun e he=>oL (aKk h he).1,fun x hx=>oL (h.unm x hx),fun e he=>by
  have:=((qG _).1 h.sub).1 e he
  simp only[okE,Bool.and_eq_true,decide_eq_true_eq] at this
  exact⟨oL this.2.1,oL this.2.2⟩,fun x hx=>oL (h.tnm x hx)⟩
theorem eG {s:Sta} (h:RightP s→False):false=mN s:=by
  cases e:mN s with
  | false=>rfl
  | true=>exact(h (oQ.1 e)).elim
theorem aKj {s:Sta} (h:RightP s):true=mN s:=(oQ.2 h).symm
theorem aJr {α:Type} {key:α→ByteArray} {l:List α} (h:cR key l) {k:Nat} (h0:0<k) (hk:k<l.length):dL (key (l[k - 1]'(by omega))) (key l[k])<0 :=
  List.pairwise_iff_getElem.1 h (k - 1) k (by omega) hk (by omega)
theorem aJq {α:Type} {key:α→ByteArray}:∀ {l:List α},(∀ (k:Nat) (h0:0<k) (hk:k<l.length),dL (key (l[k - 1]'(by omega))) (key l[k])<0)→cR key l
  | [],_=>List.Pairwise.nil
  | [x],_=>List.pairwise_singleton _ _
  | x::y::l,h=>by
    have ih:cR key (y::l):=aJq fun k h0 hk=>by
      have:=h (k+1) (by omega) (by simp only[List.length_cons] at hk ⊢; omega)
      obtain ⟨j,rfl⟩:∃ j,k=j+1:=⟨k - 1,by omega⟩
      simpa using this
    have h1:dL (key x) (key y)<0:=by have:=h 1 (by omega) (by simp); simpa using this
    refine List.pairwise_cons.2 ⟨fun z hz=>?_,ih⟩
    rcases List.mem_cons.1 hz with rfl | hz
    · exact h1
    · exact fC h1 ((List.pairwise_cons.1 ih).1 z hz)
theorem aF7 {α:Type} {p:α→Prop} {l:List α} {k:Nat} (hk:l.length≤k) (h:∀ (j:Nat) (hj:j<l.length),j<k→p l[j]):∀ x∈l,p x:=fun x hx=>by
  obtain ⟨j,hj,rfl⟩:=List.getElem_of_mem hx
  exact h j hj (by omega)
theorem kM {n:Nat} {p:(j:Nat)→j<n→Prop} {k:Nat} (h:∀ (j:Nat) (hj:j<n),j<k→p j hj) (hk:k<n) (hp:p k hk):∀ (j:Nat) (hj:j<n),j<k+1→p j hj:=fun j hj hjk=>by
  by_cases e:j=k
  · subst e; exact hp
  · exact h j hj (by omega)
end Go.Abs
