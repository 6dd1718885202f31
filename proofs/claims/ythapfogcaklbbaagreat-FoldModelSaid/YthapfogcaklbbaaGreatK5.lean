import Derived.WalkKit
import Derived.WalkSpells
import Derived.WalkLawsBesides
import Derived.Deep.LoopGhost
import Derived.ChangeKeysEq
import Derived.Still
import Derived.Lib.AppendZeros
import Derived.Laws.StructEq
import Derived.OpenShut
import Derived.Scope
import Derived.Shelf.SlSortCmp.Kit1
import Derived.Shelf.SlSortCmp.InsertionK
import Derived.Lib.SlicesCompact
import Derived.ProofKit
import Derived.ChangeSame
import Derived.Carry
import Derived.SliceStrings
import Derived.ChangeMaps5
import Derived.Deep.Slices
import Derived.Test.YthapfogcaklbbaaGreatRows
import Derived.Shelf.Abstract
import Derived.Deep.RegionLaw
import Derived.Lib.Walk
import Derived.Lib.Overlaps
import Derived.Lib.AppendZerosOnto
import Derived.Laws.CopyRow
import Derived.Shelf.SlSortCmp.WholeK
import Derived.Shelf.SlSortCmp.Whole1
import Derived.Shelf.SlSortCmp.NoneTotal
import Derived.Test.YthapfogcaklbbaaGreatK1
import Derived.Test.YthapfogcaklbbaaGreatK2
import Derived.Test.YthapfogcaklbbaaGreatK3
import Derived.Test.YthapfogcaklbbaaGreatK4
set_option maxRecDepth 20000
set_option maxHeartbeats 16000000
set_option linter.unusedVariables false
set_option linter.unusedSimpArgs false
namespace Go.Proofs.YthapfogcaklbbaaGreat
open Go Go.Abs
theorem aOx (s:Sta) (u:ByteArray) (hl:s.usr.length≤9223372036854775807) :Den Tryz.prog 94 [.agg (aY s),.s (.string u)]  (·=.sl 4 ((ofU s.usr u).map stC)):=by
 refine aU Tryz.func94 rfl (Nat.le_of_ble_eq_true rfl) (fun w0 A hf=>(aC (fun K1 hK1=>(aB (aM hf rfl (cP rfl rfl (lf rfl)) (aG rfl (bH) (aD (hK1 _ (aC (fun K2 hK2=>(aC (fun K3 hK3=>(aB (aE aA 1 rfl (aD (hK3 _ ?_))))))))))))))))
 refine aO (bR (ι:=Nat) (fun k=>⟨27,[(1,.s (.string u)),(2,.adr (aY s)),(5,.s (.int .i64 (k:Nat)))],[]⟩) (fun k=>k≤s.usr.length∧∀ (j:Nat) (hj:j<s.usr.length),j<k→isK cM u s.usr[j]=false) (fun k=>s.usr.length - k) 0 ?_ ?_ ?_)
 · exact⟨Nat.zero_le _,by omega⟩
 · exact cX rfl
 ·
  rintro k hC
  obtain ⟨h1,h2⟩:=hC
  refine aC (fun K4 hK4=>(aC (fun K5 hK5=>(aB (aE aA 5 rfl (aD (hK5 _ (aK rfl (fun hc1=>?_) (fun hc1=>?_)))))))))
  ·
   simp only[bs] at hc1
   refine aN (hK4 _ (aC (fun K6 hK6=>(aO (aC (fun K7 hK7=>(aB (aE aA 3 rfl ?_))))))))
   refine aG rfl (bB rfl rfl uN mJ (by first | exact ixm (by omega) | assumption | exact⟨by decide,rfl⟩)) ?_
   refine aE aA 4 rfl (aD (hK7 _ (aK rfl (fun hc2=>?_) (fun hc2=>?_))))
   ·
    simp only[bs] at hc2
    refine aC (fun K8 hK8=>(aB (aE aA 3 rfl ?_)))
    refine aG rfl (bB rfl rfl uN mJ (by first | exact ixm (by omega) | assumption | exact⟨by decide,rfl⟩)) ?_
    refine aE aA 3 rfl (aD (hK8 _ (aJ ?_)))
    refine⟨_,rfl,?_⟩
    rw[aOz (by omega) h2 (by simp_all[toList_inj])]; rfl
   ·
    simp only[bs] at hc2
    refine aN (hK6 _ (aB (aE aA 1 rfl ?_)))
    refine aG rfl (bO rfl rfl (by omega) (by omega)) ?_
    refine aE aA 1 rfl (aD ?_)
    exact⟨k+1,⟨by omega,kM h2 (by omega) (by simp_all[isK,toList_inj])⟩,by omega,cX rfl⟩
  ·
   simp only[bs] at hc1
   refine aW (hK2 _ (aC (fun K9 hK9=>(aB (aG rfl (yZ (k:=4)) (aD (hK9 _ (aJ ?_))))))))
   refine⟨_,rfl,?_⟩
   rw[ofU_no fun j hj=>h2 j hj (by omega)]; rfl
theorem aSc (l:List Us) (u:ByteArray) (ys:List bD) (hl:l.length*40+40≤140737488355328) (hu:TS u) (ht:∀ x∈l,TS x.1) :Den Tryz.prog 154 [.sl 2 (l.map usC),.s (.string u),.sl 4 (ys.map stC)]  (·=.sl 2 ((aPf cM u (u,ys) (decide (ys=[])) l).map usC)):=by
 refine aU Tryz.func154 rfl (Nat.le_of_ble_eq_true rfl) (fun w0 A hf=>(aC (fun K1 hK1=>(aB (aG rfl (bH) (aD (hK1 _ (aC (fun K2 hK2=>(aB (oJ hf 2 rfl rfl rfl (aD (hK2 _ (aC (fun K3 hK3=>(aB ?_))))))))))))))))
 refine aE aA 4 rfl (aD (hK3 _ (aC (fun K4 hK4=>(aC (fun K5 hK5=>(aB (aE aA 1 rfl (aD (hK5 _ (aO (bR (ι:=Nat×Bool×List Us) (fun(⟨k,d,out⟩:Nat×Bool×List Us)=>⟨77,[(0,.sl 2 (l.map usC)),(1,.s (.string u)),(2,.sl 4 (ys.map stC)),(7,.own 7 2 0 out.length),(8,.s (.bool d)),(9,.s (.int .i64 (k:Nat)))],[(7,.buf 2 (out.map usC))]⟩) (fun(⟨k,d,out⟩:Nat×Bool×List Us)=>k≤l.length∧aPf cM u (u,ys) (decide (ys=[])) l=out++aPf cM u (u,ys) d (l.drop k)∧out.length≤k+d.toNat) (fun(⟨k,d,out⟩:Nat×Bool×List Us)=>l.length - k) (0,(decide (ys=[])),[]) ?_ ?_ ?_))))))))))))
 · exact⟨Nat.zero_le _,rfl,Nat.zero_le _⟩
 · exact cK ⟨rfl,rfl,rfl,rfl,(by show some (AV.s (.bool ((((ys.map stC).length:Nat):Int) == 0)))=_; rw[len_nil]),rfl,trivial⟩ rfl
 ·
  rintro ⟨k,d,out⟩ hC
  obtain ⟨h1,h2,h3⟩:=hC
  have hdn:d.toNat≤1:=Bool.toNat_le d
  refine aC (fun K6 hK6=>(aC (fun K7 hK7=>(aB (aE aA 4 rfl (aD (hK7 _ (aK rfl (fun hc1=>?_) (fun hc1=>?_)))))))))
  ·
   simp only[bs] at hc1
   refine aN (hK6 _ (aC (fun K8 hK8=>(aO (aC (fun K9 hK9=>(aC (fun K10 hK10=>(aB (aE aA 3 rfl (aV rfl rfl rfl (fun hg2=>?_) (fun hg2=>?_))))))))))))
   ·
    simp only[bs] at hg2
    refine aG rfl (gD rfl) (aE aA 2 rfl (aZ rfl rfl rfl ?_))
    refine aG rfl (bB rfl rfl uN mJ (by first | exact ixm (by omega) | assumption | exact⟨by decide,rfl⟩)) ?_
    refine aE aA 2 rfl (aZ rfl rfl rfl (aM hf rfl (aQ rfl rfl pU rfl (Nm.refCmp_den u _ hu (ht _ (List.getElem_mem (by omega))))) (aE aA 2 rfl (aD (hK10 _ (aK rfl (fun hc3=>?_) (fun hc3=>?_)))))))
    ·
     simp only[bs] at hc3
     try (have hd:d=false:=by simp_all)
     try subst hd
     simp only[Bool.toNat_false,Nat.add_zero] at h3
     refine aC (fun K11 hK11=>(aB (aE aA 3 rfl (aG rfl (cS rfl aB4 aPx (l3 rfl) rfl) (aM hf rfl (bE aO9 rfl rfl rfl rfl (l2 rfl)) (eF hf rfl aO9 rfl rfl rfl (.inl rfl) (by simp only[List.length_append,List.length_map,List.length_cons,List.length_nil]) rfl (by first | rfl | simp [kA,bF]) (by first | (simp only[maxLen,List.length_map,List.length_append,List.length_cons,List.length_nil]; omega) | (simp [maxLen] <;> omega)) (by first | (simp only[List.length_map,List.length_append,List.length_cons,List.length_nil]; omega) | (simp <;> omega)) ?_))))))
     refine cD (iX [0,1,2,9,36] rfl) (aE aA 1 rfl (aD (hK11 _ (aB (aE aA 1 rfl (aD (hK9 _ (aC (fun K12 hK12=>(aB (aE aA 2 rfl ?_)))))))))))
     refine aG rfl (bB rfl rfl uN mJ (by first | exact ixm (by omega) | assumption | exact⟨by decide,rfl⟩)) ?_
     refine aE aA 5 rfl (aV rfl rfl rfl (fun hg4=>?_) (fun hg4=>?_))
     ·
      simp only[bs] at hg4
      refine aG rfl (gD rfl) (aE aA 2 rfl (aD (hK12 _ (bW rfl (aC (fun K13 hK13=>(aB (aE aA 2 rfl ?_))))))))
      refine aG rfl (bB rfl rfl uN mJ (by first | exact ixm (by omega) | assumption | exact⟨by decide,rfl⟩)) ?_
      refine aE aA 4 rfl (aD (hK13 _ (aK rfl (fun hc6=>?_) (fun hc6=>?_))))
      ·
       simp only[bs] at hc6
       refine aB (aE aA 3 rfl ?_)
       refine aG rfl (bB rfl rfl uN mJ (by first | exact ixm (by omega) | assumption | exact⟨by decide,rfl⟩)) ?_
       refine aE aA 1 rfl (aM hf rfl (bE aO9 rfl rfl rfl rfl (l2 rfl)) (eF hf rfl aO9 rfl rfl rfl (.inl rfl) (by simp only[List.length_append,List.length_map,List.length_cons,List.length_nil]) rfl (by first | rfl | simp [kA,bF]) (by first | (simp only[maxLen,List.length_map,List.length_append,List.length_cons,List.length_nil]; omega) | (simp [maxLen] <;> omega)) (by first | (simp only[List.length_map,List.length_append,List.length_cons,List.length_nil]; omega) | (simp <;> omega)) ?_))
       refine cD (iX [0,1,2,8,9,67] rfl) (aE aA 1 rfl ?_)
       refine bG ?_
       refine hK8 _ (aB (aE aA 1 rfl ?_))
       refine aG rfl (bO rfl rfl (by omega) (by omega)) ?_
       refine aE aA 1 rfl (aD ?_)
       contradiction
      ·
       simp only[bs] at hc6
       refine aN (hK8 _ (aB (aE aA 1 rfl ?_)))
       refine aG rfl (bO rfl rfl (by omega) (by omega)) ?_
       refine aE aA 1 rfl (aD ?_)
       exact⟨(k+1,true,out++[(u,ys)]),⟨by omega,aSd h2 (by assumption) (toList_inj.1 (by assumption)),by simp only[List.length_append,List.length_cons,List.length_nil,Bool.toNat_true,Bool.toNat_false]; omega⟩,by simp only; omega,cK ⟨rfl,rfl,rfl,(by first | rfl | (simp only[List.length_append]; rfl)),rfl,rfl,trivial⟩ (by simp only[List.map_append]; rfl)⟩
     ·
      simp only[bs] at hg4
      refine aE aA 2 rfl (aD (hK12 _ (bW rfl (aC (fun K14 hK14=>(aB (aE aA 2 rfl ?_)))))))
      refine aG rfl (bB rfl rfl uN mJ (by first | exact ixm (by omega) | assumption | exact⟨by decide,rfl⟩)) ?_
      refine aE aA 4 rfl (aD (hK14 _ (aK rfl (fun hc8=>?_) (fun hc8=>?_))))
      ·
       simp only[bs] at hc8
       refine aB (aE aA 3 rfl ?_)
       refine aG rfl (bB rfl rfl uN mJ (by first | exact ixm (by omega) | assumption | exact⟨by decide,rfl⟩)) ?_
       refine aE aA 1 rfl (aM hf rfl (bE aO9 rfl rfl rfl rfl (l2 rfl)) (eF hf rfl aO9 rfl rfl rfl (.inl rfl) (by simp only[List.length_append,List.length_map,List.length_cons,List.length_nil]) rfl (by first | rfl | simp [kA,bF]) (by first | (simp only[maxLen,List.length_map,List.length_append,List.length_cons,List.length_nil]; omega) | (simp [maxLen] <;> omega)) (by first | (simp only[List.length_map,List.length_append,List.length_cons,List.length_nil]; omega) | (simp <;> omega)) ?_))
       refine cD (iX [0,1,2,8,9,67] rfl) (aE aA 1 rfl ?_)
       refine bG ?_
       refine hK8 _ (aB (aE aA 1 rfl ?_))
       refine aG rfl (bO rfl rfl (by omega) (by omega)) ?_
       refine aE aA 1 rfl (aD ?_)
       exact⟨(k+1,true,out++[(u,ys)]++[l[k]]),⟨by omega,aS3 h2 (by assumption) (by first | assumption | (have hne:u≠l[k].1:=fun e=>(by assumption:¬ _=_) (by rw[e]); have hq:dL u l[k].1≠0:=(fun e=>hne ((pR _ _).1 e)); show dL u l[k].1<0; omega)),by simp only[List.length_append,List.length_cons,List.length_nil,Bool.toNat_true,Bool.toNat_false]; omega⟩,by simp only; omega,cK ⟨rfl,rfl,rfl,(by first | rfl | (simp only[List.length_append]; rfl)),rfl,rfl,trivial⟩ (by simp only[List.map_append]; rfl)⟩
      ·
       simp only[bs] at hc8
       refine aN (hK8 _ (aB (aE aA 1 rfl ?_)))
       refine aG rfl (bO rfl rfl (by omega) (by omega)) ?_
       refine aE aA 1 rfl (aD ?_)
       contradiction
    ·
     simp only[bs] at hc3
     try (have hd:d=false:=by simp_all)
     try subst hd
     simp only[Bool.toNat_false,Nat.add_zero] at h3
     refine aN (hK9 _ (aC (fun K15 hK15=>(aB (aE aA 2 rfl ?_)))))
     refine aG rfl (bB rfl rfl uN mJ (by first | exact ixm (by omega) | assumption | exact⟨by decide,rfl⟩)) ?_
     refine aE aA 5 rfl (aV rfl rfl rfl (fun hg9=>?_) (fun hg9=>?_))
     ·
      simp only[bs] at hg9
      refine aG rfl (gD rfl) (aE aA 2 rfl (aD (hK15 _ (aK rfl (fun hc10=>?_) (fun hc10=>?_)))))
      ·
       simp only[bs] at hc10
       try (have hd:d=false:=by simp_all)
       try subst hd
       refine aC (fun K16 hK16=>(aB (aE aA 3 rfl (aG rfl (cS rfl aB4 aPx (l3 rfl) rfl) (aM hf rfl (bE aO9 rfl rfl rfl rfl (l2 rfl)) (eF hf rfl aO9 rfl rfl rfl (.inl rfl) (by simp only[List.length_append,List.length_map,List.length_cons,List.length_nil]) rfl (by first | rfl | simp [kA,bF]) (by first | (simp only[maxLen,List.length_map,List.length_append,List.length_cons,List.length_nil]; omega) | (simp [maxLen] <;> omega)) (by first | (simp only[List.length_map,List.length_append,List.length_cons,List.length_nil]; omega) | (simp <;> omega)) ?_))))))
       refine cD (iX [0,1,2,9,53] rfl) (aE aA 1 rfl (aD (hK16 _ (aB (aE aA 1 rfl ?_)))))
       refine bG ?_
       refine hK8 _ (aB (aE aA 1 rfl ?_))
       refine aG rfl (bO rfl rfl (by omega) (by omega)) ?_
       refine aE aA 1 rfl (aD ?_)
       exact⟨(k+1,true,out++[(u,ys)]),⟨by omega,aSd h2 (by assumption) (toList_inj.1 (by assumption)),by simp only[List.length_append,List.length_cons,List.length_nil,Bool.toNat_true,Bool.toNat_false]; omega⟩,by simp only; omega,cK ⟨rfl,rfl,rfl,(by first | rfl | (simp only[List.length_append]; rfl)),rfl,rfl,trivial⟩ (by simp only[List.map_append]; rfl)⟩
      ·
       simp only[bs] at hc10
       refine aC (fun K17 hK17=>(aB (aE aA 2 rfl ?_)))
       refine aG rfl (bB rfl rfl uN mJ (by first | exact ixm (by omega) | assumption | exact⟨by decide,rfl⟩)) ?_
       refine aE aA 4 rfl (aD (hK17 _ (aK rfl (fun hc11=>?_) (fun hc11=>?_))))
       ·
        simp only[bs] at hc11
        refine aB (aE aA 3 rfl ?_)
        refine aG rfl (bB rfl rfl uN mJ (by first | exact ixm (by omega) | assumption | exact⟨by decide,rfl⟩)) ?_
        refine aE aA 1 rfl (aM hf rfl (bE aO9 rfl rfl rfl rfl (l2 rfl)) (eF hf rfl aO9 rfl rfl rfl (.inl rfl) (by simp only[List.length_append,List.length_map,List.length_cons,List.length_nil]) rfl (by first | rfl | simp [kA,bF]) (by first | (simp only[maxLen,List.length_map,List.length_append,List.length_cons,List.length_nil]; omega) | (simp [maxLen] <;> omega)) (by first | (simp only[List.length_map,List.length_append,List.length_cons,List.length_nil]; omega) | (simp <;> omega)) ?_))
        refine cD (iX [0,1,2,8,9,67] rfl) (aE aA 1 rfl ?_)
        refine bG ?_
        refine hK8 _ (aB (aE aA 1 rfl ?_))
        refine aG rfl (bO rfl rfl (by omega) (by omega)) ?_
        refine aE aA 1 rfl (aD ?_)
        contradiction
       ·
        simp only[bs] at hc11
        refine aN (hK8 _ (aB (aE aA 1 rfl ?_)))
        refine aG rfl (bO rfl rfl (by omega) (by omega)) ?_
        refine aE aA 1 rfl (aD ?_)
        contradiction
     ·
      simp only[bs] at hg9
      refine aE aA 2 rfl (aD (hK15 _ (bW rfl (aC (fun K18 hK18=>(aB (aE aA 2 rfl ?_)))))))
      refine aG rfl (bB rfl rfl uN mJ (by first | exact ixm (by omega) | assumption | exact⟨by decide,rfl⟩)) ?_
      refine aE aA 4 rfl (aD (hK18 _ (aK rfl (fun hc13=>?_) (fun hc13=>?_))))
      ·
       simp only[bs] at hc13
       refine aB (aE aA 3 rfl ?_)
       refine aG rfl (bB rfl rfl uN mJ (by first | exact ixm (by omega) | assumption | exact⟨by decide,rfl⟩)) ?_
       refine aE aA 1 rfl (aM hf rfl (bE aO9 rfl rfl rfl rfl (l2 rfl)) (eF hf rfl aO9 rfl rfl rfl (.inl rfl) (by simp only[List.length_append,List.length_map,List.length_cons,List.length_nil]) rfl (by first | rfl | simp [kA,bF]) (by first | (simp only[maxLen,List.length_map,List.length_append,List.length_cons,List.length_nil]; omega) | (simp [maxLen] <;> omega)) (by first | (simp only[List.length_map,List.length_append,List.length_cons,List.length_nil]; omega) | (simp <;> omega)) ?_))
       refine cD (iX [0,1,2,8,9,67] rfl) (aE aA 1 rfl ?_)
       refine bG ?_
       refine hK8 _ (aB (aE aA 1 rfl ?_))
       refine aG rfl (bO rfl rfl (by omega) (by omega)) ?_
       refine aE aA 1 rfl (aD ?_)
       exact⟨(k+1,false,out++[l[k]]),⟨by omega,aQe h2 (by assumption) (fun e=>(by assumption:¬ _=_) (by show l[k].1.toList=_; rw[show l[k].1=u from e])) (fun e=>by show ¬ dL u l[k].1<0; omega),by simp only[List.length_append,List.length_cons,List.length_nil,Bool.toNat_true,Bool.toNat_false]; omega⟩,by simp only; omega,cK ⟨rfl,rfl,rfl,(by first | rfl | (simp only[List.length_append]; rfl)),rfl,rfl,trivial⟩ (by simp only[List.map_append]; rfl)⟩
      ·
       simp only[bs] at hc13
       refine aN (hK8 _ (aB (aE aA 1 rfl ?_)))
       refine aG rfl (bO rfl rfl (by omega) (by omega)) ?_
       refine aE aA 1 rfl (aD ?_)
       contradiction
   ·
    simp only[bs] at hg2
    refine aE aA 8 rfl (aD (hK10 _ (bW rfl (aN (hK9 _ (aC (fun K19 hK19=>(aB (aE aA 2 rfl ?_)))))))))
    refine aG rfl (bB rfl rfl uN mJ (by first | exact ixm (by omega) | assumption | exact⟨by decide,rfl⟩)) ?_
    refine aE aA 5 rfl (aV rfl rfl rfl (fun hg15=>?_) (fun hg15=>?_))
    ·
     simp only[bs] at hg15
     refine aG rfl (gD rfl) (aE aA 2 rfl (aD (hK19 _ (aK rfl (fun hc16=>?_) (fun hc16=>?_)))))
     ·
      simp only[bs] at hc16
      try (have hd:d=false:=by simp_all)
      try subst hd
      simp only[Bool.toNat_false,Nat.add_zero] at h3
      refine aC (fun K20 hK20=>(aB (aE aA 3 rfl (aG rfl (cS rfl aB4 aPx (l3 rfl) rfl) (aM hf rfl (bE aO9 rfl rfl rfl rfl (l2 rfl)) (eF hf rfl aO9 rfl rfl rfl (.inl rfl) (by simp only[List.length_append,List.length_map,List.length_cons,List.length_nil]) rfl (by first | rfl | simp [kA,bF]) (by first | (simp only[maxLen,List.length_map,List.length_append,List.length_cons,List.length_nil]; omega) | (simp [maxLen] <;> omega)) (by first | (simp only[List.length_map,List.length_append,List.length_cons,List.length_nil]; omega) | (simp <;> omega)) ?_))))))
      refine cD (iX [0,1,2,9,53] rfl) (aE aA 1 rfl (aD (hK20 _ (aB (aE aA 1 rfl ?_)))))
      refine bG ?_
      refine hK8 _ (aB (aE aA 1 rfl ?_))
      refine aG rfl (bO rfl rfl (by omega) (by omega)) ?_
      refine aE aA 1 rfl (aD ?_)
      contradiction
     ·
      simp only[bs] at hc16
      refine aC (fun K21 hK21=>(aB (aE aA 2 rfl ?_)))
      refine aG rfl (bB rfl rfl uN mJ (by first | exact ixm (by omega) | assumption | exact⟨by decide,rfl⟩)) ?_
      refine aE aA 4 rfl (aD (hK21 _ (aK rfl (fun hc17=>?_) (fun hc17=>?_))))
      ·
       simp only[bs] at hc17
       refine aB (aE aA 3 rfl ?_)
       refine aG rfl (bB rfl rfl uN mJ (by first | exact ixm (by omega) | assumption | exact⟨by decide,rfl⟩)) ?_
       refine aE aA 1 rfl (aM hf rfl (bE aO9 rfl rfl rfl rfl (l2 rfl)) (eF hf rfl aO9 rfl rfl rfl (.inl rfl) (by simp only[List.length_append,List.length_map,List.length_cons,List.length_nil]) rfl (by first | rfl | simp [kA,bF]) (by first | (simp only[maxLen,List.length_map,List.length_append,List.length_cons,List.length_nil]; omega) | (simp [maxLen] <;> omega)) (by first | (simp only[List.length_map,List.length_append,List.length_cons,List.length_nil]; omega) | (simp <;> omega)) ?_))
       refine cD (iX [0,1,2,8,9,67] rfl) (aE aA 1 rfl ?_)
       refine bG ?_
       refine hK8 _ (aB (aE aA 1 rfl ?_))
       refine aG rfl (bO rfl rfl (by omega) (by omega)) ?_
       refine aE aA 1 rfl (aD ?_)
       contradiction
      ·
       simp only[bs] at hc17
       refine aN (hK8 _ (aB (aE aA 1 rfl ?_)))
       refine aG rfl (bO rfl rfl (by omega) (by omega)) ?_
       refine aE aA 1 rfl (aD ?_)
       (  have hd:d=true:=by simp_all
          subst hd
          exact⟨(k+1,true,out),⟨by omega,aRw h2 (by assumption) (toList_inj.1 (by assumption)),by omega⟩,by simp only; omega,cK ⟨rfl,rfl,rfl,(by first | rfl | (simp only[List.length_append]; rfl)),rfl,rfl,trivial⟩ rfl⟩)
    ·
     simp only[bs] at hg15
     refine aE aA 2 rfl (aD (hK19 _ (bW rfl (aC (fun K22 hK22=>(aB (aE aA 2 rfl ?_)))))))
     refine aG rfl (bB rfl rfl uN mJ (by first | exact ixm (by omega) | assumption | exact⟨by decide,rfl⟩)) ?_
     refine aE aA 4 rfl (aD (hK22 _ (aK rfl (fun hc19=>?_) (fun hc19=>?_))))
     ·
      simp only[bs] at hc19
      refine aB (aE aA 3 rfl ?_)
      refine aG rfl (bB rfl rfl uN mJ (by first | exact ixm (by omega) | assumption | exact⟨by decide,rfl⟩)) ?_
      refine aE aA 1 rfl (aM hf rfl (bE aO9 rfl rfl rfl rfl (l2 rfl)) (eF hf rfl aO9 rfl rfl rfl (.inl rfl) (by simp only[List.length_append,List.length_map,List.length_cons,List.length_nil]) rfl (by first | rfl | simp [kA,bF]) (by first | (simp only[maxLen,List.length_map,List.length_append,List.length_cons,List.length_nil]; omega) | (simp [maxLen] <;> omega)) (by first | (simp only[List.length_map,List.length_append,List.length_cons,List.length_nil]; omega) | (simp <;> omega)) ?_))
      refine cD (iX [0,1,2,8,9,67] rfl) (aE aA 1 rfl ?_)
      refine bG ?_
      refine hK8 _ (aB (aE aA 1 rfl ?_))
      refine aG rfl (bO rfl rfl (by omega) (by omega)) ?_
      refine aE aA 1 rfl (aD ?_)
      exact⟨(k+1,d,out++[l[k]]),⟨by omega,aQe h2 (by assumption) (fun e=>(by assumption:¬ _=_) (by show l[k].1.toList=_; rw[show l[k].1=u from e])) (fun e=>by first | exact absurd (e.symm.trans (by assumption:d=true)) (by decide) | (show ¬ dL u l[k].1<0; omega)),by simp only[List.length_append,List.length_cons,List.length_nil,Bool.toNat_true,Bool.toNat_false]; omega⟩,by simp only; omega,cK ⟨rfl,rfl,rfl,(by first | rfl | (simp only[List.length_append]; rfl)),rfl,rfl,trivial⟩ (by simp only[List.map_append]; rfl)⟩
     ·
      simp only[bs] at hc19
      refine aN (hK8 _ (aB (aE aA 1 rfl ?_)))
      refine aG rfl (bO rfl rfl (by omega) (by omega)) ?_
      refine aE aA 1 rfl (aD ?_)
      contradiction
  ·
   simp only[bs] at hc1
   refine aW (hK4 _ (aC (fun K23 hK23=>(aC (fun K24 hK24=>(aB (aE aA 2 rfl (aD (hK24 _ (aK rfl (fun hc20=>?_) (fun hc20=>?_)))))))))))
   ·
    simp only[bs] at hc20
    try (have hd:d=false:=by simp_all)
    try subst hd
    simp only[Bool.toNat_false,Nat.add_zero] at h3
    refine aB (aE aA 3 rfl (aG rfl (cS rfl aB4 aPx (l3 rfl) rfl) (aM hf rfl (bE aO9 rfl rfl rfl rfl (l2 rfl)) (eF hf rfl aO9 rfl rfl rfl (.inl rfl) (by simp only[List.length_append,List.length_map,List.length_cons,List.length_nil]) rfl (by first | rfl | simp [kA,bF]) (by first | (simp only[maxLen,List.length_map,List.length_append,List.length_cons,List.length_nil]; omega) | (simp [maxLen] <;> omega)) (by first | (simp only[List.length_map,List.length_append,List.length_cons,List.length_nil]; omega) | (simp <;> omega)) ?_))))
    refine cD (iX [75] rfl) (aE aA 1 rfl (aD (hK23 _ (aC (fun K25 hK25=>(aB (aE aA 2 rfl (aD (hK25 _ (aJ ?_))))))))))
    refine⟨_,rfl,?_⟩
    refine(cI (g:=7) rfl (by simp only[List.length_append,List.length_map]; try rfl)).trans ?_
    rw[aQu h2 (by assumption)]
    (rw[if_neg (by decide),List.map_append]; rfl)
   ·
    simp only[bs] at hc20
    refine aN (hK23 _ (aC (fun K26 hK26=>(aB (aE aA 2 rfl (aD (hK26 _ (aJ ?_))))))))
    refine⟨_,rfl,?_⟩
    refine(cI (g:=7) rfl (by simp only[List.length_append,List.length_map]; try rfl)).trans ?_
    rw[aQu h2 (by assumption)]
    (rw[if_pos (by assumption),List.append_nil])
theorem aRn (l:List Tm) (u:ByteArray) (t:Int) (hl:l.length*24+24≤140737488355328) (hu:TS u) (ht:∀ x∈l,TS x.1) :Den Tryz.prog 155 [.sl 2 (l.map tmC),.s (.string u),.s (.int .i64 t)]  (·=.sl 2 ((aPf dN u (u,t) false l).map tmC)):=by
 refine aU Tryz.func155 rfl (Nat.le_of_ble_eq_true rfl) (fun w0 A hf=>(aC (fun K1 hK1=>(aB (aG rfl (bH) (aD (hK1 _ (aC (fun K2 hK2=>(aB (oJ hf 2 rfl rfl rfl (aD (hK2 _ (aC (fun K3 hK3=>(aB ?_))))))))))))))))
 refine aE aA 1 rfl (aD (hK3 _ (aC (fun K4 hK4=>(aC (fun K5 hK5=>(aB (aE aA 1 rfl (aD (hK5 _ (aO (bR (ι:=Nat×Bool×List Tm) (fun(⟨k,d,out⟩:Nat×Bool×List Tm)=>⟨57,[(0,.sl 2 (l.map tmC)),(1,.s (.string u)),(2,.s (.int .i64 t)),(7,.own 7 2 0 out.length),(8,.s (.bool d)),(9,.s (.int .i64 (k:Nat)))],[(7,.buf 2 (out.map tmC))]⟩) (fun(⟨k,d,out⟩:Nat×Bool×List Tm)=>k≤l.length∧aPf dN u (u,t) false l=out++aPf dN u (u,t) d (l.drop k)∧out.length≤k+d.toNat) (fun(⟨k,d,out⟩:Nat×Bool×List Tm)=>l.length - k) (0,false,[]) ?_ ?_ ?_))))))))))))
 · exact⟨Nat.zero_le _,rfl,Nat.zero_le _⟩
 · exact cK ⟨rfl,rfl,rfl,rfl,rfl,rfl,trivial⟩ rfl
 ·
  rintro ⟨k,d,out⟩ hC
  obtain ⟨h1,h2,h3⟩:=hC
  have hdn:d.toNat≤1:=Bool.toNat_le d
  refine aC (fun K6 hK6=>(aC (fun K7 hK7=>(aB (aE aA 4 rfl (aD (hK7 _ (aK rfl (fun hc1=>?_) (fun hc1=>?_)))))))))
  ·
   simp only[bs] at hc1
   refine aN (hK6 _ (aC (fun K8 hK8=>(aO (aC (fun K9 hK9=>(aC (fun K10 hK10=>(aB (aE aA 3 rfl (aV rfl rfl rfl (fun hg2=>?_) (fun hg2=>?_))))))))))))
   ·
    simp only[bs] at hg2
    refine aG rfl (gD rfl) (aE aA 2 rfl (aZ rfl rfl rfl ?_))
    refine aG rfl (bB rfl rfl aAr pF (by first | exact ixm (by omega) | assumption | exact⟨by decide,rfl⟩)) ?_
    refine aE aA 2 rfl (aZ rfl rfl rfl (aM hf rfl (aQ rfl rfl pU rfl (Nm.refCmp_den u _ hu (ht _ (List.getElem_mem (by omega))))) (aE aA 2 rfl (aD (hK10 _ (aK rfl (fun hc3=>?_) (fun hc3=>?_)))))))
    ·
     simp only[bs] at hc3
     try (have hd:d=false:=by simp_all)
     try subst hd
     simp only[Bool.toNat_false,Nat.add_zero] at h3
     refine aC (fun K11 hK11=>(aB (aE aA 3 rfl (aG rfl (cS rfl aB3 aQ1 (l3 rfl) rfl) (aM hf rfl (bE aPi rfl rfl rfl rfl (l2 rfl)) (eF hf rfl aPi rfl rfl rfl (.inl rfl) (by simp only[List.length_append,List.length_map,List.length_cons,List.length_nil]) rfl (by first | rfl | simp [kA,bF]) (by first | (simp only[maxLen,List.length_map,List.length_append,List.length_cons,List.length_nil]; omega) | (simp [maxLen] <;> omega)) (by first | (simp only[List.length_map,List.length_append,List.length_cons,List.length_nil]; omega) | (simp <;> omega)) ?_))))))
     refine cD (iX [0,1,2,9,33] rfl) (aE aA 1 rfl (aD (hK11 _ (aB (aE aA 1 rfl (aD (hK9 _ (aC (fun K12 hK12=>(aB (aE aA 2 rfl ?_)))))))))))
     refine aG rfl (bB rfl rfl aAr pF (by first | exact ixm (by omega) | assumption | exact⟨by decide,rfl⟩)) ?_
     refine aE aA 4 rfl (aD (hK12 _ (aK rfl (fun hc4=>?_) (fun hc4=>?_))))
     ·
      simp only[bs] at hc4
      try (have hd:d=false:=by simp_all)
      try subst hd
      refine aB (aE aA 3 rfl ?_)
      refine aG rfl (bB rfl rfl aAr pF (by first | exact ixm (by omega) | assumption | exact⟨by decide,rfl⟩)) ?_
      refine aE aA 1 rfl (aM hf rfl (bE aPi rfl rfl rfl rfl (l2 rfl)) (eF hf rfl aPi rfl rfl rfl (.inl rfl) (by simp only[List.length_append,List.length_map,List.length_cons,List.length_nil]) rfl (by first | rfl | simp [kA,bF]) (by first | (simp only[maxLen,List.length_map,List.length_append,List.length_cons,List.length_nil]; omega) | (simp [maxLen] <;> omega)) (by first | (simp only[List.length_map,List.length_append,List.length_cons,List.length_nil]; omega) | (simp <;> omega)) ?_))
      refine cD (iX [0,1,2,8,9,47] rfl) (aE aA 1 rfl ?_)
      refine bG ?_
      refine hK8 _ (aB (aE aA 1 rfl ?_))
      refine aG rfl (bO rfl rfl (by omega) (by omega)) ?_
      refine aE aA 1 rfl (aD ?_)
      exact⟨(k+1,true,out++[(u,t)]++[l[k]]),⟨by omega,aS3 h2 (by assumption) (by first | assumption | (have hne:u≠l[k].1:=fun e=>(by assumption:¬ _=_) (by rw[e]); have hq:dL u l[k].1≠0:=(fun e=>hne ((pR _ _).1 e)); show dL u l[k].1<0; omega)),by simp only[List.length_append,List.length_cons,List.length_nil,Bool.toNat_true,Bool.toNat_false]; omega⟩,by simp only; omega,cK ⟨rfl,rfl,rfl,(by first | rfl | (simp only[List.length_append]; rfl)),rfl,rfl,trivial⟩ (by simp only[List.map_append]; rfl)⟩
     ·
      simp only[bs] at hc4
      refine aN (hK8 _ (aB (aE aA 1 rfl ?_)))
      refine aG rfl (bO rfl rfl (by omega) (by omega)) ?_
      refine aE aA 1 rfl (aD ?_)
      exact⟨(k+1,true,out++[(u,t)]),⟨by omega,aSd h2 (by assumption) (toList_inj.1 (by assumption)),by simp only[List.length_append,List.length_cons,List.length_nil,Bool.toNat_true,Bool.toNat_false]; omega⟩,by simp only; omega,cK ⟨rfl,rfl,rfl,(by first | rfl | (simp only[List.length_append]; rfl)),rfl,rfl,trivial⟩ (by simp only[List.map_append]; rfl)⟩
    ·
     simp only[bs] at hc3
     try (have hd:d=false:=by simp_all)
     try subst hd
     simp only[Bool.toNat_false,Nat.add_zero] at h3
     refine aN (hK9 _ (aC (fun K13 hK13=>(aB (aE aA 2 rfl ?_)))))
     refine aG rfl (bB rfl rfl aAr pF (by first | exact ixm (by omega) | assumption | exact⟨by decide,rfl⟩)) ?_
     refine aE aA 4 rfl (aD (hK13 _ (aK rfl (fun hc5=>?_) (fun hc5=>?_))))
     ·
      simp only[bs] at hc5
      try (have hd:d=false:=by simp_all)
      try subst hd
      refine aB (aE aA 3 rfl ?_)
      refine aG rfl (bB rfl rfl aAr pF (by first | exact ixm (by omega) | assumption | exact⟨by decide,rfl⟩)) ?_
      refine aE aA 1 rfl (aM hf rfl (bE aPi rfl rfl rfl rfl (l2 rfl)) (eF hf rfl aPi rfl rfl rfl (.inl rfl) (by simp only[List.length_append,List.length_map,List.length_cons,List.length_nil]) rfl (by first | rfl | simp [kA,bF]) (by first | (simp only[maxLen,List.length_map,List.length_append,List.length_cons,List.length_nil]; omega) | (simp [maxLen] <;> omega)) (by first | (simp only[List.length_map,List.length_append,List.length_cons,List.length_nil]; omega) | (simp <;> omega)) ?_))
      refine cD (iX [0,1,2,8,9,47] rfl) (aE aA 1 rfl ?_)
      refine bG ?_
      refine hK8 _ (aB (aE aA 1 rfl ?_))
      refine aG rfl (bO rfl rfl (by omega) (by omega)) ?_
      refine aE aA 1 rfl (aD ?_)
      exact⟨(k+1,false,out++[l[k]]),⟨by omega,aQe h2 (by assumption) (fun e=>(by assumption:¬ _=_) (by show l[k].1.toList=_; rw[show l[k].1=u from e])) (fun e=>by show ¬ dL u l[k].1<0; omega),by simp only[List.length_append,List.length_cons,List.length_nil,Bool.toNat_true,Bool.toNat_false]; omega⟩,by simp only; omega,cK ⟨rfl,rfl,rfl,(by first | rfl | (simp only[List.length_append]; rfl)),rfl,rfl,trivial⟩ (by simp only[List.map_append]; rfl)⟩
     ·
      simp only[bs] at hc5
      refine aN (hK8 _ (aB (aE aA 1 rfl ?_)))
      refine aG rfl (bO rfl rfl (by omega) (by omega)) ?_
      refine aE aA 1 rfl (aD ?_)
      (exfalso; have e8:dL u l[k].1=0:=(pR _ _).2 (toList_inj.1 (by assumption)).symm; omega)
   ·
    simp only[bs] at hg2
    refine aE aA 8 rfl (aD (hK10 _ (bW rfl (aN (hK9 _ (aC (fun K14 hK14=>(aB (aE aA 2 rfl ?_)))))))))
    refine aG rfl (bB rfl rfl aAr pF (by first | exact ixm (by omega) | assumption | exact⟨by decide,rfl⟩)) ?_
    refine aE aA 4 rfl (aD (hK14 _ (aK rfl (fun hc7=>?_) (fun hc7=>?_))))
    ·
     simp only[bs] at hc7
     try (have hd:d=false:=by simp_all)
     try subst hd
     refine aB (aE aA 3 rfl ?_)
     refine aG rfl (bB rfl rfl aAr pF (by first | exact ixm (by omega) | assumption | exact⟨by decide,rfl⟩)) ?_
     refine aE aA 1 rfl (aM hf rfl (bE aPi rfl rfl rfl rfl (l2 rfl)) (eF hf rfl aPi rfl rfl rfl (.inl rfl) (by simp only[List.length_append,List.length_map,List.length_cons,List.length_nil]) rfl (by first | rfl | simp [kA,bF]) (by first | (simp only[maxLen,List.length_map,List.length_append,List.length_cons,List.length_nil]; omega) | (simp [maxLen] <;> omega)) (by first | (simp only[List.length_map,List.length_append,List.length_cons,List.length_nil]; omega) | (simp <;> omega)) ?_))
     refine cD (iX [0,1,2,8,9,47] rfl) (aE aA 1 rfl ?_)
     refine bG ?_
     refine hK8 _ (aB (aE aA 1 rfl ?_))
     refine aG rfl (bO rfl rfl (by omega) (by omega)) ?_
     refine aE aA 1 rfl (aD ?_)
     exact⟨(k+1,d,out++[l[k]]),⟨by omega,aQe h2 (by assumption) (fun e=>(by assumption:¬ _=_) (by show l[k].1.toList=_; rw[show l[k].1=u from e])) (fun e=>by first | exact absurd (e.symm.trans (by assumption:d=true)) (by decide) | (show ¬ dL u l[k].1<0; omega)),by simp only[List.length_append,List.length_cons,List.length_nil,Bool.toNat_true,Bool.toNat_false]; omega⟩,by simp only; omega,cK ⟨rfl,rfl,rfl,(by first | rfl | (simp only[List.length_append]; rfl)),rfl,rfl,trivial⟩ (by simp only[List.map_append]; rfl)⟩
    ·
     simp only[bs] at hc7
     refine aN (hK8 _ (aB (aE aA 1 rfl ?_)))
     refine aG rfl (bO rfl rfl (by omega) (by omega)) ?_
     refine aE aA 1 rfl (aD ?_)
     (  have hd:d=true:=by simp_all
        subst hd
        exact⟨(k+1,true,out),⟨by omega,aRw h2 (by assumption) (toList_inj.1 (by assumption)),by omega⟩,by simp only; omega,cK ⟨rfl,rfl,rfl,(by first | rfl | (simp only[List.length_append]; rfl)),rfl,rfl,trivial⟩ rfl⟩)
  ·
   simp only[bs] at hc1
   refine aW (hK4 _ (aC (fun K15 hK15=>(aC (fun K16 hK16=>(aB (aE aA 2 rfl (aD (hK16 _ (aK rfl (fun hc8=>?_) (fun hc8=>?_)))))))))))
   ·
    simp only[bs] at hc8
    try (have hd:d=false:=by simp_all)
    try subst hd
    simp only[Bool.toNat_false,Nat.add_zero] at h3
    refine aB (aE aA 3 rfl (aG rfl (cS rfl aB3 aQ1 (l3 rfl) rfl) (aM hf rfl (bE aPi rfl rfl rfl rfl (l2 rfl)) (eF hf rfl aPi rfl rfl rfl (.inl rfl) (by simp only[List.length_append,List.length_map,List.length_cons,List.length_nil]) rfl (by first | rfl | simp [kA,bF]) (by first | (simp only[maxLen,List.length_map,List.length_append,List.length_cons,List.length_nil]; omega) | (simp [maxLen] <;> omega)) (by first | (simp only[List.length_map,List.length_append,List.length_cons,List.length_nil]; omega) | (simp <;> omega)) ?_))))
    refine cD (iX [55] rfl) (aE aA 1 rfl (aD (hK15 _ (aC (fun K17 hK17=>(aB (aE aA 2 rfl (aD (hK17 _ (aJ ?_))))))))))
    refine⟨_,rfl,?_⟩
    refine(cI (g:=7) rfl (by simp only[List.length_append,List.length_map]; try rfl)).trans ?_
    rw[aQu h2 (by assumption)]
    (rw[if_neg (by decide),List.map_append]; rfl)
   ·
    simp only[bs] at hc8
    refine aN (hK15 _ (aC (fun K18 hK18=>(aB (aE aA 2 rfl (aD (hK18 _ (aJ ?_))))))))
    refine⟨_,rfl,?_⟩
    refine(cI (g:=7) rfl (by simp only[List.length_append,List.length_map]; try rfl)).trans ?_
    rw[aQu h2 (by assumption)]
    (rw[if_pos (by assumption),List.append_nil])
end Go.Proofs.YthapfogcaklbbaaGreat
set_option linter.unusedVariables false
set_option linter.unusedSimpArgs false
namespace Go.Proofs.YthapfogcaklbbaaGreat
open Go Go.Abs
theorem aQi (l:List Us) (u:ByteArray) (ys:List bD) (hl:l.length*40+40≤140737488355328) (hu:TS u) (ht:∀ x∈l,TS x.1) (hr:cR cM l):Den Tryz.prog 154 [.sl 2 (l.map usC),.s (.string u),.sl 4 (ys.map stC)] (·=.sl 2 ((pK l u ys).map usC)) :=
  aC3 (aSc l u ys hl hu ht) (by rw[put_set hr])
theorem aQ4 (l:List Tm) (u:ByteArray) (t:Int) (hl:l.length*24+24≤140737488355328) (hu:TS u) (ht:∀ x∈l,TS x.1) (hr:cR dN l):Den Tryz.prog 155 [.sl 2 (l.map tmC),.s (.string u),.s (.int .i64 t)] (·=.sl 2 ((qA l u t).map tmC)) :=
  aC3 (aRn l u t hl hu ht) (by rw[aSu hr])
theorem aQx (s:Sta) (u:ByteArray) (x:bD) (hz:SzS 140737488355200 s) (hr:cR cM s.usr) (hu:TS u) (ht:∀ x∈s.usr,TS x.1) :Den Tryz.prog 206 [.agg (aY s),.s (.string u),.agg (stC x)]  (·=.agg (aY (dF s u x))):=by
 have z2:=hz.u
 have hou:(ofU s.usr u).length*32≤140737488355200:=aCp (p:=fun x=>x.2.length*32≤140737488355200) hr hz.y (by simp)
 refine aU Tryz.func206 rfl (Nat.le_of_ble_eq_true rfl) (fun w0 A hf=>(aC (fun K1 hK1=>(aB (pX hf rfl rfl rfl rfl (l1 rfl) ?_)))))
 refine aM hf rfl (cP rfl rfl (lf rfl)) (bJ hf rfl rfl rfl aO7 (aD (hK1 _ (aC (fun K2 hK2=>(aC (fun K3 hK3=>(aB (aE aA 5 rfl (aD (hK3 _ (aK rfl (fun hc1=>?_) (fun hc1=>?_)))))))))))))
 ·
  simp only[bs] at hc1
  refine iR hf (L:=#[true,true,true,true,true,true,true,true,true,true,false]) 10 1 bI (by kernel_rfl) rfl (by kernel_rfl) rfl ?_
  refine aX aA 5 rfl (bT [(15,_),(16,_)] rfl rfl ⟨⟨rfl,rfl⟩,⟨rfl,rfl⟩,trivial⟩ rfl (aQ rfl rfl aOk rfl (aOx s u (by omega))) (aX aA 1 rfl (bT [(17,_),(18,_)] rfl rfl ⟨⟨rfl,rfl⟩,⟨rfl,rfl⟩,trivial⟩ rfl (aQ rfl rfl aN1 rfl (aNt (ofU s.usr u) x (by omega))) (bT [(13,_),(14,_),(19,_)] rfl rfl ⟨⟨rfl,rfl⟩,⟨rfl,rfl⟩,⟨rfl,rfl⟩,trivial⟩ rfl (aQ rfl rfl aQo rfl (aQi s.usr u (gX (ofU s.usr u) x) (by omega) hu ht hr)) (aX aA 1 rfl (vC [3,6,20,21] rfl rfl rfl ?_))))))
  refine aI 10 [] (by kernel_rfl) ⟨?_,trivial⟩
  ·
   refine⟨_,rfl,rfl,(ao rfl (aT hf rfl rfl aSb rfl rfl (l1 rfl) (l4 rfl) rfl (aF (dC (by kernel_rfl) ?_))))⟩
   refine hK2 _ (aC (fun K4 hK4=>(aB (aG rfl ((by first | exact bP (cs':=aY s) rfl aAl aHx rfl rfl rfl | exact bP (cs':=[.s (.int .i64 s.now),.s (.int .i64 s.hor),.sl 4 (s.opn.map seC),.sl 2 ((pK s.usr u (gX (ofU s.usr u) x)).map usC),.sl 4 (s.sub.map enC),.sl 2 (s.tmb.map tmC)]) rfl aAl aHx rfl rfl rfl)) ?_))))
   refine aT hf rfl rfl aHx rfl rfl (l1 rfl) (l4 rfl) rfl (aD (hK4 _ (aJ ?_)))
   refine⟨_,rfl,?_⟩
   (unfold dF kK; rw[if_neg (by omega)]; rfl)
 ·
  simp only[bs] at hc1
  refine aN (hK2 _ (aC (fun K5 hK5=>(aB (aG rfl ((by first | exact bP (cs':=aY s) rfl aAl aHx rfl rfl rfl | exact bP (cs':=[.s (.int .i64 s.now),.s (.int .i64 s.hor),.sl 4 (s.opn.map seC),.sl 2 ((pK s.usr u (gX (ofU s.usr u) x)).map usC),.sl 4 (s.sub.map enC),.sl 2 (s.tmb.map tmC)]) rfl aAl aHx rfl rfl rfl)) ?_)))))
  refine aT hf rfl rfl aHx rfl rfl (l1 rfl) (l4 rfl) rfl (aD (hK5 _ (aJ ?_)))
  refine⟨_,rfl,?_⟩
  (rw[jS (by omega)]; rfl)
theorem aQr (s:Sta) (e:Ev) (hz:SzS 140737488355100 s) (hr:cR cM s.usr) (hr2:cR dN s.tmb) (ts:TsS s) (hu:TS e.user) (ho:TS e.other) (hk:e.kind=1) :Den Tryz.prog 149 [.agg (aY s),.agg (evC e)]  (·=.tup [.agg (aY (bA s e).1),.s (.int .i64 (bA s e).2)]):=by
 have z1:=hz.o
 have z2:=hz.u
 have z3:=hz.b
 have z4:=hz.t
 have q:=aEp s.opn ((e.n,e.user),(e.st,e.at'))
 have hd:bA s e=(dF ({ s with opn:=nR s.opn ((e.n,e.user),(e.st,e.at')) }) e.user (st0),sP s.opn ((e.n,e.user),(e.st,e.at'))):=by
  rw[bA,if_pos hk]
  rw[jS (show st0.1.2≤st0.1.1 from Int.le_refl _)]
 have hz2:SzS 140737488355200 ({ s with opn:=nR s.opn ((e.n,e.user),(e.st,e.at')) }):=⟨by show (nR s.opn ((e.n,e.user),(e.st,e.at'))).length*40≤_; omega,by show s.usr.length*40≤_; omega,by show s.sub.length*48≤_; omega,by show s.tmb.length*24≤_; omega,fun x hx=>by have:=hz.y x hx; omega⟩
 rw[hd]
 rw[jS (show st0.1.2≤st0.1.1 from Int.le_refl _)]
 refine aU Tryz.func149 rfl (Nat.le_of_ble_eq_true rfl) (fun w0 A hf=>(aC (fun K1 hK1=>(aB (pX hf rfl rfl rfl rfl (l1 rfl) ?_)))))
 refine aM hf rfl (cP rfl rfl (lf rfl)) (bJ hf rfl rfl rfl aO7 (aE aA 1 rfl (aD (hK1 _ (aC (fun K2 hK2=>(aC (fun K3 hK3=>(aB (aE aA 2 rfl (aG rfl (eI rfl rfl (kW (by omega))) (aD (hK3 _ (bU rfl ?_))))))))))))))
 refine aC (fun K4 hK4=>(aB (aE aA 10 rfl (aG rfl (cS rfl aB5 aPy (l3 rfl) rfl) (aM hf rfl (aQ rfl rfl aR4 rfl (aQ6 s.opn ((e.n,e.user),(e.st,e.at')) (by omega))) (aE aA 5 rfl (aD (hK4 _ (aC (fun K5 hK5=>(aB (aE aA 2 rfl (aT hf rfl rfl aHz rfl rfl (l1 rfl) (l4 rfl) rfl (aD ?_))))))))))))))
 refine hK5 _ (aC (fun K6 hK6=>(aB (aG rfl (bP (cs':=[.s (.int .i64 s.now),.s (.int .i64 s.hor),.sl 4 ((nR s.opn ((e.n,e.user),(e.st,e.at'))).map seC),.sl 2 (s.usr.map usC),.sl 4 (s.sub.map enC),.sl 2 (s.tmb.map tmC)]) rfl aAl aHx rfl rfl rfl) (aE aA 1 rfl (aT hf rfl rfl aHx rfl rfl (l1 rfl) (l4 rfl) rfl (aE aA 1 rfl (aD (hK6 _ (aJ ?_))))))))))
 refine⟨_,rfl,?_⟩
 rfl
theorem aQq (s:Sta) (e:Ev) (hz:SzS 140737488355100 s) (hr:cR cM s.usr) (hr2:cR dN s.tmb) (ts:TsS s) (hu:TS e.user) (ho:TS e.other) (hk:e.kind=2) :Den Tryz.prog 149 [.agg (aY s),.agg (evC e)]  (·=.tup [.agg (aY (bA s e).1),.s (.int .i64 (bA s e).2)]):=by
 have z1:=hz.o
 have z2:=hz.u
 have z3:=hz.b
 have z4:=hz.t
 have q:=aF0 s.opn e.n e.user e.st e.at'
 have hd:bA s e=(dF ({ s with opn:=nT s.opn e.n e.user e.st e.at' }) e.user (stR s.opn e.n e.user e.at'),gH s.opn e.n e.user):=by
  rw[bA,if_neg (by omega),if_pos hk]
  rfl
 have hz2:SzS 140737488355200 ({ s with opn:=nT s.opn e.n e.user e.st e.at' }):=⟨by show (nT s.opn e.n e.user e.st e.at').length*40≤_; omega,by show s.usr.length*40≤_; omega,by show s.sub.length*48≤_; omega,by show s.tmb.length*24≤_; omega,fun x hx=>by have:=hz.y x hx; omega⟩
 rw[hd]
 refine aU Tryz.func149 rfl (Nat.le_of_ble_eq_true rfl) (fun w0 A hf=>(aC (fun K1 hK1=>(aB (pX hf rfl rfl rfl rfl (l1 rfl) ?_)))))
 refine aM hf rfl (cP rfl rfl (lf rfl)) (bJ hf rfl rfl rfl aO7 (aE aA 1 rfl (aD (hK1 _ (aC (fun K2 hK2=>(aC (fun K3 hK3=>(aB (aE aA 2 rfl (aG rfl (eI rfl rfl (eR (by omega))) (aD (hK3 _ (bW rfl ?_))))))))))))))
 refine aN (hK2 _ (aC (fun K4 hK4=>(aB (aE aA 8 rfl (aM hf rfl (aQ rfl rfl aQn rfl (aPz s.opn e.n e.user e.at' (by omega))) (aE aA 4 rfl (bJ hf rfl rfl rfl aB6 (aE aA 1 rfl (aT hf rfl rfl jW rfl rfl (l1 rfl) (l4 rfl) rfl (aE aA 1 rfl (aD (hK4 _ ?_)))))))))))))
 refine aC (fun K5 hK5=>(aC (fun K6 hK6=>(aB (aE aA 2 rfl (aG rfl (eI rfl rfl (kW (by omega))) (aD (hK6 _ (bU rfl (aB (aE aA 10 rfl (aM hf rfl (aQ rfl rfl aR3 rfl (aQs s.opn e.n e.user e.st e.at' (by omega))) (aE aA 5 rfl (aT hf rfl rfl jW rfl rfl (l1 rfl) (l4 rfl) rfl ?_))))))))))))))
 refine aE aA 1 rfl (aD (hK5 _ (aC (fun K7 hK7=>(aB (aE aA 2 rfl (aT hf rfl rfl aHz rfl rfl (l1 rfl) (l4 rfl) rfl (aD (hK7 _ (aC (fun K8 hK8=>(aB (aG rfl (bP (cs':=[.s (.int .i64 s.now),.s (.int .i64 s.hor),.sl 4 ((nT s.opn e.n e.user e.st e.at').map seC),.sl 2 (s.usr.map usC),.sl 4 (s.sub.map enC),.sl 2 (s.tmb.map tmC)]) rfl aAl aHx rfl rfl rfl) (aE aA 3 rfl ?_))))))))))))))
 refine aM hf rfl (aQ rfl rfl aQm rfl (aQx ({ s with opn:=nT s.opn e.n e.user e.st e.at' }) e.user (stR s.opn e.n e.user e.at') hz2 hr hu ts.u)) (aE aA 1 rfl (aT hf rfl rfl aHx rfl rfl (l1 rfl) (l4 rfl) rfl (aE aA 1 rfl (aD (hK8 _ (aJ ?_))))))
 refine⟨_,rfl,?_⟩
 rfl
theorem aQp (s:Sta) (e:Ev) (hz:SzS 140737488355100 s) (hr:cR cM s.usr) (hr2:cR dN s.tmb) (ts:TsS s) (hu:TS e.user) (ho:TS e.other) (hk:e.kind=3) :Den Tryz.prog 149 [.agg (aY s),.agg (evC e)]  (·=.tup [.agg (aY (bA s e).1),.s (.int .i64 (bA s e).2)]):=by
 have z1:=hz.o
 have z2:=hz.u
 have z3:=hz.b
 have z4:=hz.t
 have q:=aFw s.opn e.n e.user
 have hd:bA s e=(dF ({ s with opn:=nS s.opn e.n e.user }) e.user (stR s.opn e.n e.user e.at'),gH s.opn e.n e.user):=by
  rw[bA,if_neg (by omega),if_neg (by omega),if_pos hk]
  rfl
 have hz2:SzS 140737488355200 ({ s with opn:=nS s.opn e.n e.user }):=⟨by show (nS s.opn e.n e.user).length*40≤_; omega,by show s.usr.length*40≤_; omega,by show s.sub.length*48≤_; omega,by show s.tmb.length*24≤_; omega,fun x hx=>by have:=hz.y x hx; omega⟩
 rw[hd]
 refine aU Tryz.func149 rfl (Nat.le_of_ble_eq_true rfl) (fun w0 A hf=>(aC (fun K1 hK1=>(aB (pX hf rfl rfl rfl rfl (l1 rfl) ?_)))))
 refine aM hf rfl (cP rfl rfl (lf rfl)) (bJ hf rfl rfl rfl aO7 (aE aA 1 rfl (aD (hK1 _ (aC (fun K2 hK2=>(aC (fun K3 hK3=>(aB (aE aA 2 rfl (aG rfl (eI rfl rfl (eR (by omega))) (aD (hK3 _ (bW rfl ?_))))))))))))))
 refine aN (hK2 _ (aC (fun K4 hK4=>(aB (aE aA 8 rfl (aM hf rfl (aQ rfl rfl aQn rfl (aPz s.opn e.n e.user e.at' (by omega))) (aE aA 4 rfl (bJ hf rfl rfl rfl aB6 (aE aA 1 rfl (aT hf rfl rfl jW rfl rfl (l1 rfl) (l4 rfl) rfl (aE aA 1 rfl (aD (hK4 _ ?_)))))))))))))
 refine aC (fun K5 hK5=>(aC (fun K6 hK6=>(aB (aE aA 2 rfl (aG rfl (eI rfl rfl (eR (by omega))) (aD (hK6 _ (bW rfl (aN (hK5 _ (aC (fun K7 hK7=>(aB (aE aA 2 rfl ?_)))))))))))))))
 refine aT hf rfl rfl aHz rfl rfl (l1 rfl) (l4 rfl) rfl (aD (hK7 _ (aC (fun K8 hK8=>(aB (aG rfl (bP (cs':=[.s (.int .i64 s.now),.s (.int .i64 s.hor),.sl 4 ((nS s.opn e.n e.user).map seC),.sl 2 (s.usr.map usC),.sl 4 (s.sub.map enC),.sl 2 (s.tmb.map tmC)]) rfl aAl aHx rfl rfl rfl) (aE aA 3 rfl (aM hf rfl (aQ rfl rfl aQm rfl (aQx ({ s with opn:=nS s.opn e.n e.user }) e.user (stR s.opn e.n e.user e.at') hz2 hr hu ts.u)) (aE aA 1 rfl (aT hf rfl rfl aHx rfl rfl (l1 rfl) (l4 rfl) rfl (aE aA 1 rfl ?_)))))))))))
 refine aD (hK8 _ (aJ ?_))
 refine⟨_,rfl,?_⟩
 rfl
end Go.Proofs.YthapfogcaklbbaaGreat
set_option linter.unusedVariables false
set_option linter.unusedSimpArgs false
namespace Go.Proofs.YthapfogcaklbbaaGreat
open Go Go.Abs
theorem aRf (s:Sta) (e:Ev) (hz:SzS 140737488355100 s) (hr:cR cM s.usr) (hr2:cR dN s.tmb) (ts:TsS s) (hu:TS e.user) (ho:TS e.other) (hk:e.kind=1) (he:bY e=true) (ht:s.now≤e.at') :Den Tryz.prog 74 [.agg (aY s),.agg (evC e)]  (·=.tup [.agg (aY (cQ s e).1),.s (.int .i64 (cQ s e).2)]):=by
 have z1:=hz.o
 have z2:=hz.u
 have z3:=hz.b
 have z4:=hz.t
 have hd2:∃ D N,bA s e=(D,N):=⟨_,_,rfl⟩
 obtain ⟨D,N,hd⟩:=hd2
 refine aU Tryz.func74 rfl (Nat.le_of_ble_eq_true rfl) (fun w0 A hf=>(aC (fun K1 hK1=>(aB (pX hf rfl rfl rfl rfl (l1 rfl) ?_)))))
 refine aM hf rfl (cP rfl rfl (lf rfl)) (bJ hf rfl rfl rfl aO7 (aE aA 1 rfl (aD (hK1 _ (aC (fun K2 hK2=>(aC (fun K3 hK3=>(aB (aE aA 1 rfl (aM hf rfl (aQ rfl rfl aPe rfl ((show Den Tryz.prog _ _ (·=.s (.bool true)) from aC3 (aPa e hu ho) (by rw[he])))) ?_)))))))))))
 refine aE aA 1 rfl (aD (hK3 _ (bW rfl (aN (hK2 _ (aC (fun K4 hK4=>(aC (fun K5 hK5=>(aB (aE aA 5 rfl (aD (hK5 _ (cU rfl rfl (fun hc2=>?_) (fun hc2=>?_)))))))))))))))
 ·
  simp only[bs] at hc2
  omega
 ·
  simp only[bs] at hc2
  refine aN (hK4 _ (aC (fun K6 hK6=>(aB (aE aA 4 rfl (aG rfl (cS rfl aPc aPn (l3 rfl) rfl) (cC hf rfl aPc rfl aPr rfl rfl rfl rfl (lf rfl) (aD (hK6 _ (aC (fun K7 hK7=>(aB (aE aA 1 rfl (aD ?_))))))))))))))
  refine hK7 _ (aC (fun K8 hK8=>(aC (fun K9 hK9=>(aB (aE aA 2 rfl (aD (hK9 _ (aO (aC (fun K10 hK10=>(aC (fun K11 hK11=>(aB (aG rfl (eI rfl rfl (kW (by omega))) (aE aA 1 rfl ?_))))))))))))))))
  refine aD (hK11 _ (bU rfl (aN (hK10 _ (bU rfl (aB (aE aA 2 rfl (aM hf rfl (aQ rfl rfl aP3 rfl (aC3 (aQr s e hz hr hr2 ts hu ho hk) (show _=AV.tup [.agg (aY D),.s (.int .i64 N)] from by rw[hd]))) ?_))))))))
  refine aE aA 3 rfl (aT hf rfl rfl aHx rfl rfl (l1 rfl) (l4 rfl) rfl (aE aA 1 rfl ?_))
  refine bG ?_
  refine hK8 _ (aC (fun K12 hK12=>(aC (fun K13 hK13=>(aB (aE aA 2 rfl (aD (hK13 _ (cU rfl rfl (fun hc5=>?_) (fun hc5=>?_))))))))))
  ·
   simp only[bs] at hc5
   refine aC (fun K14 hK14=>(aB (aG rfl (cS rfl aO7 aPh (l3 rfl) rfl) (cD (rN oI) (aE aA 1 rfl (aT hf rfl rfl aHx rfl rfl (l1 rfl) (l4 rfl) rfl (aE aA 1 rfl (aD (hK14 _ (aJ ?_))))))))))
   refine⟨_,rfl,?_⟩
   rw[cQ,if_pos he,if_neg (by omega),hd,if_neg (by first | assumption | omega | (simp_all; done) | (intro hq; simp only at hq; split at hq <;> simp_all))]; rfl
  ·
   simp only[bs] at hc5
   refine aN (hK12 _ (aC (fun K15 hK15=>(aB (aE aA 3 rfl (aT hf rfl rfl cE rfl rfl (l1 rfl) (l4 rfl) rfl (aD (hK15 _ (aC (fun K16 hK16=>(aB (aG rfl (bP (cs':=[.s (.int .i64 e.at'),.s (.int .i64 D.hor),.sl 4 (D.opn.map seC),.sl 2 (D.usr.map usC),.sl 4 (D.sub.map enC),.sl 2 (D.tmb.map tmC)]) rfl aAl aHx rfl rfl rfl) (aT hf rfl rfl aHx rfl rfl (l1 rfl) (l4 rfl) rfl (aE aA 1 rfl ?_))))))))))))))
   refine aD (hK16 _ (aJ ?_))
   refine⟨_,rfl,?_⟩
   rw[cQ,if_pos he,if_neg (by omega),hd,if_pos (by first | assumption | omega)]; rfl
theorem aRe (s:Sta) (e:Ev) (hz:SzS 140737488355100 s) (hr:cR cM s.usr) (hr2:cR dN s.tmb) (ts:TsS s) (hu:TS e.user) (ho:TS e.other) (hk:e.kind=2) (he:bY e=true) (ht:s.now≤e.at') :Den Tryz.prog 74 [.agg (aY s),.agg (evC e)]  (·=.tup [.agg (aY (cQ s e).1),.s (.int .i64 (cQ s e).2)]):=by
 have z1:=hz.o
 have z2:=hz.u
 have z3:=hz.b
 have z4:=hz.t
 have hd2:∃ D N,bA s e=(D,N):=⟨_,_,rfl⟩
 obtain ⟨D,N,hd⟩:=hd2
 refine aU Tryz.func74 rfl (Nat.le_of_ble_eq_true rfl) (fun w0 A hf=>(aC (fun K1 hK1=>(aB (pX hf rfl rfl rfl rfl (l1 rfl) ?_)))))
 refine aM hf rfl (cP rfl rfl (lf rfl)) (bJ hf rfl rfl rfl aO7 (aE aA 1 rfl (aD (hK1 _ (aC (fun K2 hK2=>(aC (fun K3 hK3=>(aB (aE aA 1 rfl (aM hf rfl (aQ rfl rfl aPe rfl ((show Den Tryz.prog _ _ (·=.s (.bool true)) from aC3 (aPa e hu ho) (by rw[he])))) ?_)))))))))))
 refine aE aA 1 rfl (aD (hK3 _ (bW rfl (aN (hK2 _ (aC (fun K4 hK4=>(aC (fun K5 hK5=>(aB (aE aA 5 rfl (aD (hK5 _ (cU rfl rfl (fun hc2=>?_) (fun hc2=>?_)))))))))))))))
 ·
  simp only[bs] at hc2
  omega
 ·
  simp only[bs] at hc2
  refine aN (hK4 _ (aC (fun K6 hK6=>(aB (aE aA 4 rfl (aG rfl (cS rfl aPc aPn (l3 rfl) rfl) (cC hf rfl aPc rfl aPr rfl rfl rfl rfl (lf rfl) (aD (hK6 _ (aC (fun K7 hK7=>(aB (aE aA 1 rfl (aD ?_))))))))))))))
  refine hK7 _ (aC (fun K8 hK8=>(aC (fun K9 hK9=>(aB (aE aA 2 rfl (aD (hK9 _ (aO (aC (fun K10 hK10=>(aC (fun K11 hK11=>(aB (aG rfl (eI rfl rfl (eR (by omega))) (aE aA 1 rfl ?_))))))))))))))))
  refine aD (hK11 _ (bW rfl (aC (fun K12 hK12=>(aB (aG rfl (eI rfl rfl (kW (by omega))) (aE aA 1 rfl (aD (hK12 _ (bU rfl (aN (hK10 _ (bU rfl ?_)))))))))))))
  refine aB (aE aA 2 rfl (aM hf rfl (aQ rfl rfl aP3 rfl (aC3 (aQq s e hz hr hr2 ts hu ho hk) (show _=AV.tup [.agg (aY D),.s (.int .i64 N)] from by rw[hd]))) ?_))
  refine aE aA 3 rfl (aT hf rfl rfl aHx rfl rfl (l1 rfl) (l4 rfl) rfl (aE aA 1 rfl ?_))
  refine bG ?_
  refine hK8 _ (aC (fun K13 hK13=>(aC (fun K14 hK14=>(aB (aE aA 2 rfl (aD (hK14 _ (cU rfl rfl (fun hc6=>?_) (fun hc6=>?_))))))))))
  ·
   simp only[bs] at hc6
   refine aC (fun K15 hK15=>(aB (aG rfl (cS rfl aO7 aPh (l3 rfl) rfl) (cD (rN oI) (aE aA 1 rfl (aT hf rfl rfl aHx rfl rfl (l1 rfl) (l4 rfl) rfl (aE aA 1 rfl (aD (hK15 _ (aJ ?_))))))))))
   refine⟨_,rfl,?_⟩
   rw[cQ,if_pos he,if_neg (by omega),hd,if_neg (by first | assumption | omega | (simp_all; done) | (intro hq; simp only at hq; split at hq <;> simp_all))]; rfl
  ·
   simp only[bs] at hc6
   refine aN (hK13 _ (aC (fun K16 hK16=>(aB (aE aA 3 rfl (aT hf rfl rfl cE rfl rfl (l1 rfl) (l4 rfl) rfl (aD (hK16 _ (aC (fun K17 hK17=>(aB (aG rfl (bP (cs':=[.s (.int .i64 e.at'),.s (.int .i64 D.hor),.sl 4 (D.opn.map seC),.sl 2 (D.usr.map usC),.sl 4 (D.sub.map enC),.sl 2 (D.tmb.map tmC)]) rfl aAl aHx rfl rfl rfl) (aT hf rfl rfl aHx rfl rfl (l1 rfl) (l4 rfl) rfl (aE aA 1 rfl ?_))))))))))))))
   refine aD (hK17 _ (aJ ?_))
   refine⟨_,rfl,?_⟩
   rw[cQ,if_pos he,if_neg (by omega),hd,if_pos (by first | assumption | omega)]; rfl
theorem aRd (s:Sta) (e:Ev) (hz:SzS 140737488355100 s) (hr:cR cM s.usr) (hr2:cR dN s.tmb) (ts:TsS s) (hu:TS e.user) (ho:TS e.other) (hk:e.kind=3) (he:bY e=true) (ht:s.now≤e.at') :Den Tryz.prog 74 [.agg (aY s),.agg (evC e)]  (·=.tup [.agg (aY (cQ s e).1),.s (.int .i64 (cQ s e).2)]):=by
 have z1:=hz.o
 have z2:=hz.u
 have z3:=hz.b
 have z4:=hz.t
 have hd2:∃ D N,bA s e=(D,N):=⟨_,_,rfl⟩
 obtain ⟨D,N,hd⟩:=hd2
 refine aU Tryz.func74 rfl (Nat.le_of_ble_eq_true rfl) (fun w0 A hf=>(aC (fun K1 hK1=>(aB (pX hf rfl rfl rfl rfl (l1 rfl) ?_)))))
 refine aM hf rfl (cP rfl rfl (lf rfl)) (bJ hf rfl rfl rfl aO7 (aE aA 1 rfl (aD (hK1 _ (aC (fun K2 hK2=>(aC (fun K3 hK3=>(aB (aE aA 1 rfl (aM hf rfl (aQ rfl rfl aPe rfl ((show Den Tryz.prog _ _ (·=.s (.bool true)) from aC3 (aPa e hu ho) (by rw[he])))) ?_)))))))))))
 refine aE aA 1 rfl (aD (hK3 _ (bW rfl (aN (hK2 _ (aC (fun K4 hK4=>(aC (fun K5 hK5=>(aB (aE aA 5 rfl (aD (hK5 _ (cU rfl rfl (fun hc2=>?_) (fun hc2=>?_)))))))))))))))
 ·
  simp only[bs] at hc2
  omega
 ·
  simp only[bs] at hc2
  refine aN (hK4 _ (aC (fun K6 hK6=>(aB (aE aA 4 rfl (aG rfl (cS rfl aPc aPn (l3 rfl) rfl) (cC hf rfl aPc rfl aPr rfl rfl rfl rfl (lf rfl) (aD (hK6 _ (aC (fun K7 hK7=>(aB (aE aA 1 rfl (aD ?_))))))))))))))
  refine hK7 _ (aC (fun K8 hK8=>(aC (fun K9 hK9=>(aB (aE aA 2 rfl (aD (hK9 _ (aO (aC (fun K10 hK10=>(aC (fun K11 hK11=>(aB (aG rfl (eI rfl rfl (eR (by omega))) (aE aA 1 rfl ?_))))))))))))))))
  refine aD (hK11 _ (bW rfl (aC (fun K12 hK12=>(aB (aG rfl (eI rfl rfl (eR (by omega))) (aE aA 1 rfl (aD (hK12 _ (bW rfl (aB (aG rfl (eI rfl rfl (kW (by omega))) (aE aA 1 rfl ?_)))))))))))))
  refine aD (hK10 _ (bU rfl (aB (aE aA 2 rfl (aM hf rfl (aQ rfl rfl aP3 rfl (aC3 (aQp s e hz hr hr2 ts hu ho hk) (show _=AV.tup [.agg (aY D),.s (.int .i64 N)] from by rw[hd]))) ?_)))))
  refine aE aA 3 rfl (aT hf rfl rfl aHx rfl rfl (l1 rfl) (l4 rfl) rfl (aE aA 1 rfl ?_))
  refine bG ?_
  refine hK8 _ (aC (fun K13 hK13=>(aC (fun K14 hK14=>(aB (aE aA 2 rfl (aD (hK14 _ (cU rfl rfl (fun hc6=>?_) (fun hc6=>?_))))))))))
  ·
   simp only[bs] at hc6
   refine aC (fun K15 hK15=>(aB (aG rfl (cS rfl aO7 aPh (l3 rfl) rfl) (cD (rN oI) (aE aA 1 rfl (aT hf rfl rfl aHx rfl rfl (l1 rfl) (l4 rfl) rfl (aE aA 1 rfl (aD (hK15 _ (aJ ?_))))))))))
   refine⟨_,rfl,?_⟩
   rw[cQ,if_pos he,if_neg (by omega),hd,if_neg (by first | assumption | omega | (simp_all; done) | (intro hq; simp only at hq; split at hq <;> simp_all))]; rfl
  ·
   simp only[bs] at hc6
   refine aN (hK13 _ (aC (fun K16 hK16=>(aB (aE aA 3 rfl (aT hf rfl rfl cE rfl rfl (l1 rfl) (l4 rfl) rfl (aD (hK16 _ (aC (fun K17 hK17=>(aB (aG rfl (bP (cs':=[.s (.int .i64 e.at'),.s (.int .i64 D.hor),.sl 4 (D.opn.map seC),.sl 2 (D.usr.map usC),.sl 4 (D.sub.map enC),.sl 2 (D.tmb.map tmC)]) rfl aAl aHx rfl rfl rfl) (aT hf rfl rfl aHx rfl rfl (l1 rfl) (l4 rfl) rfl (aE aA 1 rfl ?_))))))))))))))
   refine aD (hK17 _ (aJ ?_))
   refine⟨_,rfl,?_⟩
   rw[cQ,if_pos he,if_neg (by omega),hd,if_pos (by first | assumption | omega)]; rfl
theorem aRc (s:Sta) (e:Ev) (hz:SzS 140737488355100 s) (hr:cR cM s.usr) (hr2:cR dN s.tmb) (ts:TsS s) (hu:TS e.user) (ho:TS e.other) (hk:e.kind=4) (he:bY e=true) (ht:s.now≤e.at') :Den Tryz.prog 74 [.agg (aY s),.agg (evC e)]  (·=.tup [.agg (aY (cQ s e).1),.s (.int .i64 (cQ s e).2)]):=by
 have z1:=hz.o
 have z2:=hz.u
 have z3:=hz.b
 have z4:=hz.t
 have hd:bA s e=(({ s with sub:=if onB s.sub (e.user,e.other)=true then [] else hJ s.sub (e.user,e.other) e.at' }),if onB s.sub (e.user,e.other)=true then 90 else 0):=by
  rw[bA,if_neg (by omega),if_neg (by omega),if_neg (by omega),if_pos hk]
 refine aU Tryz.func74 rfl (Nat.le_of_ble_eq_true rfl) (fun w0 A hf=>(aC (fun K1 hK1=>(aB (pX hf rfl rfl rfl rfl (l1 rfl) ?_)))))
 refine aM hf rfl (cP rfl rfl (lf rfl)) (bJ hf rfl rfl rfl aO7 (aE aA 1 rfl (aD (hK1 _ (aC (fun K2 hK2=>(aC (fun K3 hK3=>(aB (aE aA 1 rfl (aM hf rfl (aQ rfl rfl aPe rfl ((show Den Tryz.prog _ _ (·=.s (.bool true)) from aC3 (aPa e hu ho) (by rw[he])))) ?_)))))))))))
 refine aE aA 1 rfl (aD (hK3 _ (bW rfl (aN (hK2 _ (aC (fun K4 hK4=>(aC (fun K5 hK5=>(aB (aE aA 5 rfl (aD (hK5 _ (cU rfl rfl (fun hc2=>?_) (fun hc2=>?_)))))))))))))))
 ·
  simp only[bs] at hc2
  omega
 ·
  simp only[bs] at hc2
  refine aN (hK4 _ (aC (fun K6 hK6=>(aB (aE aA 4 rfl (aG rfl (cS rfl aPc aPn (l3 rfl) rfl) (cC hf rfl aPc rfl aPr rfl rfl rfl rfl (lf rfl) (aD (hK6 _ (aC (fun K7 hK7=>(aB (aE aA 1 rfl (aD ?_))))))))))))))
  refine hK7 _ (aC (fun K8 hK8=>(aC (fun K9 hK9=>(aB (aE aA 2 rfl (aD (hK9 _ (aO (aC (fun K10 hK10=>(aC (fun K11 hK11=>(aB (aG rfl (eI rfl rfl (eR (by omega))) (aE aA 1 rfl ?_))))))))))))))))
  refine aD (hK11 _ (bW rfl (aC (fun K12 hK12=>(aB (aG rfl (eI rfl rfl (eR (by omega))) (aE aA 1 rfl (aD (hK12 _ (bW rfl (aB (aG rfl (eI rfl rfl (eR (by omega))) (aE aA 1 rfl ?_)))))))))))))
  refine aD (hK10 _ (bW rfl (aC (fun K13 hK13=>(aB (aG rfl (eI rfl rfl (kW (by omega))) (aE aA 1 rfl (aD (hK13 _ (bU rfl (aB (aE aA 5 rfl (aM hf rfl (aQ rfl rfl aSa rfl (aRp s.sub (e.user,e.other) e.at' (by omega) ts.b hu ho)) ?_)))))))))))))
  refine aE aA 4 rfl (aT hf rfl rfl aHy rfl rfl (l1 rfl) (l4 rfl) rfl (aE aA 1 rfl ?_))
  refine bG ?_
  refine hK8 _ (aC (fun K14 hK14=>(aC (fun K15 hK15=>(aB (aE aA 2 rfl (aD (hK15 _ (cU rfl rfl (fun hc7=>?_) (fun hc7=>?_))))))))))
  ·
   simp only[bs] at hc7
   refine aC (fun K16 hK16=>(aB (aG rfl (cS rfl aO7 aPh (l3 rfl) rfl) (cD (rN oI) (aE aA 1 rfl (aT hf rfl rfl aHx rfl rfl (l1 rfl) (l4 rfl) rfl (aE aA 1 rfl (aD (hK16 _ (aJ ?_))))))))))
   refine⟨_,rfl,?_⟩
   rw[cQ,if_pos he,if_neg (by omega),hd,if_neg (by first | assumption | omega | (simp_all; done) | (intro hq; simp only at hq; split at hq <;> simp_all))]; rfl
  ·
   simp only[bs] at hc7
   refine aN (hK14 _ (aC (fun K17 hK17=>(aB (aE aA 3 rfl (aT hf rfl rfl cE rfl rfl (l1 rfl) (l4 rfl) rfl (aD (hK17 _ (aC (fun K18 hK18=>(aB (aG rfl (bP (cs':=[.s (.int .i64 e.at'),.s (.int .i64 s.hor),.sl 4 (s.opn.map seC),.sl 2 (s.usr.map usC),.sl 4 ((if onB s.sub (e.user,e.other)=true then [] else hJ s.sub (e.user,e.other) e.at').map enC),.sl 2 (s.tmb.map tmC)]) rfl aAl aHx rfl rfl rfl) (aT hf rfl rfl aHx rfl rfl (l1 rfl) (l4 rfl) rfl (aE aA 1 rfl ?_))))))))))))))
   refine aD (hK18 _ (aJ ?_))
   refine⟨_,rfl,?_⟩
   rw[cQ,if_pos he,if_neg (by omega),hd,if_pos (by first | assumption | omega)]; rfl
theorem aRb (s:Sta) (e:Ev) (hz:SzS 140737488355100 s) (hr:cR cM s.usr) (hr2:cR dN s.tmb) (ts:TsS s) (hu:TS e.user) (ho:TS e.other) (hk:e.kind=5) (he:bY e=true) (ht:s.now≤e.at') :Den Tryz.prog 74 [.agg (aY s),.agg (evC e)]  (·=.tup [.agg (aY (cQ s e).1),.s (.int .i64 (cQ s e).2)]):=by
 have z1:=hz.o
 have z2:=hz.u
 have z3:=hz.b
 have z4:=hz.t
 have hd:bA s e=(({ s with sub:=if onB s.sub (e.user,e.other)=true then iZ s.sub (e.user,e.other) e.at' else [] }),if onB s.sub (e.user,e.other)=true then 0 else 91):=by
  rw[bA,if_neg (by omega),if_neg (by omega),if_neg (by omega),if_neg (by omega),if_pos hk]
 refine aU Tryz.func74 rfl (Nat.le_of_ble_eq_true rfl) (fun w0 A hf=>(aC (fun K1 hK1=>(aB (pX hf rfl rfl rfl rfl (l1 rfl) ?_)))))
 refine aM hf rfl (cP rfl rfl (lf rfl)) (bJ hf rfl rfl rfl aO7 (aE aA 1 rfl (aD (hK1 _ (aC (fun K2 hK2=>(aC (fun K3 hK3=>(aB (aE aA 1 rfl (aM hf rfl (aQ rfl rfl aPe rfl ((show Den Tryz.prog _ _ (·=.s (.bool true)) from aC3 (aPa e hu ho) (by rw[he])))) ?_)))))))))))
 refine aE aA 1 rfl (aD (hK3 _ (bW rfl (aN (hK2 _ (aC (fun K4 hK4=>(aC (fun K5 hK5=>(aB (aE aA 5 rfl (aD (hK5 _ (cU rfl rfl (fun hc2=>?_) (fun hc2=>?_)))))))))))))))
 ·
  simp only[bs] at hc2
  omega
 ·
  simp only[bs] at hc2
  refine aN (hK4 _ (aC (fun K6 hK6=>(aB (aE aA 4 rfl (aG rfl (cS rfl aPc aPn (l3 rfl) rfl) (cC hf rfl aPc rfl aPr rfl rfl rfl rfl (lf rfl) (aD (hK6 _ (aC (fun K7 hK7=>(aB (aE aA 1 rfl (aD ?_))))))))))))))
  refine hK7 _ (aC (fun K8 hK8=>(aC (fun K9 hK9=>(aB (aE aA 2 rfl (aD (hK9 _ (aO (aC (fun K10 hK10=>(aC (fun K11 hK11=>(aB (aG rfl (eI rfl rfl (eR (by omega))) (aE aA 1 rfl ?_))))))))))))))))
  refine aD (hK11 _ (bW rfl (aC (fun K12 hK12=>(aB (aG rfl (eI rfl rfl (eR (by omega))) (aE aA 1 rfl (aD (hK12 _ (bW rfl (aB (aG rfl (eI rfl rfl (eR (by omega))) (aE aA 1 rfl ?_)))))))))))))
  refine aD (hK10 _ (bW rfl (aC (fun K13 hK13=>(aB (aG rfl (eI rfl rfl (eR (by omega))) (aE aA 1 rfl (aD (hK13 _ (bW rfl (aC (fun K14 hK14=>(aB (aG rfl (eI rfl rfl (kW (by omega))) ?_))))))))))))))
  refine aE aA 1 rfl (aD (hK14 _ (bU rfl (aB (aE aA 5 rfl (aM hf rfl (aQ rfl rfl aR9 rfl (aQ5 s.sub (e.user,e.other) e.at' (by omega))) (aE aA 4 rfl (aT hf rfl rfl aHy rfl rfl (l1 rfl) (l4 rfl) rfl (aE aA 1 rfl ?_)))))))))
  refine bG ?_
  refine hK8 _ (aC (fun K15 hK15=>(aC (fun K16 hK16=>(aB (aE aA 2 rfl (aD (hK16 _ (cU rfl rfl (fun hc8=>?_) (fun hc8=>?_))))))))))
  ·
   simp only[bs] at hc8
   refine aC (fun K17 hK17=>(aB (aG rfl (cS rfl aO7 aPh (l3 rfl) rfl) (cD (rN oI) (aE aA 1 rfl (aT hf rfl rfl aHx rfl rfl (l1 rfl) (l4 rfl) rfl (aE aA 1 rfl (aD (hK17 _ (aJ ?_))))))))))
   refine⟨_,rfl,?_⟩
   rw[cQ,if_pos he,if_neg (by omega),hd,if_neg (by first | assumption | omega | (simp_all; done) | (intro hq; simp only at hq; split at hq <;> simp_all))]; rfl
  ·
   simp only[bs] at hc8
   refine aN (hK15 _ (aC (fun K18 hK18=>(aB (aE aA 3 rfl (aT hf rfl rfl cE rfl rfl (l1 rfl) (l4 rfl) rfl (aD (hK18 _ (aC (fun K19 hK19=>(aB (aG rfl (bP (cs':=[.s (.int .i64 e.at'),.s (.int .i64 s.hor),.sl 4 (s.opn.map seC),.sl 2 (s.usr.map usC),.sl 4 ((if onB s.sub (e.user,e.other)=true then iZ s.sub (e.user,e.other) e.at' else []).map enC),.sl 2 (s.tmb.map tmC)]) rfl aAl aHx rfl rfl rfl) (aT hf rfl rfl aHx rfl rfl (l1 rfl) (l4 rfl) rfl (aE aA 1 rfl ?_))))))))))))))
   refine aD (hK19 _ (aJ ?_))
   refine⟨_,rfl,?_⟩
   rw[cQ,if_pos he,if_neg (by omega),hd,if_pos (by first | assumption | omega)]; rfl
theorem aRa (s:Sta) (e:Ev) (hz:SzS 140737488355100 s) (hr:cR cM s.usr) (hr2:cR dN s.tmb) (ts:TsS s) (hu:TS e.user) (ho:TS e.other) (hk:e.kind=6) (he:bY e=true) (ht:s.now≤e.at') :Den Tryz.prog 74 [.agg (aY s),.agg (evC e)]  (·=.tup [.agg (aY (cQ s e).1),.s (.int .i64 (cQ s e).2)]):=by
 have z1:=hz.o
 have z2:=hz.u
 have z3:=hz.b
 have z4:=hz.t
 have hd:bA s e=(({ s with hor:=max s.hor e.n }),0):=by
  rw[bA,if_neg (by omega),if_neg (by omega),if_neg (by omega),if_neg (by omega),if_neg (by omega),if_pos hk]
 refine aU Tryz.func74 rfl (Nat.le_of_ble_eq_true rfl) (fun w0 A hf=>(aC (fun K1 hK1=>(aB (pX hf rfl rfl rfl rfl (l1 rfl) ?_)))))
 refine aM hf rfl (cP rfl rfl (lf rfl)) (bJ hf rfl rfl rfl aO7 (aE aA 1 rfl (aD (hK1 _ (aC (fun K2 hK2=>(aC (fun K3 hK3=>(aB (aE aA 1 rfl (aM hf rfl (aQ rfl rfl aPe rfl ((show Den Tryz.prog _ _ (·=.s (.bool true)) from aC3 (aPa e hu ho) (by rw[he])))) ?_)))))))))))
 refine aE aA 1 rfl (aD (hK3 _ (bW rfl (aN (hK2 _ (aC (fun K4 hK4=>(aC (fun K5 hK5=>(aB (aE aA 5 rfl (aD (hK5 _ (cU rfl rfl (fun hc2=>?_) (fun hc2=>?_)))))))))))))))
 ·
  simp only[bs] at hc2
  omega
 ·
  simp only[bs] at hc2
  refine aN (hK4 _ (aC (fun K6 hK6=>(aB (aE aA 4 rfl (aG rfl (cS rfl aPc aPn (l3 rfl) rfl) (cC hf rfl aPc rfl aPr rfl rfl rfl rfl (lf rfl) (aD (hK6 _ (aC (fun K7 hK7=>(aB (aE aA 1 rfl (aD ?_))))))))))))))
  refine hK7 _ (aC (fun K8 hK8=>(aC (fun K9 hK9=>(aB (aE aA 2 rfl (aD (hK9 _ (aO (aC (fun K10 hK10=>(aC (fun K11 hK11=>(aB (aG rfl (eI rfl rfl (eR (by omega))) (aE aA 1 rfl ?_))))))))))))))))
  refine aD (hK11 _ (bW rfl (aC (fun K12 hK12=>(aB (aG rfl (eI rfl rfl (eR (by omega))) (aE aA 1 rfl (aD (hK12 _ (bW rfl (aB (aG rfl (eI rfl rfl (eR (by omega))) (aE aA 1 rfl ?_)))))))))))))
  refine aD (hK10 _ (bW rfl (aC (fun K13 hK13=>(aB (aG rfl (eI rfl rfl (eR (by omega))) (aE aA 1 rfl (aD (hK13 _ (bW rfl (aC (fun K14 hK14=>(aB (aG rfl (eI rfl rfl (eR (by omega))) ?_))))))))))))))
  refine aE aA 1 rfl (aD (hK14 _ (bW rfl (aC (fun K15 hK15=>(aB (aG rfl (eI rfl rfl (kW (by omega))) (aE aA 1 rfl (aD (hK15 _ (bU rfl (aB (aE aA 4 rfl ?_)))))))))))))
  refine aG rfl (aVg rfl rfl) (aE aA 1 rfl (aT hf rfl rfl cE rfl rfl (l1 rfl) (l4 rfl) rfl ?_))
  refine bG ?_
  refine hK8 _ (aC (fun K16 hK16=>(aC (fun K17 hK17=>(aB (aE aA 2 rfl (aD (hK17 _ (cU rfl rfl (fun hc9=>?_) (fun hc9=>?_))))))))))
  ·
   simp only[bs] at hc9
   refine aC (fun K18 hK18=>(aB (aG rfl (cS rfl aO7 aPh (l3 rfl) rfl) (cD (rN oI) (aE aA 1 rfl (aT hf rfl rfl aHx rfl rfl (l1 rfl) (l4 rfl) rfl (aE aA 1 rfl (aD (hK18 _ (aJ ?_))))))))))
   refine⟨_,rfl,?_⟩
   rw[cQ,if_pos he,if_neg (by omega),hd,if_neg (by first | assumption | omega | (simp_all; done) | (intro hq; simp only at hq; split at hq <;> simp_all))]; rfl
  ·
   simp only[bs] at hc9
   refine aN (hK16 _ (aC (fun K19 hK19=>(aB (aE aA 3 rfl (aT hf rfl rfl cE rfl rfl (l1 rfl) (l4 rfl) rfl (aD (hK19 _ (aC (fun K20 hK20=>(aB (aG rfl (bP (cs':=[.s (.int .i64 e.at'),.s (.int .i64 (max s.hor e.n)),.sl 4 (s.opn.map seC),.sl 2 (s.usr.map usC),.sl 4 (s.sub.map enC),.sl 2 (s.tmb.map tmC)]) rfl aAl aHx rfl rfl rfl) (aT hf rfl rfl aHx rfl rfl (l1 rfl) (l4 rfl) rfl (aE aA 1 rfl ?_))))))))))))))
   refine aD (hK20 _ (aJ ?_))
   refine⟨_,rfl,?_⟩
   rw[cQ,if_pos he,if_neg (by omega),hd,if_pos (by first | assumption | omega)]; rfl
theorem aQ9 (s:Sta) (e:Ev) (hz:SzS 140737488355100 s) (hr:cR cM s.usr) (hr2:cR dN s.tmb) (ts:TsS s) (hu:TS e.user) (ho:TS e.other) (hk:e.kind=7) (he:bY e=true) (ht:s.now≤e.at') :Den Tryz.prog 74 [.agg (aY s),.agg (evC e)]  (·=.tup [.agg (aY (cQ s e).1),.s (.int .i64 (cQ s e).2)]):=by
 have z1:=hz.o
 have z2:=hz.u
 have z3:=hz.b
 have z4:=hz.t
 have hd:bA s e=((fM s e.user e.at'),0):=by
  rw[bA,if_neg (by omega),if_neg (by omega),if_neg (by omega),if_neg (by omega),if_neg (by omega),if_neg (by omega)]
 refine aU Tryz.func74 rfl (Nat.le_of_ble_eq_true rfl) (fun w0 A hf=>(aC (fun K1 hK1=>(aB (pX hf rfl rfl rfl rfl (l1 rfl) ?_)))))
 refine aM hf rfl (cP rfl rfl (lf rfl)) (bJ hf rfl rfl rfl aO7 (aE aA 1 rfl (aD (hK1 _ (aC (fun K2 hK2=>(aC (fun K3 hK3=>(aB (aE aA 1 rfl (aM hf rfl (aQ rfl rfl aPe rfl ((show Den Tryz.prog _ _ (·=.s (.bool true)) from aC3 (aPa e hu ho) (by rw[he])))) ?_)))))))))))
 refine aE aA 1 rfl (aD (hK3 _ (bW rfl (aN (hK2 _ (aC (fun K4 hK4=>(aC (fun K5 hK5=>(aB (aE aA 5 rfl (aD (hK5 _ (cU rfl rfl (fun hc2=>?_) (fun hc2=>?_)))))))))))))))
 ·
  simp only[bs] at hc2
  omega
 ·
  simp only[bs] at hc2
  refine aN (hK4 _ (aC (fun K6 hK6=>(aB (aE aA 4 rfl (aG rfl (cS rfl aPc aPn (l3 rfl) rfl) (cC hf rfl aPc rfl aPr rfl rfl rfl rfl (lf rfl) (aD (hK6 _ (aC (fun K7 hK7=>(aB (aE aA 1 rfl (aD ?_))))))))))))))
  refine hK7 _ (aC (fun K8 hK8=>(aC (fun K9 hK9=>(aB (aE aA 2 rfl (aD (hK9 _ (aO (aC (fun K10 hK10=>(aC (fun K11 hK11=>(aB (aG rfl (eI rfl rfl (eR (by omega))) (aE aA 1 rfl ?_))))))))))))))))
  refine aD (hK11 _ (bW rfl (aC (fun K12 hK12=>(aB (aG rfl (eI rfl rfl (eR (by omega))) (aE aA 1 rfl (aD (hK12 _ (bW rfl (aB (aG rfl (eI rfl rfl (eR (by omega))) (aE aA 1 rfl ?_)))))))))))))
  refine aD (hK10 _ (bW rfl (aC (fun K13 hK13=>(aB (aG rfl (eI rfl rfl (eR (by omega))) (aE aA 1 rfl (aD (hK13 _ (bW rfl (aC (fun K14 hK14=>(aB (aG rfl (eI rfl rfl (eR (by omega))) ?_))))))))))))))
  refine aE aA 1 rfl (aD (hK14 _ (bW rfl (aC (fun K15 hK15=>(aB (aG rfl (eI rfl rfl (eR (by omega))) (aE aA 1 rfl (aD (hK15 _ (bW rfl (aC (fun K16 hK16=>(aB ?_))))))))))))))
  refine aG rfl (eI rfl rfl (kW (by omega))) (aE aA 1 rfl (aD (hK16 _ (bU rfl (aC (fun K17 hK17=>(aB (aE aA 4 rfl (aM hf rfl (aQ rfl rfl aR8 rfl (aQg s.opn e.user (by omega))) (aE aA 1 rfl (aT hf rfl rfl aHz rfl rfl (l1 rfl) (l4 rfl) rfl (aD (hK17 _ ?_)))))))))))))
  refine aC (fun K18 hK18=>(aB (aE aA 4 rfl (aM hf rfl (aQ rfl rfl aR7 rfl (aQv s.sub e.user (by omega))) (aE aA 1 rfl (aT hf rfl rfl aHy rfl rfl (l1 rfl) (l4 rfl) rfl (aD (hK18 _ (aC (fun K19 hK19=>(aB (aE aA 4 rfl (aM hf rfl (aQ rfl rfl aQo rfl (aSh (a:=[_,_]) (k:=4) (aQi s.usr e.user [] (by omega) hu ts.u hr))) (aE aA 1 rfl ?_))))))))))))))
  refine aT hf rfl rfl aSb rfl rfl (l1 rfl) (l4 rfl) rfl (aD (hK19 _ (aB (aE aA 6 rfl (aM hf rfl (aQ rfl rfl aR6 rfl (aQ4 s.tmb e.user e.at' (by omega) hu ts.t hr2)) (aE aA 1 rfl (aT hf rfl rfl aS8 rfl rfl (l1 rfl) (l4 rfl) rfl ?_)))))))
  refine bG ?_
  refine hK8 _ (aC (fun K20 hK20=>(aC (fun K21 hK21=>(aB (aE aA 2 rfl (aD (hK21 _ (cU rfl rfl (fun hc10=>?_) (fun hc10=>?_))))))))))
  ·
   simp only[bs] at hc10
   refine aC (fun K22 hK22=>(aB (aG rfl (cS rfl aO7 aPh (l3 rfl) rfl) (cD (rN oI) (aE aA 1 rfl (aT hf rfl rfl aHx rfl rfl (l1 rfl) (l4 rfl) rfl (aE aA 1 rfl (aD (hK22 _ (aJ ?_))))))))))
   refine⟨_,rfl,?_⟩
   rw[cQ,if_pos he,if_neg (by omega),hd,if_neg (by first | assumption | omega | (simp_all; done) | (intro hq; simp only at hq; split at hq <;> simp_all))]; rfl
  ·
   simp only[bs] at hc10
   refine aN (hK20 _ (aC (fun K23 hK23=>(aB (aE aA 3 rfl (aT hf rfl rfl cE rfl rfl (l1 rfl) (l4 rfl) rfl (aD (hK23 _ (aC (fun K24 hK24=>(aB (aG rfl (bP (cs':=[.s (.int .i64 e.at'),.s (.int .i64 s.hor),.sl 4 ((s.opn.filter fun e_1=>!rW e.user e_1).map seC),.sl 2 ((pK s.usr e.user []).map usC),.sl 4 ((s.sub.filter fun e_1=>!zO e.user e_1).map enC),.sl 2 ((qA s.tmb e.user e.at').map tmC)]) rfl aAl aHx rfl rfl rfl) (aT hf rfl rfl aHx rfl rfl (l1 rfl) (l4 rfl) rfl (aE aA 1 rfl ?_))))))))))))))
   refine aD (hK24 _ (aJ ?_))
   refine⟨_,rfl,?_⟩
   rw[cQ,if_pos he,if_neg (by omega),hd,if_pos (by first | assumption | omega)]; rfl
end Go.Proofs.YthapfogcaklbbaaGreat
set_option linter.unusedVariables false
set_option linter.unusedSimpArgs false
namespace Go.Proofs.YthapfogcaklbbaaGreat
open Go Go.Abs
theorem aQ8 (s:Sta) (e:Ev) (hu:TS e.user) (ho:TS e.other) (he:bY e=false) :Den Tryz.prog 74 [.agg (aY s),.agg (evC e)]  (·=.tup [.agg (aY oE),.s (.int .i64 110)]):=by
 refine aU Tryz.func74 rfl (Nat.le_of_ble_eq_true rfl) (fun w0 A hf=>(aC (fun K1 hK1=>(aB (pX hf rfl rfl rfl rfl (l1 rfl) ?_)))))
 refine aM hf rfl (cP rfl rfl (lf rfl)) (bJ hf rfl rfl rfl aO7 (aE aA 1 rfl (aD (hK1 _ (aC (fun K2 hK2=>(aC (fun K3 hK3=>(aB (aE aA 1 rfl (aM hf rfl (aQ rfl rfl aPe rfl ((show Den Tryz.prog _ _ (·=.s (.bool false)) from aC3 (aPa e hu ho) (by rw[he])))) ?_)))))))))))
 refine aE aA 1 rfl (aD (hK3 _ (bU rfl (aC (fun K4 hK4=>(aB (aG rfl (cS rfl aO7 aPh (l3 rfl) rfl) (cD (rN oI) (aT hf rfl rfl aHx rfl rfl (l1 rfl) (l4 rfl) rfl (aE aA 1 rfl (aD (hK4 _ (aJ ?_)))))))))))))
 refine⟨_,rfl,?_⟩
 rfl
theorem aQ7 (s:Sta) (e:Ev) (hu:TS e.user) (ho:TS e.other) (he:bY e=true) (ht:e.at'<s.now) :Den Tryz.prog 74 [.agg (aY s),.agg (evC e)]  (·=.tup [.agg (aY oE),.s (.int .i64 111)]):=by
 refine aU Tryz.func74 rfl (Nat.le_of_ble_eq_true rfl) (fun w0 A hf=>(aC (fun K1 hK1=>(aB (pX hf rfl rfl rfl rfl (l1 rfl) ?_)))))
 refine aM hf rfl (cP rfl rfl (lf rfl)) (bJ hf rfl rfl rfl aO7 (aE aA 1 rfl (aD (hK1 _ (aC (fun K2 hK2=>(aC (fun K3 hK3=>(aB (aE aA 1 rfl (aM hf rfl (aQ rfl rfl aPe rfl ((show Den Tryz.prog _ _ (·=.s (.bool true)) from aC3 (aPa e hu ho) (by rw[he])))) ?_)))))))))))
 refine aE aA 1 rfl (aD (hK3 _ (bW rfl (aN (hK2 _ (aC (fun K4 hK4=>(aC (fun K5 hK5=>(aB (aE aA 5 rfl (aD (hK5 _ (cU rfl rfl (fun hc2=>?_) (fun hc2=>?_)))))))))))))))
 ·
  simp only[bs] at hc2
  refine aC (fun K6 hK6=>(aB (aG rfl (cS rfl aO7 aPh (l3 rfl) rfl) (cD (rN oI) (aT hf rfl rfl aHx rfl rfl (l1 rfl) (l4 rfl) rfl (aE aA 1 rfl (aD (hK6 _ (aJ ?_)))))))))
  refine⟨_,rfl,?_⟩
  rfl
 ·
  simp only[bs] at hc2
  omega
theorem aQc (s:Sta) (e:Ev) (hz:SzS 140737488355100 s) (hr:cR cM s.usr) (hr2:cR dN s.tmb) (ts:TsS s) (hu:TS e.user) (ho:TS e.other):Den Tryz.prog 74 [.agg (aY s),.agg (evC e)] (·=.tup [.agg (aY (cQ s e).1),.s (.int .i64 (cQ s e).2)]):=by
  cases he:bY e with
  | false=>exact aC3 (aQ8 s e hu ho he) (by rw[show cQ s e=(oE,110) from by rw[cQ,if_neg (by rw[he]; decide)]])
  | true =>
    by_cases ht:e.at'<s.now
    · exact aC3 (aQ7 s e hu ho he ht) (by rw[show cQ s e=(oE,111) from by rw[cQ,if_pos he,if_pos ht]])
    · have ht:=Int.not_lt.1 ht
      rcases zV he with ⟨hk,_⟩ | ⟨hk,_⟩ | ⟨hk,_⟩ | ⟨hk,_⟩ | ⟨hk,_⟩ | ⟨hk,_⟩ | ⟨hk,_⟩
      · exact aRf s e hz hr hr2 ts hu ho hk he ht
      · exact aRe s e hz hr hr2 ts hu ho hk he ht
      · exact aRd s e hz hr hr2 ts hu ho hk he ht
      · exact aRc s e hz hr hr2 ts hu ho hk he ht
      · exact aRb s e hz hr hr2 ts hu ho hk he ht
      · exact aRa s e hz hr hr2 ts hu ho hk he ht
      · exact aQ9 s e hz hr hr2 ts hu ho hk he ht
end Go.Proofs.YthapfogcaklbbaaGreat
set_option linter.unusedVariables false
set_option linter.unusedSimpArgs false
namespace Go.Abs
open Go
def NeU (l:List Us):Prop:=∀ x∈l,x.2≠[]
theorem set_ne {l:List Us} {u:ByteArray} {ys:List bD} (h:NeU l):NeU (pK l u ys):=fun x hx=>by
  rcases kC.1 hx with hx | hx
  · exact h x hx.1
  · unfold qF at hx
    split at hx
    · cases hx
    · rename_i hne; rw[List.mem_singleton.1 hx]; exact hne
theorem add_ne {l:List Us} {u:ByteArray} {x:bD} (h:NeU l):NeU (kK l u x):=by
  unfold kK; split
  · exact h
  · exact set_ne h
theorem aOr {l:List Us} (h:cR cM l) {u v:ByteArray} {x:bD}:ofU (kK l u x) v=if v=u then gX (ofU l u) x else ofU l v:=by
  unfold kK gX
  split
  · split
    · rename_i hv; rw[hv]
    · rfl
  · rw[aOp h]
theorem aNe {l:List bD} {x:bD} (h:Srt gK l):Srt gK (gX l x):=by
  unfold gX; split
  · exact h
  · exact mY h
structure GoU (l:List Us):Prop where
  r:cR cM l
  s:∀ u,Srt gK (ofU l u)
  n:NeU l
theorem GoU.add {l:List Us} {u:ByteArray} {x:bD} (h:GoU l):GoU (kK l u x):=⟨aNb h.r,fun v=>by
  rw[aOr h.r]; split
  · exact aNe (h.s u)
  · exact h.s v,add_ne h.n⟩
theorem aSv {s:Sta} (h:RightP s):GoU s.usr:=⟨h.usr,fun u=>aBh ((tJ _).1 (aKs h u).1).2,fun x hx=>(mR.1 (h.uok x hx)).1⟩
theorem aM6 {s:Sta} {e:Ev} (h0:(cQ s e).2=0):bY e=true∧s.now≤e.at'∧(bA s e).2=0∧(cQ s e).1={ (bA s e).1 with now:=e.at' }:=by
  unfold cQ at h0 ⊢
  split at h0
  · rename_i he
    split at h0
    · simp at h0
    · rename_i ht
      split at h0
      · rename_i h2
        rw[if_pos he,if_neg ht,if_pos h2]
        exact⟨he,Int.not_lt.1 ht,h2,rfl⟩
      · rename_i h2; exact absurd h0 h2
  · simp at h0
theorem aNr {pre post:List Se} {e:Se} {v:ByteArray} {t:Int} (h:e.1.2≠v):iY (pre++e::post) v t=iY (pre++post) v t:=by
  simp only[iY,List.flatMap_append,List.flatMap_cons]
  rw[if_neg (by rintro ⟨h1,_⟩; simp [rW] at h1; exact h h1)]
  rfl
theorem aNy {α:Type} (q:α→Bool) (e:α):∀ l:List α,∃ pre post,l=pre++post∧zN q e l=pre++e::post
  | []=>⟨[],[],rfl,rfl⟩
  | x::l=>by
    rw[zN]; split
    · exact⟨[],x::l,rfl,rfl⟩
    · obtain ⟨pre,post,e1,e2⟩:=aNy q e l
      exact⟨x::pre,post,by rw[e1]; rfl,by rw[e2]; rfl⟩
theorem aOt {l:List Se} {e:Se} {v:ByteArray} {t:Int} (h:e.1.2≠v) (h0:sP l e=0):fG (nR l e) v t=fG l v t:=by
  rw[nR,if_pos h0]
  obtain ⟨pre,post,e1,e2⟩:=aNy (kR e.1.1) e l
  rw[fG,aCo,e2,aNr h,← e1,fG]
theorem aOv {l:List Se} {n st t':Int} {u v:ByteArray} {t:Int} (h:u≠v) (h0:gH l n u=0):fG (nT l n u st t') v t=fG l v t:=by
  obtain ⟨pre,x,post,e1,e2,e3,e4,e5⟩:=zZ h0
  rw[nT,if_pos h0,e4,fG,fG,aNr (by rw[e2]; exact h),e1,aNr (by rw[e2]; exact h)]
theorem aOu {l:List Se} {n:Int} {u v:ByteArray} {t:Int} (h:u≠v) (h0:gH l n u=0):fG (nS l n u) v t=fG l v t:=by
  obtain ⟨pre,x,post,e1,e2,e3,e4,e5⟩:=zZ h0
  rw[nS,if_pos h0,e5,fG,fG,e1,aNr (by rw[e2]; exact h)]
theorem aOc {l:List Us} (h:cR cM l) {u v:ByteArray} {x:bD} (hne:u≠v):ofU (kK l u x) v=ofU l v:=by
  rw[aOr h,if_neg (fun e=>hne e.symm)]
theorem aN9 {s:Sta} {e:Ev} {v:ByteArray} {t:Int} (h:RightP s) (hk:e.kind≤3) (hv:e.user≠v) (h0:(cQ s e).2=0) :
    aDz (cQ s e).1 v t=aDz s v t∧(cQ s e).1.tmb.length=s.tmb.length∧(cQ s e).1.sub.length=s.sub.length:=by
  obtain ⟨he,_,h2,e1⟩:=aM6 h0
  rw[e1]
  rcases zV he with ⟨hk',_⟩ | ⟨hk',_⟩ | ⟨hk',_⟩ | ⟨hk',_⟩ | ⟨hk',_⟩ | ⟨hk',_⟩ | ⟨hk',_⟩
  · rw[bA,if_pos hk'] at h2 ⊢
    refine⟨?_,rfl,rfl⟩
    simp only[aDz]
    rw[aOt hv h2]
  · rw[bA,if_neg (by omega),if_pos hk'] at h2 ⊢
    refine⟨?_,rfl,rfl⟩
    simp only[aDz]
    rw[aOv hv h2,aOc h.usr hv]
  · rw[bA,if_neg (by omega),if_neg (by omega),if_pos hk'] at h2 ⊢
    refine⟨?_,rfl,rfl⟩
    simp only[aDz]
    rw[aOu hv h2,aOc h.usr hv]
  all_goals exact absurd hk (by omega)
theorem aNx {u v:ByteArray} {t:Int}:∀ l:List Se,iY (l.filter fun e=>!rW u e) v t=if v=u then [] else iY l v t
  | []=>by split <;> rfl
  | e::l=>by
    have ih:=aNx (u:=u) (v:=v) (t:=t) l
    by_cases he:rW u e=true
    · rw[List.filter_cons_of_neg (by simp [he]),ih]
      split
      · rfl
      · rename_i hv
        have:e.1.2≠v:=fun e'=>hv (by simp [rW] at he; rw[← e',he])
        exact(aNr (pre:=[]) this).symm
    · rw[List.filter_cons_of_pos (by simp [he])]
      show (if rW v e=true∧¬ t≤e.2.2 then [eW e t] else [])++iY _ v t=_
      rw[ih]
      by_cases hv:v=u
      · subst hv; rw[if_pos rfl,if_pos rfl,if_neg (fun h=>he h.1)]; rfl
      · rw[if_neg hv,if_neg hv]; rfl
theorem aOb {s:Sta} {e:Ev} (hk:e.kind=7) (h0:(cQ s e).2=0):(cQ s e).1={ fM s e.user e.at' with now:=e.at' }:=by
  obtain ⟨he,_,h2,e1⟩:=aM6 h0
  rw[e1,bA,if_neg (by omega),if_neg (by omega),if_neg (by omega),if_neg (by omega),if_neg (by omega),if_neg (by omega)]
end Go.Abs
set_option linter.unusedVariables false
set_option linter.unusedSimpArgs false
namespace Go.Abs
open Go
theorem aMg {s:Sta} {x:bD} {k:Nat} (hk:k<s.opn.length) (h1:s.opn[k].1.1=x.2.1) (h2:s.opn[k].2.2<x.1.2):iE s x=false :=
  Bool.eq_false_iff.2 fun h=>by have:=(kF.1 h).1 _ (List.getElem_mem hk) h1; omega
theorem oU {s:Sta} {x:bD} (h:¬ (0≤x.1.1∧x.1.2≤s.now∧1≤x.2.1∧x.2.1≤999∧1≤x.2.2∧x.2.2≤4)):iE s x=false :=
  Bool.eq_false_iff.2 fun h'=>h (kF.1 h').2
theorem aKr {s:Sta} {x:bD} {i:Nat} (hi:s.opn.length≤i) (h:∀ (j:Nat) (hj:j<s.opn.length),j<i→¬ (s.opn[j].1.1=x.2.1∧s.opn[j].2.2<x.1.2)) (h2:0≤x.1.1∧x.1.2≤s.now∧1≤x.2.1∧x.2.1≤999∧1≤x.2.2∧x.2.2≤4):iE s x=true :=
  kF.2 ⟨fun e he hn=>by
    obtain ⟨j,hj,rfl⟩:=List.getElem_of_mem he
    have:=h j hj (by omega)
    exact Int.not_lt.1 fun hl=>this ⟨hn,hl⟩,h2⟩
theorem mS {s:Sta} {x:Us} {k:Nat} (hk:k<x.2.length) (h:iE s x.2[k]=false):false=wY s x:=by
  cases e:wY s x with
  | false=>rfl
  | true=>have:=(mR.1 e).2.2 _ (List.getElem_mem hk); rw[h] at this; cases this
theorem aEq {s:Sta} {x:Us} {k:Nat} {b:Bool} (hk:x.2.length≤k) (h:∀ (j:Nat) (hj:j<x.2.length),j<k→iE s x.2[j]=true) (hb:b=(decide (0<x.2.length)&&uV x.2)):b=wY s x:=by
  have ha:x.2.all (iE s)=true:=List.all_eq_true.2 fun y hy=>by
    obtain ⟨j,hj,rfl⟩:=List.getElem_of_mem hy
    exact h j hj (by omega)
  rw[hb,wY,ha,Bool.and_true]
  congr 1
  cases x.2 <;> simp
def RisUp {α:Type} (key:α→ByteArray) (q:α→Prop) (l:List α) (k:Nat):Prop:=∀ (j:Nat) (hj:j<l.length),j<k→(cH (key l[j])=true∧q l[j]∧∀ h0:0<j,dL (key (l[j - 1]'(by omega))) (key l[j])<0)
theorem RisUp.zero {α:Type} {key:α→ByteArray} {q:α→Prop} {l:List α}:RisUp key q l 0:=fun j hj h=>absurd h (Nat.not_lt_zero _)
theorem RisUp.next {α:Type} {key:α→ByteArray} {q:α→Prop} {l:List α} {k:Nat} (h:RisUp key q l k) (hk:k<l.length) (h1:cH (key l[k])=true) (h2:q l[k]) (h3:∀ h0:0<k,dL (key (l[k - 1]'(by omega))) (key l[k])<0):RisUp key q l (k+1):=kM h hk ⟨h1,h2,h3⟩
theorem RisUp.r {α:Type} {key:α→ByteArray} {q:α→Prop} {l:List α} {k:Nat} (h:RisUp key q l k) (hk:l.length≤k):cR key l:=aJq fun j h0 hj=>(h j hj (by omega)).2.2 h0
theorem RisUp.n {α:Type} {key:α→ByteArray} {q:α→Prop} {l:List α} {k:Nat} (h:RisUp key q l k) (hk:l.length≤k):∀ x∈l,cH (key x)=true:=fun x hx=>by
  obtain ⟨j,hj,rfl⟩:=List.getElem_of_mem hx
  exact(h j hj (by omega)).1
theorem RisUp.q {α:Type} {key:α→ByteArray} {q:α→Prop} {l:List α} {k:Nat} (h:RisUp key q l k) (hk:l.length≤k):∀ x∈l,q x:=fun x hx=>by
  obtain ⟨j,hj,rfl⟩:=List.getElem_of_mem hx
  exact(h j hj (by omega)).2.1
end Go.Abs
set_option linter.unusedVariables false
namespace Go.Abs
open Go
theorem ty_ent {cs:List AV} (h:Ty (.agg [.str,.str,.int .i64,.int .i64]) cs):∃ e:En,cs=enC e∧(TS e.1.1∧TS e.1.2):=by
  simp only[Ty,TyL] at h
  obtain ⟨a,b,rfl,⟨w,rfl,hw⟩,a',b',rfl,⟨u,rfl,hu⟩,a2,b2,rfl,⟨n,rfl,_⟩,a3,b3,rfl,⟨m,rfl,_⟩,rfl⟩:=h
  exact⟨((w,u),(n,m)),rfl,Nat.le_trans hw (by decide),Nat.le_trans hu (by decide)⟩
theorem ty_ents {c:AV} (h:Ty (.sl 48 (.agg [.str,.str,.int .i64,.int .i64])) [c]):∃ l:List En,c=.sl 4 (l.map enC)∧l.length*48≤140737488351232∧∀ e∈l,TS e.1.1∧TS e.1.2:=by
  simp only[Ty] at h
  obtain ⟨xs,hx,_,hl,hxs⟩:=h
  obtain ⟨l,rfl,hr⟩:=pH enC (fun e=>TS e.1.1∧TS e.1.2) (d:=.agg [.str,.str,.int .i64,.int .i64]) (fun cs h=>ty_ent h) (xs:=xs) (fun x hx=>by simp only[Ty]; exact hxs x hx)
  simp only[List.cons.injEq,and_true] at hx
  exact⟨l,hx,by simpa using hl,hr⟩
end Go.Abs
set_option linter.unusedVariables false
set_option linter.unusedSimpArgs false
namespace Go.Abs
open Go
theorem yB (n:Nat):SzS n oE:=⟨by simp [oE],by simp [oE],by simp [oE],by simp [oE],by simp [oE]⟩
theorem nowSz {n:Nat} {s:Sta} {t:Int} (h:SzS n s):SzS n { s with now:=t }:=⟨h.o,h.u,h.b,h.t,h.y⟩
theorem doesSz {n m:Nat} {s:Sta} {e:Ev} (hz:SzS n s) (hr:cR cM s.usr) (he:bY e=true) (hm:n+48≤m):SzS m (bA s e).1:=by
  have z1:=hz.o
  have z2:=hz.u
  have z3:=hz.b
  have z4:=hz.t
  rcases zV he with ⟨hk,_⟩ | ⟨hk,_⟩ | ⟨hk,_⟩ | ⟨hk,_⟩ | ⟨hk,_⟩ | ⟨hk,_⟩ | ⟨hk,_⟩
  · rw[bA,if_pos hk]
    have:=aEp s.opn ((e.n,e.user),(e.st,e.at'))
    exact⟨by show (nR s.opn ((e.n,e.user),(e.st,e.at'))).length*40≤m; omega,Nat.le_trans z2 (by omega),Nat.le_trans z3 (by omega),Nat.le_trans z4 (by omega),fun x hx=>Nat.le_trans (hz.y x hx) (by omega)⟩
  · rw[bA,if_neg (by omega),if_pos hk]
    have:=aF0 s.opn e.n e.user e.st e.at'
    exact addSz (n:=n) (s:={ s with opn:=nT s.opn e.n e.user e.st e.at' }) (u:=e.user) (x:=stR s.opn e.n e.user e.at') ⟨by show (nT s.opn e.n e.user e.st e.at').length*40≤n; omega,z2,z3,z4,hz.y⟩ hr (by omega)
  · rw[bA,if_neg (by omega),if_neg (by omega),if_pos hk]
    have:=aFw s.opn e.n e.user
    exact addSz (n:=n) (s:={ s with opn:=nS s.opn e.n e.user }) (u:=e.user) (x:=stR s.opn e.n e.user e.at') ⟨by show (nS s.opn e.n e.user).length*40≤n; omega,z2,z3,z4,hz.y⟩ hr (by omega)
  · rw[bA,if_neg (by omega),if_neg (by omega),if_neg (by omega),if_pos hk]
    have:=aE1 s.sub (e.user,e.other) e.at'
    exact⟨Nat.le_trans z1 (by omega),Nat.le_trans z2 (by omega),by show (if onB s.sub (e.user,e.other)=true then [] else hJ s.sub (e.user,e.other) e.at').length*48≤m; omega,Nat.le_trans z4 (by omega),fun x hx=>Nat.le_trans (hz.y x hx) (by omega)⟩
  · rw[bA,if_neg (by omega),if_neg (by omega),if_neg (by omega),if_neg (by omega),if_pos hk]
    have:=aE0 s.sub (e.user,e.other) e.at'
    exact⟨Nat.le_trans z1 (by omega),Nat.le_trans z2 (by omega),by show (if onB s.sub (e.user,e.other)=true then iZ s.sub (e.user,e.other) e.at' else []).length*48≤m; omega,Nat.le_trans z4 (by omega),fun x hx=>Nat.le_trans (hz.y x hx) (by omega)⟩
  · rw[bA,if_neg (by omega),if_neg (by omega),if_neg (by omega),if_neg (by omega),if_neg (by omega),if_pos hk]
    exact⟨Nat.le_trans z1 (by omega),Nat.le_trans z2 (by omega),Nat.le_trans z3 (by omega),Nat.le_trans z4 (by omega),fun x hx=>Nat.le_trans (hz.y x hx) (by omega)⟩
  · rw[bA,if_neg (by omega),if_neg (by omega),if_neg (by omega),if_neg (by omega),if_neg (by omega),if_neg (by omega)]
    exact erSz hz hr (by omega)
theorem aJ2 {n m:Nat} {s:Sta} {e:Ev} (hz:SzS n s) (hr:cR cM s.usr) (hm:n+48≤m):SzS m (cQ s e).1:=by
  unfold cQ
  split
  · rename_i he
    split
    · exact yB m
    · split
      · exact nowSz (doesSz hz hr he hm)
      · exact yB m
  · exact yB m
theorem uD {s:Sta} (h:RightP s) (e:Ev):RightP (cQ s e).1:=by
  by_cases h0:(cQ s e).2=0
  · exact aF3 h h0
  · have:(cQ s e).1=oE:=by
      unfold cQ at h0 ⊢
      split
      · rename_i he
        rw[if_pos he] at h0
        split
        · rfl
        · rename_i ht
          rw[if_neg ht] at h0
          split
          · rename_i h2; rw[if_pos h2] at h0; exact absurd rfl h0
          · rfl
      · rfl
    rw[this]; exact sH
theorem aNu {s:Sta} (h:RightP s):s.opn.length≤16:=((iB _).1 h.opn).2
theorem ty_us {cs:List AV} (h:Ty (.agg [.str,.sl 32 (.agg [.int .i64,.int .i64,.int .i64,.int .i64])]) cs):∃ x:Us,cs=usC x∧TS x.1∧x.2.length*32≤140737488351232:=by
  simp only[Ty] at h
  rw[TyL] at h
  obtain ⟨x,y,rfl,h1,h2⟩:=h
  rw[TyL] at h2
  obtain ⟨z,w,rfl,h3,h4⟩:=h2
  have e1:=aCh h1
  have e2:=aCh h3
  simp only[TyL] at h4
  subst h4
  match x,e1,z,e2 with
  | [c],_,[d],_ =>
    obtain ⟨a,rfl,ha⟩:=aO5 h1
    obtain ⟨l,rfl,hl⟩:=ty_sts h3
    exact⟨(a,l),rfl,Nat.le_trans ha (by omega),hl⟩
theorem ty_tm {cs:List AV} (h:Ty (.agg [.str,.int .i64]) cs):∃ x:Tm,cs=tmC x∧TS x.1:=by
  simp only[Ty,TyL] at h
  obtain ⟨a,b,rfl,⟨n,rfl,hn⟩,a',b',rfl,⟨m,rfl,_⟩,rfl⟩:=h
  exact⟨(n,m),rfl,Nat.le_trans hn (by omega)⟩
theorem ty_uss {c:AV} (h:Ty (.sl 40 (.agg [.str,.sl 32 (.agg [.int .i64,.int .i64,.int .i64,.int .i64])])) [c]):∃ l:List Us,c=.sl 2 (l.map usC)∧l.length*40≤140737488351232∧∀ x∈l,TS x.1∧x.2.length*32≤140737488351232:=by
  rw[Ty] at h
  obtain ⟨xs,hx,_,hl,hxs⟩:=h
  obtain ⟨l,rfl,hr⟩:=pH usC (fun x=>TS x.1∧x.2.length*32≤140737488351232) (d:=.agg [.str,.sl 32 (.agg [.int .i64,.int .i64,.int .i64,.int .i64])]) (fun cs h=>ty_us h) (xs:=xs) (fun x hx=>hxs x hx)
  simp only[List.cons.injEq,and_true] at hx
  exact⟨l,hx,by simpa using hl,hr⟩
theorem ty_tms {c:AV} (h:Ty (.sl 24 (.agg [.str,.int .i64])) [c]):∃ l:List Tm,c=.sl 2 (l.map tmC)∧l.length*24≤140737488351232∧∀ x∈l,TS x.1:=by
  rw[Ty] at h
  obtain ⟨xs,hx,_,hl,hxs⟩:=h
  obtain ⟨l,rfl,hr⟩:=pH tmC (fun x=>TS x.1) (d:=.agg [.str,.int .i64]) (fun cs h=>ty_tm h) (xs:=xs) (fun x hx=>hxs x hx)
  simp only[List.cons.injEq,and_true] at hx
  exact⟨l,hx,by simpa using hl,hr⟩
theorem rD {d:TD} {r:List TD} {cs:List AV} (hd:d.n=1) (h:TyL (d::r) cs):∃ c b,cs=c::b∧Ty d [c]∧TyL r b:=by
  rw[TyL] at h
  obtain ⟨a,b,rfl,h1,h2⟩:=h
  have e:=aCh h1
  rw[hd] at e
  match a,e with
  | [c],_=>exact⟨c,b,rfl,h1,h2⟩
theorem aYr {cs:List AV} (h:Ty (.agg [.int .i64,.int .i64,.sl 40 (.agg [.int .i64,.str,.int .i64,.int .i64]),.sl 40 (.agg [.str,.sl 32 (.agg [.int .i64,.int .i64,.int .i64,.int .i64])]),.sl 48 (.agg [.str,.str,.int .i64,.int .i64]),.sl 24 (.agg [.str,.int .i64])]) cs):∃ s:Sta,cs=aY s∧SzS 140737488351232 s∧TsS s:=by
  rw[Ty] at h
  obtain ⟨c1,b1,rfl,h1,r1⟩:=rD rfl h
  obtain ⟨c2,b2,rfl,h2,r2⟩:=rD rfl r1
  obtain ⟨c3,b3,rfl,h3,r3⟩:=rD rfl r2
  obtain ⟨c4,b4,rfl,h4,r4⟩:=rD rfl r3
  obtain ⟨c5,b5,rfl,h5,r5⟩:=rD rfl r4
  obtain ⟨c6,b6,rfl,h6,r6⟩:=rD rfl r5
  rw[TyL] at r6
  subst r6
  obtain ⟨n,rfl,_⟩:=aLw h1
  obtain ⟨m,rfl,_⟩:=aLw h2
  obtain ⟨o,rfl,o1,o2⟩:=ty_ses h3
  obtain ⟨u,rfl,u1,u2⟩:=ty_uss h4
  obtain ⟨b,rfl,b1,b2⟩:=ty_ents h5
  obtain ⟨t,rfl,t1,t2⟩:=ty_tms h6
  exact⟨⟨n,m,o,u,b,t⟩,rfl,⟨o1,u1,b1,t1,fun x hx=>(u2 x hx).2⟩,⟨o2,fun x hx=>(u2 x hx).1,b2,t2⟩⟩
theorem ty_ev {cs:List AV} (h:Ty (.agg [.int .i64,.int .i64,.str,.str,.int .i64,.int .i64]) cs):∃ e:Ev,cs=evC e∧TS e.user∧TS e.other:=by
  simp only[Ty,TyL] at h
  obtain ⟨_,_,rfl,⟨k,rfl,_⟩,_,_,rfl,⟨t,rfl,_⟩,_,_,rfl,⟨u,rfl,hu⟩,_,_,rfl,⟨o,rfl,ho⟩,_,_,rfl,⟨n,rfl,_⟩,_,_,rfl,⟨x,rfl,_⟩,rfl⟩:=h
  exact⟨⟨k,t,u,o,n,x⟩,rfl,Nat.le_trans hu (by omega),Nat.le_trans ho (by omega)⟩
theorem aYo {c:AV} (h:Ty (.sl 64 (.agg [.int .i64,.int .i64,.str,.str,.int .i64,.int .i64])) [c]):∃ l:List Ev,c=.sl 6 (l.map evC)∧l.length*64≤140737488351232∧∀ e∈l,TS e.user∧TS e.other:=by
  rw[Ty] at h
  obtain ⟨xs,hx,_,hl,hxs⟩:=h
  obtain ⟨l,rfl,hr⟩:=pH evC (fun e=>TS e.user∧TS e.other) (d:=.agg [.int .i64,.int .i64,.str,.str,.int .i64,.int .i64]) (fun cs h=>ty_ev h) (xs:=xs) (fun x hx=>hxs x hx)
  simp only[List.cons.injEq,and_true] at hx
  exact⟨l,hx,by simpa using hl,hr⟩
def manyI (s:Sta):Int:=IntKind.i64.wrap (IntKind.i64.wrap ((zY s:Nat):Int)+(s.usr.length:Nat))
end Go.Abs
set_option linter.unusedVariables false
namespace Go.Abs
open Go
theorem aNp:∀ (l a:List bD),(l.foldl gX a).length≤a.length+l.length
  | [],a=>Nat.le_refl _
  | x::l,a=>by
    have:=aNp l (gX a x)
    have:=aAh a x
    simp only[List.foldl_cons,List.length_cons]
    omega
theorem aN8 {n:Nat} {s:Sta} {u:ByteArray} {t:Int} (hz:SzS n s) (hr:cR cM s.usr) (ho:s.opn.length≤16):(aDz s u t).length*32≤n+512:=by
  have h1:(ofU s.usr u).length*32≤n:=aCp (p:=fun x=>x.2.length*32≤n) hr hz.y (by simp)
  have h2:=aNp (fG s.opn u t) (ofU s.usr u)
  have h3:=aKc s.opn u t
  unfold aDz
  omega
abbrev aIq:ByteArray:=⟨#[97,110,110]⟩
end Go.Abs
set_option linter.unusedVariables false
set_option linter.unusedSimpArgs false
namespace Go.Abs
open Go
def gC (s:Sta) (e:Ev):Sta:=if (cQ s e).2=0 then (cQ s e).1 else s
def fH (s:Sta) (l:List Ev):Sta:=l.foldl gC s
def fX:Sta→List Ev→List Int
  | _,[]=>[]
  | s,e::l=>(cQ s e).2::fX (gC s e) l
def dB:Sta→List Ev→List Ev
  | _,[]=>[]
  | s,e::l=>if (cQ s e).2=0 then e::dB (gC s e) l else dB (gC s e) l
def aB2 (u:ByteArray) (e:Ev):Bool:=decide (e.user=u)||decide (e.other=u)
def aDo (u:ByteArray) (l:List Ev):List Ev:=l.filter fun e=>!aB2 u e
theorem aJm {s:Sta} {e:Ev} (h:(cQ s e).2=0):gC s e=(cQ s e).1:=if_pos h
theorem aJn {s:Sta} {e:Ev} (h:(cQ s e).2≠0):gC s e=s:=if_neg h
theorem vN {s:Sta} (h:RightP s) (e:Ev):RightP (gC s e):=by
  unfold gC; split
  · exact uD h e
  · exact h
theorem stepSz {n m:Nat} {s:Sta} {e:Ev} (hz:SzS n s) (h:RightP s) (hm:n+48≤m):SzS m (gC s e):=by
  unfold gC; split
  · exact aJ2 hz h.usr hm
  · exact hz.mono (by omega)
theorem aK3 (s:Sta) (a b:List Ev):fH s (a++b)=fH (fH s a) b:=List.foldl_append
theorem zQ:∀ (l:List Ev) {s:Sta},RightP s→RightP (fH s l)
  | [],_,h=>h
  | e::l,_,h=>zQ l (vN h e)
theorem aMq:∀ (l:List Ev) {n:Nat} {s:Sta},SzS n s→RightP s→SzS (n+48*l.length) (fH s l)
  | [],n,s,hz,_=>hz.mono (by simp)
  | e::l,n,s,hz,h=>(aMq l (stepSz (m:=n+48) hz h (Nat.le_refl _)) (vN h e)).mono (by simp only[List.length_cons]; omega)
theorem xT:∀ (a:List Ev) (s:Sta) (b:List Ev),fX s (a++b)=fX s a++fX (fH s a) b
  | [],_,_=>rfl
  | e::a,s,b=>by
    show _::fX (gC s e) (a++b)=_::(fX (gC s e) a++_)
    rw[xT a (gC s e) b]; rfl
theorem aBe:∀ (a:List Ev) (s:Sta) (b:List Ev),dB s (a++b)=dB s a++dB (fH s a) b
  | [],_,_=>rfl
  | e::a,s,b=>by
    show (if (cQ s e).2=0 then e::dB (gC s e) (a++b) else dB (gC s e) (a++b))=(if (cQ s e).2=0 then e::dB (gC s e) a else dB (gC s e) a)++_
    rw[aBe a (gC s e) b]
    split <;> rfl
theorem kB:∀ (l:List Ev) (s:Sta),(fX s l).length=l.length
  | [],_=>rfl
  | e::l,s=>by simp only[fX,List.length_cons,kB l]
theorem uQ:∀ (l:List Ev) (s:Sta),(dB s l).length≤l.length
  | [],_=>Nat.le_refl _
  | e::l,s=>by
    have:=uQ l (gC s e)
    unfold dB; split <;> simp only[List.length_cons] <;> omega
theorem rE {s:Sta} {l:List Ev} {k:Nat} (hk:k<l.length):fX s (l.take (k+1))=fX s (l.take k)++[(cQ (fH s (l.take k)) l[k]).2]:=by
  rw[List.take_succ_eq_append_getElem hk,xT]; rfl
theorem aBz {s:Sta} {l:List Ev} {k:Nat} (hk:k<l.length):fH s (l.take (k+1))=gC (fH s (l.take k)) l[k]:=by
  rw[List.take_succ_eq_append_getElem hk,aK3]; rfl
theorem aJk {s:Sta} {l:List Ev} {k:Nat} (hk:k<l.length) (hk2:k<(fX s l).length):(fX s l)[k]=(cQ (fH s (l.take k)) l[k]).2:=by
  have e:fX s l=fX s (l.take k)++fX (fH s (l.take k)) (l.drop k):=by rw[← xT,List.take_append_drop]
  have h1:(fX s (l.take k)).length=k:=by rw[kB,List.length_take]; omega
  have h2:fX (fH s (l.take k)) (l.drop k)=(cQ (fH s (l.take k)) l[k]).2::fX (gC (fH s (l.take k)) l[k]) (l.drop (k+1)):=by rw[List.drop_eq_getElem_cons hk]; rfl
  have h3:(fX s l)[k]?=some (cQ (fH s (l.take k)) l[k]).2:=by
    rw[e,List.getElem?_append_right (by omega),h1,Nat.sub_self,h2]; rfl
  rw[List.getElem?_eq_getElem hk2] at h3
  exact Option.some.inj h3
theorem pI {s:Sta} {l:List Ev} {k:Nat} (hk:k<l.length):dB s (l.take (k+1))=dB s (l.take k)++(if (cQ (fH s (l.take k)) l[k]).2=0 then [l[k]] else []):=by
  rw[List.take_succ_eq_append_getElem hk,aBe]; rfl
theorem aP6:∀ (l:List Ev) (s:Sta),fH s (dB s l)=fH s l∧(∀ x∈fX s (dB s l),x=0)∧dB s (dB s l)=dB s l
  | [],_=>⟨rfl,by simp [dB,fX],rfl⟩
  | e::l,s=>by
    obtain ⟨h1,h2,h3⟩:=aP6 l (gC s e)
    by_cases h0:(cQ s e).2=0
    · have et:dB s (e::l)=e::dB (gC s e) l:=if_pos h0
      rw[et]
      refine⟨h1,fun x hx=>?_,?_⟩
      · rcases List.mem_cons.1 hx with rfl | hx
        · exact h0
        · exact h2 x hx
      · show (if (cQ s e).2=0 then _ else _)=_
        rw[if_pos h0,h3]
    · have et:dB s (e::l)=dB (gC s e) l:=if_neg h0
      rw[et]
      have es:=aJn h0
      rw[es] at h1 h2 h3 ⊢
      exact⟨h1.trans (by show _=fH (gC s e) l; rw[es]),h2,h3⟩
theorem tW:∀ (l:List Ev) (s:Sta),(dB s l=[]∧fH s l=s)∨∃ a e,dB s l=a++[e]∧(fH s l).now=e.at'∧s.now≤e.at'∧∀ x∈a,x.at'≤e.at'
  | [],_=>.inl ⟨rfl,rfl⟩
  | e::l,s=>by
    by_cases h0:(cQ s e).2=0
    · have et:dB s (e::l)=e::dB (gC s e) l:=if_pos h0
      obtain ⟨_,hn,_,ha⟩:=aM6 h0
      have hs:(gC s e).now=e.at':=by rw[aJm h0,ha]
      rcases tW l (gC s e) with ⟨h1,h2⟩ | ⟨a,x,h1,h2,h3,h4⟩
      · exact .inr ⟨[],e,by rw[et,h1]; rfl,by show (fH (gC s e) l).now=_; rw[h2,hs],hn,by simp⟩
      · rw[hs] at h3
        exact .inr ⟨e::a,x,by rw[et,h1]; rfl,h2,Int.le_trans hn h3,fun y hy=>by
          rcases List.mem_cons.1 hy with rfl | hy
          · exact h3
          · exact h4 y hy⟩
    · have et:dB s (e::l)=dB (gC s e) l:=if_neg h0
      rw[et]
      have ef:fH s (e::l)=fH (gC s e) l:=rfl
      rw[ef,aJn h0]
      exact tW l s
theorem aO0 (l:List Ev) (s:Sta):s.now≤(fH s l).now:=by
  rcases tW l s with ⟨_,h⟩ | ⟨_,_,_,h1,h2,_⟩
  · rw[h]; exact Int.le_refl _
  · rw[h1]; exact h2
def jC:List Ev→Ev→Ev
  | [],m=>m
  | x::l,m=>jC l (if m.at'<x.at' then x else m)
theorem aEx:∀ (l:List Ev) (m:Ev),m.at'≤(jC l m).at'∧(∀ x∈l,x.at'≤(jC l m).at')∧(jC l m=m∨jC l m∈l)
  | [],m=>⟨Int.le_refl _,by simp,.inl rfl⟩
  | x::l,m=>by
    obtain ⟨h1,h2,h3⟩:=aEx l (if m.at'<x.at' then x else m)
    have e:jC (x::l) m=jC l (if m.at'<x.at' then x else m):=rfl
    rw[e]
    by_cases hx:m.at'<x.at'
    · rw[if_pos hx] at h1 h2 h3 ⊢
      refine⟨by omega,fun y hy=>?_,.inr ?_⟩
      · rcases List.mem_cons.1 hy with rfl | hy
        · exact h1
        · exact h2 y hy
      · rcases h3 with h3 | h3
        · rw[h3]; exact List.mem_cons_self ..
        · exact List.mem_cons_of_mem _ h3
    · rw[if_neg hx] at h1 h2 h3 ⊢
      refine⟨h1,fun y hy=>?_,?_⟩
      · rcases List.mem_cons.1 hy with rfl | hy
        · omega
        · exact h2 y hy
      · rcases h3 with h3 | h3
        · exact .inl h3
        · exact .inr (List.mem_cons_of_mem _ h3)
theorem aN7 {s:Sta} (h:cR cM s.usr) {u v:ByteArray} {t t' T:Int}:aDz { fM s u t with now:=t' } v T=if v=u then [] else aDz s v T:=by
  simp only[aDz,fM]
  rw[aOp h,fG,aNx]
  split
  · rfl
  · rfl
theorem aO3 {s:Sta} {e:Ev} {u:ByteArray} {t:Int} (h:RightP s) (hb:aB2 u e=false) (h0:(cQ s e).2=0):aDz (cQ s e).1 u t=aDz s u t:=by
  simp only[aB2,Bool.or_eq_false_iff,decide_eq_false_iff_not] at hb
  obtain ⟨he,_,h2,e1⟩:=aM6 h0
  by_cases hk:e.kind≤3
  · exact(aN9 (t:=t) h hk hb.1 h0).1
  · by_cases hk7:e.kind=7
    · rw[aOb hk7 h0,aN7 h.usr,if_neg (fun x=>hb.1 x.symm)]
    · rw[e1]
      have h1:(bA s e).1.opn=s.opn∧(bA s e).1.usr=s.usr:=by
        rcases zV he with ⟨hk',_⟩ | ⟨hk',_⟩ | ⟨hk',_⟩ | ⟨hk',_⟩ | ⟨hk',_⟩ | ⟨hk',_⟩ | ⟨hk',_⟩
        · omega
        · omega
        · omega
        · rw[bA,if_neg (by omega),if_neg (by omega),if_neg (by omega),if_pos hk']; exact⟨rfl,rfl⟩
        · rw[bA,if_neg (by omega),if_neg (by omega),if_neg (by omega),if_neg (by omega),if_pos hk']; exact⟨rfl,rfl⟩
        · rw[bA,if_neg (by omega),if_neg (by omega),if_neg (by omega),if_neg (by omega),if_neg (by omega),if_pos hk']; exact⟨rfl,rfl⟩
        · omega
      simp only[aDz,h1.1,h1.2]
theorem aOa {u:ByteArray} {t:Int}:∀ (l:List Ev) {s:Sta},RightP s→(∀ e∈l,aB2 u e=false)→aDz (fH s l) u t=aDz s u t
  | [],_,_,_=>rfl
  | e::l,s,h,hb=>by
    show aDz (fH (gC s e) l) u t=_
    rw[aOa l (vN h e) fun x hx=>hb x (List.mem_cons_of_mem _ hx)]
    unfold gC; split
    · rename_i h0; exact aO3 h (hb e (List.mem_cons_self ..)) h0
    · rfl
theorem aN5 {u:ByteArray} {l:List Ev}:∀ e∈aDo u l,aB2 u e=false:=fun e he=>by
  have:=(List.mem_filter.1 he).2
  simpa using this
def ev0:Ev:=⟨0,0,bs0,bs0,0,0⟩
theorem aMu {x:Ev} {r:List Ev} {k:Nat} (hk:k<r.length):0≤((k+1:Nat):Int)∧((x::r).map evC)[((k+1:Nat):Int).toNat]?=some (evC r[k]):=⟨by omega,by rw[Int.toNat_natCast,List.getElem?_map,List.getElem?_cons_succ,List.getElem?_eq_getElem hk]; rfl⟩
def aBs:List Ev→Int
  | []=>0
  | x::r=>(jC r x).at'
theorem aKw {l:List Ev} {e:Ev} (he:e∈l) (h:∀ x∈l,x.at'≤e.at'):aBs l=e.at':=by
  match l,he with
  | x::r,he =>
    obtain ⟨h1,h2,h3⟩:=aEx r x
    show (jC r x).at'=e.at'
    have a:(jC r x).at'≤e.at':=by
      rcases h3 with h3 | h3
      · rw[h3]; exact h x (List.mem_cons_self ..)
      · exact h _ (List.mem_cons_of_mem _ h3)
    have b:e.at'≤(jC r x).at':=by
      rcases List.mem_cons.1 he with rfl | he
      · exact h1
      · exact h2 e he
    omega
theorem now_of {l:List Ev} {s:Sta} (hne:dB s l≠[]):(fH s l).now=aBs (dB s l)∧s.now≤aBs (dB s l)∧∀ h:(dB s l).length - 1<(dB s l).length,((dB s l)[(dB s l).length - 1]).at'=aBs (dB s l):=by
  rcases tW l s with ⟨h,_⟩ | ⟨a,e,h1,h2,h3,h4⟩
  · exact absurd h hne
  · have hl:aBs (dB s l)=e.at':=aKw (by rw[h1]; simp) fun x hx=>by
      rw[h1] at hx
      rcases List.mem_append.1 hx with hx | hx
      · exact h4 x hx
      · rw[List.mem_singleton.1 hx]; exact Int.le_refl _
    refine⟨by rw[h2,hl],by rw[hl]; exact h3,fun h=>?_⟩
    rw[hl]
    have:(dB s l)[(dB s l).length - 1]?=some e:=by rw[h1]; simp
    rw[List.getElem?_eq_getElem h] at this
    rw[Option.some.inj this]
theorem now_nil {l:List Ev} {s:Sta} (h:dB s l=[]):(fH s l).now=s.now:=by
  rcases tW l s with ⟨_,h⟩ | ⟨a,e,h1,_⟩
  · rw[h]
  · rw[h1] at h; simp at h
theorem aYs {P:Program} {t:TypeId} {k:IntKind} {a b:Int} (h:b≤a):pS P .geq t (.int k a) (.int k b)=some (.bool true):=by
  simp [pS,uE,h]
abbrev bBob:ByteArray:=⟨#[98,111,98]⟩
def aBa:Ev:=⟨1,3,aIq,bs0,1,1⟩
def aA9:Ev:=⟨1,4,bBob,bs0,1,1⟩
def aAf:Ev:=⟨3,5,aIq,bs0,1,0⟩
def afS:Sta:=⟨5,0,[],[(aIq,[((3,5),(1,1))])],[],[]⟩
theorem af_1:fH oE [aBa,aA9,aAf]=afS:=by decide +kernel
theorem af_2:fX oE [aBa,aA9,aAf]=[0,100,0]:=by decide +kernel
theorem af_3:dB oE [aBa,aA9,aAf]=[aBa,aAf]:=by decide +kernel
theorem af_4:aDo aIq [aBa,aA9,aAf]=[aA9]:=by decide +kernel
theorem af_5:aDz afS aIq 9=[((3,5),(1,1))]:=by decide +kernel
theorem aLo:RightP afS:=oQ.1 (by decide +kernel)
end Go.Abs
set_option linter.unusedVariables false
set_option linter.unusedSimpArgs false
namespace Go.Abs
open Go
def aC5 (sp:List Sp) (f a:Int):Prop:=∀ τ:Int,aFd sp τ=(decide (f≤τ)&&decide (τ<a))
theorem aLe (f:Int):aC5 [] f f:=by
  intro τ
  rw[aFb,Bool.eq_iff_iff]
  simp only[Bool.and_eq_true,decide_eq_true_eq,Bool.false_eq_true,false_iff]
  omega
theorem aIo {sp:List Sp} {f a t:Int} (h:aC5 sp f a) (h1:f≤a) (h2:a≤t):aC5 (sp++[(a,t)]) f t:=by
  intro τ
  rw[aFc,h τ,aKx,aFb,Bool.eq_iff_iff]
  simp only[Bool.and_eq_true,decide_eq_true_eq,Bool.or_eq_true,Bool.false_eq_true,or_false]
  omega
structure WholeI (e:Se) (k:Nat) (a:Int) (stays:List bD) (sp:List Sp) (n:Nat):Prop where
  le:k≤n
  ge:e.2.2≤a
  l1:stays.length=k
  l2:sp.length=k
  ends:∀ y∈stays,y.1.2≤a
  cov:aC5 sp e.2.2 a
theorem WholeI.start (e:Se) (n:Nat):WholeI e 0 e.2.2 [] [] n:=⟨Nat.zero_le _,Int.le_refl _,rfl,rfl,by simp,aLe _⟩
theorem WholeI.next {e:Se} {k n:Nat} {a t s0:Int} {stays:List bD} {sp:List Sp} (h:WholeI e k a stays sp n) (hk:k<n) (ht:a≤t):WholeI e (k+1) t (stays++[((a,t),(e.1.1,s0))]) (sp++[(a,t)]) n:=by
  refine⟨hk,Int.le_trans h.ge ht,by rw[List.length_append,h.l1]; rfl,by rw[List.length_append,h.l2]; rfl,fun y hy=>?_,aIo h.cov h.ge ht⟩
  rcases List.mem_append.1 hy with hy | hy
  · exact Int.le_trans (h.ends y hy) ht
  · rw[List.mem_singleton.1 hy]; exact Int.le_refl _
variable {P:Program}
end Go.Abs
set_option linter.unusedVariables false
set_option linter.unusedSimpArgs false
namespace Go.Proofs.YthapfogcaklbbaaGreat
open Go Go.Abs
theorem tT (a:List Int) (n:Int):oY (a++[n])=oY a++[[AV.s (.int .i64 n)]]:=by simp [oY]
theorem zR (s:Sta) (l:List Ev) (hz:SzS 140737488351232 s) (h:RightP s) (hl:l.length≤60) (ht:∀ e∈l,TS e.user∧TS e.other) :Den Tryz.prog 22 [.agg (aY s),.sl 6 (l.map evC)]  (·=.tup [.agg (aY (fH s l)),.sl 1 (oY (fX s l))]):=by
 refine aU Tryz.func22 rfl (Nat.le_of_ble_eq_true rfl) (fun w0 A hf=>(aC (fun K1 hK1=>(aB (pX hf rfl rfl rfl rfl (l1 rfl) ?_)))))
 refine bJ hf rfl rfl rfl bC (aG rfl (bH) (aD (hK1 _ (aC (fun K2 hK2=>(aB (oJ hf 1 rfl rfl rfl (aD (hK2 _ (aC (fun K3 hK3=>(aB (aE aA 1 rfl (fZ hf [] [(E0,222),(E1,223)] rfl rfl rfl rfl rfl rfl (by decide) (by decide) (by decide) rfl nH (lI s (hz.mono (by omega))) ?_))))))))))))))
 rintro r m1 ⟨rfl,rfl⟩
 rw[qI]
 refine cD (iX [1,2,4,6,12] rfl) (aT hf rfl rfl cF rfl rfl (l1 rfl) (l4 rfl) rfl (aD (hK3 _ (aC (fun K4 hK4=>(aC (fun K5 hK5=>(aB (cD (xI (nee 222) (sl':=[(1,_),(2,_),(4,_),(6,_)]) (m':=[(223,.buf 2 (s.tmb.map tmC)),(6,.buf 1 []),(4,AM.box [.s (.int .i64 0),.s (.int .i64 0),.s (.slice none 0 0),.s (.slice none 0 0),.s (.slice none 0 0),.s (.slice none 0 0)]),(2,.box [.s (.int .i64 s.now),.s (.int .i64 s.hor),.sl 4 (s.opn.map seC),.sl 2 (s.usr.map usC),.sl 4 (s.sub.map enC),.own 223 2 0 (s.tmb.map tmC).length])]) ⟨⟨_,rfl,rfl⟩,⟨_,rfl,rfl⟩,⟨_,rfl,rfl⟩,⟨_,rfl,rfl⟩,trivial⟩ (Eq.trans (show _=[(223,AM.buf 2 (s.tmb.map tmC)),(6,.buf 1 []),(4,AM.box [.s (.int .i64 0),.s (.int .i64 0),.s (.slice none 0 0),.s (.slice none 0 0),.s (.slice none 0 0),.s (.slice none 0 0)]),(2,.box [.s (.int .i64 s.now),.s (.int .i64 s.hor),.sl 4 (s.opn.map seC),AV.only (nee 222) [(222,.buf 2 (s.usr.map usC)),(223,.buf 2 (s.tmb.map tmC)),(6,.buf 1 []),(4,.box [.s (.int .i64 0),.s (.int .i64 0),.s (.slice none 0 0),.s (.slice none 0 0),.s (.slice none 0 0),.s (.slice none 0 0)]),(2,.box [.s (.int .i64 s.now),.s (.int .i64 s.hor),.sl 4 (s.opn.map seC),.own 222 2 0 (s.usr.map usC).length,.sl 4 (s.sub.map enC),.own 223 2 0 (s.tmb.map tmC).length])] (.own 222 2 0 (s.usr.map usC).length),.sl 4 (s.sub.map enC),.own 223 2 0 (s.tmb.map tmC).length])] from rfl) (by rw[zE (ok:=nee 222) (g:=222) rfl rfl rfl]))) ?_)))))))))
 refine cD (xI (nee 223) (sl':=[(1,_),(2,_),(4,_),(6,_)]) (m':=[(6,.buf 1 []),(4,AM.box [.s (.int .i64 0),.s (.int .i64 0),.s (.slice none 0 0),.s (.slice none 0 0),.s (.slice none 0 0),.s (.slice none 0 0)]),(2,.box [.s (.int .i64 s.now),.s (.int .i64 s.hor),.sl 4 (s.opn.map seC),.sl 2 (s.usr.map usC),.sl 4 (s.sub.map enC),.sl 2 (s.tmb.map tmC)])]) ⟨⟨_,rfl,rfl⟩,⟨_,rfl,rfl⟩,⟨_,rfl,rfl⟩,⟨_,rfl,rfl⟩,trivial⟩ (Eq.trans (show _=[(6,.buf 1 []),(4,AM.box [.s (.int .i64 0),.s (.int .i64 0),.s (.slice none 0 0),.s (.slice none 0 0),.s (.slice none 0 0),.s (.slice none 0 0)]),(2,.box [.s (.int .i64 s.now),.s (.int .i64 s.hor),.sl 4 (s.opn.map seC),.sl 2 (s.usr.map usC),.sl 4 (s.sub.map enC),AV.only (nee 223) [(223,.buf 2 (s.tmb.map tmC)),(6,.buf 1 []),(4,AM.box [.s (.int .i64 0),.s (.int .i64 0),.s (.slice none 0 0),.s (.slice none 0 0),.s (.slice none 0 0),.s (.slice none 0 0)]),(2,.box [.s (.int .i64 s.now),.s (.int .i64 s.hor),.sl 4 (s.opn.map seC),.sl 2 (s.usr.map usC),.sl 4 (s.sub.map enC),.own 223 2 0 (s.tmb.map tmC).length])] (.own 223 2 0 (s.tmb.map tmC).length)])] from rfl) (by rw[zE (ok:=nee 223) (g:=223) rfl rfl rfl]))) ?_
 refine aE aA 3 rfl (aD (hK5 _ (aO (bR (ι:=Nat×Sta) (fun(⟨k,st⟩:Nat×Sta)=>⟨35,[(2,.ref 2 0 0 0),(4,.ref 4 0 0 0),(6,.own 6 1 0 (oY (fX s (l.take k))).length),(13,.sl 6 (l.map evC)),(14,.s (.int .i64 ((l.map evC).length:Nat))),(15,.s (.int .i64 (k:Nat)))],[(6,.buf 1 (oY (fX s (l.take k)))),(4,.box [.s (.int .i64 0),.s (.int .i64 0),.s (.slice none 0 0),.s (.slice none 0 0),.s (.slice none 0 0),.s (.slice none 0 0)]),(2,.box (aY st))]⟩) (fun(⟨k,st⟩:Nat×Sta)=>k≤l.length∧st=fH s (l.take k)∧RightP st∧SzS (140737488351232+48*k) st) (fun(⟨k,st⟩:Nat×Sta)=>l.length - k) (0,s) ?_ ?_ ?_))))
 · exact⟨Nat.zero_le _,rfl,h,hz⟩
 · exact cK ⟨rfl,rfl,rfl,rfl,rfl,rfl,trivial⟩ rfl
 ·
  rintro ⟨k,st⟩ hC
  obtain ⟨h1,h2,h3,h4⟩:=hC
  refine aC (fun K6 hK6=>(aB (aE aA 1 rfl (aD (hK6 _ (aC (fun K7 hK7=>(aK rfl (fun hc1=>?_) (fun hc1=>?_)))))))))
  ·
   simp only[bs,eD] at hc1
   refine aN (hK7 _ (aC (fun K8 hK8=>(aO (aC (fun K9 hK9=>(aB ?_)))))))
   have hk:k<l.length:=by omega
   have hzS:SzS 140737488355100 st:=h4.mono (by omega)
   obtain ⟨hu,ho⟩:=ht _ (List.getElem_mem hk)
   have htl:(oY (fX s (l.take k))).length=k:=by rw[eD,kB,List.length_take]; omega
   refine aG rfl (bB rfl rfl eZ bV (by first | assumption | (refine⟨by omega,?_⟩; first | assumption | exact fL (by omega) | exact fL (by simp only[List.length_cons] at *; omega) | exact mA (by omega) | exact oG (by omega) | exact lZ (by omega)) | exact⟨by decide,rfl⟩)) ?_
   refine aE aA 1 rfl (cC hf rfl jF rfl bV rfl rfl rfl rfl (lf rfl) (aD (hK9 _ (aC (fun K10 hK10=>(aB (aE aA 2 rfl (aM hf rfl (aQ rfl rfl aJb rfl (aF4 st l[k] hzS h3.usr h3.tmb hu ho)) (aE aA 3 rfl (cC hf rfl bC rfl cF rfl rfl rfl rfl (lf rfl) (aE aA 1 rfl (aD (hK10 _ ?_)))))))))))))
   refine aC (fun K11 hK11=>(aC (fun K12 hK12=>(aB (aE aA 2 rfl (aD (hK12 _ (aK rfl (fun hc2=>?_) (fun hc2=>?_)))))))))
   ·
    simp only[bs,eD] at hc2
    refine aB (aE aA 1 rfl (aT hf rfl rfl cF rfl rfl (l1 rfl) (l4 rfl) rfl (aD (hK11 _ (aB (aE aA 2 rfl (aM hf rfl (bE rS rfl rfl rfl rfl (l2 rfl)) (eF hf rfl rS rfl rfl rfl (.inl rfl) rfl rfl (by first | rfl | simp [kA,bF]) (by first | (simp only[maxLen,List.length_map,List.length_append,List.length_cons,List.length_nil]; omega) | (simp [maxLen] <;> omega)) (by first | (simp only[List.length_map,List.length_append,List.length_cons,List.length_nil]; omega) | (simp <;> omega)) ?_))))))))
    refine cD (iX [2,4,13,14,15,31] rfl) (aE aA 1 rfl ?_)
    refine bG ?_
    refine hK8 _ (aB ?_)
    refine aG rfl (bO rfl rfl (by omega) (by omega)) ?_
    refine aE aA 1 rfl (aD ?_)
    exact⟨(k+1,(cQ st l[k]).1),⟨by omega,by rw[aBz hk,← h2,aJm (by assumption)],uD h3 _,aJ2 h4 h3.usr (by omega)⟩,by simp only; omega,cK ⟨rfl,rfl,(by rw[rE hk,← h2,tT,List.length_append]; rfl),rfl,rfl,rfl,trivial⟩ (by rw[rE hk,← h2,tT]; rfl)⟩
   ·
    simp only[bs,eD] at hc2
    refine aN (hK11 _ (aB (aE aA 2 rfl (aM hf rfl (bE rS rfl rfl rfl rfl (l2 rfl)) (eF hf rfl rS rfl rfl rfl (.inl rfl) rfl rfl (by first | rfl | simp [kA,bF]) (by first | (simp only[maxLen,List.length_map,List.length_append,List.length_cons,List.length_nil]; omega) | (simp [maxLen] <;> omega)) (by first | (simp only[List.length_map,List.length_append,List.length_cons,List.length_nil]; omega) | (simp <;> omega)) ?_)))))
    refine cD (iX [2,4,13,14,15,31] rfl) (aE aA 1 rfl ?_)
    refine bG ?_
    refine hK8 _ (aB ?_)
    refine aG rfl (bO rfl rfl (by omega) (by omega)) ?_
    refine aE aA 1 rfl (aD ?_)
    exact⟨(k+1,st),⟨by omega,by rw[aBz hk,← h2,aJn (by assumption)],h3,h4.mono (by omega)⟩,by simp only; omega,cK ⟨rfl,rfl,(by rw[rE hk,← h2,tT,List.length_append]; rfl),rfl,rfl,rfl,trivial⟩ (by rw[rE hk,← h2,tT]; rfl)⟩
  ·
   simp only[bs,eD] at hc1
   refine aW (hK4 _ (aC (fun K13 hK13=>(aB (aE aA 2 rfl (aT hf rfl rfl cF rfl rfl (l1 rfl) (l4 rfl) rfl (aE aA 1 rfl (aD (hK13 _ (aJ ?_))))))))))
   refine⟨_,rfl,?_⟩
   show AV.tup [.agg _,AV.conv _ (.own 6 1 0 (oY (fX s (l.take k))).length)]=_
   rw[cI (g:=6) rfl rfl,List.take_of_length_le (by omega)]
   rw[List.take_of_length_le (by omega)] at h2
   rw[h2]; rfl
theorem aRu (s:Sta) (l:List Ev) (hz:SzS 140737488351232 s) (h:RightP s) (hl:l.length≤60) (ht:∀ e∈l,TS e.user∧TS e.other) :Den Tryz.prog 24 [.agg (aY s),.sl 6 (l.map evC)]  (·=.tup [.agg (aY (fH s l)),.sl 1 (oY (fX s l))]):=by
 refine aU Tryz.func24 rfl (Nat.le_of_ble_eq_true rfl) (fun w0 A hf=>(aC (fun K1 hK1=>(aB (pX hf rfl rfl rfl rfl (l1 rfl) ?_)))))
 refine bJ hf rfl rfl rfl aO7 (aG rfl (bH) (aD (hK1 _ (aC (fun K2 hK2=>(aB (oJ hf 1 rfl rfl rfl (aD (hK2 _ (aC (fun K3 hK3=>(aC (fun K4 hK4=>(aB (aE aA 1 rfl ?_)))))))))))))))
 refine aD (hK4 _ (aO (bR (ι:=Nat×Sta) (fun(⟨k,st⟩:Nat×Sta)=>⟨34,[(1,.sl 6 (l.map evC)),(2,.ref 2 0 0 0),(4,.ref 4 0 0 0),(6,.own 6 1 0 (oY (fX s (l.take k))).length),(7,.s (.int .i64 (k:Nat)))],[(6,.buf 1 (oY (fX s (l.take k)))),(4,.box [.s (.int .i64 0),.s (.int .i64 0),.s (.slice none 0 0),.s (.slice none 0 0),.s (.slice none 0 0),.s (.slice none 0 0)]),(2,.box (aY st))]⟩) (fun(⟨k,st⟩:Nat×Sta)=>k≤l.length∧st=fH s (l.take k)∧RightP st∧SzS (140737488351232+48*k) st) (fun(⟨k,st⟩:Nat×Sta)=>l.length - k) (0,s) ?_ ?_ ?_)))
 · exact⟨Nat.zero_le _,rfl,h,hz⟩
 · exact cK ⟨rfl,rfl,rfl,rfl,rfl,trivial⟩ rfl
 ·
  rintro ⟨k,st⟩ hC
  obtain ⟨h1,h2,h3,h4⟩:=hC
  refine aC (fun K5 hK5=>(aC (fun K6 hK6=>(aB ?_))))
  skip
  refine aE aA 4 rfl (aD (hK6 _ (aK rfl (fun hc1=>?_) (fun hc1=>?_))))
  ·
   simp only[bs,eD] at hc1
   have hk:k<l.length:=by omega
   have hzS:SzS 140737488355100 st:=h4.mono (by omega)
   obtain ⟨hu,ho⟩:=ht _ (List.getElem_mem hk)
   have htl:(oY (fX s (l.take k))).length=k:=by rw[eD,kB,List.length_take]; omega
   refine aN (hK5 _ (aC (fun K7 hK7=>(aO (aC (fun K8 hK8=>(eS bI ?_)))))))
   refine bK (listed':=#[false,true,false,false,false,false,false,false,false,false,false,false]) 1 rfl (by kernel_rfl) (by kernel_rfl) (by kernel_rfl) rfl (fun _ _ h=>h) (dJ rfl) ?_
   refine bK (listed':=#[false,true,true,false,false,false,false,false,false,false,false,false]) 2 rfl (by kernel_rfl) (by kernel_rfl) (by kernel_rfl) rfl (fun _ _ h=>h) (dJ rfl) ?_
   refine bK (listed':=#[false,true,true,true,false,false,false,false,false,false,false,false]) 3 rfl (by kernel_rfl) (by kernel_rfl) (by kernel_rfl) rfl (fun _ _ h=>h) (aSy rfl rfl aNl aHw (by first | assumption | (refine⟨by omega,?_⟩; first | assumption | exact fL (by omega) | exact fL (by simp only[List.length_cons] at *; omega) | exact mA (by omega) | exact oG (by omega) | exact lZ (by omega)) | exact⟨by decide,rfl⟩)) ?_
   refine aR 0 #[true,true,true,true,true,true,true,true,true,true,true,true] ⟨34,[(1,.sl 6 (l.map evC)),(2,.ref 2 0 0 0),(4,.ref 4 0 0 0),(6,.own 6 1 0 (oY (fX s (l.take k))).length),(7,.s (.int .i64 (k:Nat))),(8,.ref 8 0 0 0),(9,.s (.int .i64 (cQ st l[k]).2))],[(8,.box (aY (cQ st l[k]).1)),(6,.buf 1 (oY (fX s (l.take k)))),(4,.box [.s (.int .i64 0),.s (.int .i64 0),.s (.slice none 0 0),.s (.slice none 0 0),.s (.slice none 0 0),.s (.slice none 0 0)]),(2,.box (aY st))]⟩ ?_ (fun hD0=>?_)
   ·
    refine dC (by kernel_rfl) ?_
    refine hK8 _ (aC (fun K9 hK9=>(aC (fun K10 hK10=>(aB (aE aA 2 rfl (aD (hK10 _ (aK rfl (fun hc2=>?_) (fun hc2=>?_))))))))))
    ·
     simp only[bs,eD] at hc2
     refine aM3 (xI (nee 8) (sl':=[(1,_),(2,_),(4,_),(6,_),(7,_),(8,_),(9,_)]) (m':=[(6,.buf 1 (oY (fX s (l.take k)))),(4,.box [.s (.int .i64 0),.s (.int .i64 0),.s (.slice none 0 0),.s (.slice none 0 0),.s (.slice none 0 0),.s (.slice none 0 0)]),(2,.box (aY st))]) ⟨⟨_,rfl,rfl⟩,⟨_,rfl,rfl⟩,⟨_,rfl,rfl⟩,⟨_,rfl,rfl⟩,⟨_,rfl,rfl⟩,⟨_,rfl,rfl⟩,⟨_,rfl,rfl⟩,trivial⟩ rfl) (aB (aE aA 1 rfl (aT hf rfl rfl aHx rfl rfl (l1 rfl) (l4 rfl) rfl (aD (hK9 _ (aB (aE aA 2 rfl (aM hf rfl (bE rS rfl rfl rfl rfl (l2 rfl)) ?_))))))))
     refine eF hf rfl rS rfl rfl rfl (.inl rfl) rfl rfl (by first | rfl | simp [kA,bF]) (by first | (simp only[maxLen,List.length_map,List.length_append,List.length_cons,List.length_nil]; omega) | (simp [maxLen] <;> omega)) (by first | (simp only[List.length_map,List.length_append,List.length_cons,List.length_nil]; omega) | (simp <;> omega)) ?_
     refine cD (iX [1,2,4,7,31] rfl) (aE aA 1 rfl ?_)
     refine bG ?_
     refine hK7 _ (aB (aE aA 1 rfl ?_))
     refine aG rfl (bO rfl rfl (by omega) (by omega)) ?_
     refine aE aA 1 rfl (aD ?_)
     exact⟨(k+1,(cQ st l[k]).1),⟨by omega,by rw[aBz hk,← h2,aJm (by assumption)],uD h3 _,aJ2 h4 h3.usr (by omega)⟩,by simp only; omega,cK ⟨rfl,rfl,rfl,(by rw[rE hk,← h2,tT,List.length_append]; rfl),rfl,trivial⟩ (by rw[rE hk,← h2,tT]; rfl)⟩
    ·
     simp only[bs,eD] at hc2
     refine aM3 (xI (nee 8) (sl':=[(1,_),(2,_),(4,_),(6,_),(7,_),(9,_)]) (m':=[(6,.buf 1 (oY (fX s (l.take k)))),(4,.box [.s (.int .i64 0),.s (.int .i64 0),.s (.slice none 0 0),.s (.slice none 0 0),.s (.slice none 0 0),.s (.slice none 0 0)]),(2,.box (aY st))]) ⟨⟨_,rfl,rfl⟩,⟨_,rfl,rfl⟩,⟨_,rfl,rfl⟩,⟨_,rfl,rfl⟩,⟨_,rfl,rfl⟩,⟨_,rfl,rfl⟩,trivial⟩ rfl) (aN (hK9 _ (aB (aE aA 2 rfl (aM hf rfl (bE rS rfl rfl rfl rfl (l2 rfl)) (eF hf rfl rS rfl rfl rfl (.inl rfl) rfl rfl (by first | rfl | simp [kA,bF]) (by first | (simp only[maxLen,List.length_map,List.length_append,List.length_cons,List.length_nil]; omega) | (simp [maxLen] <;> omega)) (by first | (simp only[List.length_map,List.length_append,List.length_cons,List.length_nil]; omega) | (simp <;> omega)) ?_))))))
     refine cD (iX [1,2,4,7,31] rfl) (aE aA 1 rfl ?_)
     refine bG ?_
     refine hK7 _ (aB (aE aA 1 rfl ?_))
     refine aG rfl (bO rfl rfl (by omega) (by omega)) ?_
     refine aE aA 1 rfl (aD ?_)
     exact⟨(k+1,st),⟨by omega,by rw[aBz hk,← h2,aJn (by assumption)],h3,h4.mono (by omega)⟩,by simp only; omega,cK ⟨rfl,rfl,rfl,(by rw[rE hk,← h2,tT,List.length_append]; rfl),rfl,trivial⟩ (by rw[rE hk,← h2,tT]; rfl)⟩
   refine aR 1 #[true,true,true,true,true,true,true,true,true,true,true,false] ⟨34,[(1,.sl 6 (l.map evC)),(2,.ref 2 0 0 0),(4,.ref 4 0 0 0),(6,.own 6 1 0 (oY (fX s (l.take k))).length),(7,.s (.int .i64 (k:Nat))),(8,.ref 8 0 0 0),(24,.s (.int .i64 (cQ st l[k]).2))],[(8,.box (aY (cQ st l[k]).1)),(6,.buf 1 (oY (fX s (l.take k)))),(4,.box [.s (.int .i64 0),.s (.int .i64 0),.s (.slice none 0 0),.s (.slice none 0 0),.s (.slice none 0 0),.s (.slice none 0 0)]),(2,.box (aY st))]⟩ ?_ (fun hD1=>?_)
   ·
    refine aI 11 [] (by kernel_rfl) ⟨?_,trivial⟩
    ·
     refine⟨_,rfl,rfl,(ao rfl (aE aA 1 rfl (aF (ag hD0 rfl rfl rfl))))⟩
   refine aR 2 #[true,true,true,true,true,true,true,true,true,true,false,false] ⟨34,[(1,.sl 6 (l.map evC)),(2,.ref 2 0 0 0),(4,.ref 4 0 0 0),(6,.own 6 1 0 (oY (fX s (l.take k))).length),(7,.s (.int .i64 (k:Nat))),(8,.ref 8 0 0 0),(23,.agg (aY (cQ st l[k]).1)),(24,.s (.int .i64 (cQ st l[k]).2))],[(8,.box [.s (.int .i64 0),.s (.int .i64 0),.s (.slice none 0 0),.s (.slice none 0 0),.s (.slice none 0 0),.s (.slice none 0 0)]),(6,.buf 1 (oY (fX s (l.take k)))),(4,.box [.s (.int .i64 0),.s (.int .i64 0),.s (.slice none 0 0),.s (.slice none 0 0),.s (.slice none 0 0),.s (.slice none 0 0)]),(2,.box (aY st))]⟩ ?_ (fun hD2=>?_)
   ·
    refine aI 10 [] (by kernel_rfl) ⟨?_,trivial⟩
    ·
     refine⟨_,rfl,rfl,(ao rfl (aT hf rfl rfl aHx rfl rfl (l1 rfl) (l4 rfl) rfl (aF (ag hD1 rfl rfl rfl))))⟩
   refine aR 2 #[true,true,true,true,true,true,true,true,false,true,true,false] ⟨34,[(1,.sl 6 (l.map evC)),(2,.ref 2 0 0 0),(4,.ref 4 0 0 0),(6,.own 6 1 0 (oY (fX s (l.take k))).length),(7,.s (.int .i64 (k:Nat))),(8,.ref 8 0 0 0),(16,.tup [.agg (aY (cQ st l[k]).1),.s (.int .i64 (cQ st l[k]).2)])],[(8,.box (aY (cQ st l[k]).1)),(6,.buf 1 (oY (fX s (l.take k)))),(4,.box [.s (.int .i64 0),.s (.int .i64 0),.s (.slice none 0 0),.s (.slice none 0 0),.s (.slice none 0 0),.s (.slice none 0 0)]),(2,.box (aY st))]⟩ ?_ (fun hD3=>?_)
   ·
    refine aI 8 [] (by kernel_rfl) ⟨?_,trivial⟩
    ·
     refine⟨_,rfl,rfl,(ao rfl (aE aA 1 rfl (aF (ag hD1 rfl rfl rfl))))⟩
   refine aR 3 #[true,true,true,true,true,true,true,true,true,false,false,false] ⟨34,[(1,.sl 6 (l.map evC)),(2,.ref 2 0 0 0),(4,.ref 4 0 0 0),(6,.own 6 1 0 (oY (fX s (l.take k))).length),(7,.s (.int .i64 (k:Nat))),(23,.agg (aY (cQ st l[k]).1)),(24,.s (.int .i64 (cQ st l[k]).2))],[(6,.buf 1 (oY (fX s (l.take k)))),(4,.box [.s (.int .i64 0),.s (.int .i64 0),.s (.slice none 0 0),.s (.slice none 0 0),.s (.slice none 0 0),.s (.slice none 0 0)]),(2,.box (aY st))]⟩ ?_ (fun hD4=>?_)
   ·
    refine aI 9 [] (by kernel_rfl) ⟨?_,trivial⟩
    ·
     refine⟨_,rfl,rfl,(ao rfl (bJ hf rfl rfl rfl aO7 (aF (ag hD2 rfl rfl rfl))))⟩
   refine aR 3 #[true,true,true,true,true,true,true,true,false,true,false,false] ⟨34,[(1,.sl 6 (l.map evC)),(2,.ref 2 0 0 0),(4,.ref 4 0 0 0),(6,.own 6 1 0 (oY (fX s (l.take k))).length),(7,.s (.int .i64 (k:Nat))),(8,.ref 8 0 0 0),(16,.tup [.agg (aY (cQ st l[k]).1),.s (.int .i64 (cQ st l[k]).2)]),(23,.agg (aY (cQ st l[k]).1))],[(8,.box [.s (.int .i64 0),.s (.int .i64 0),.s (.slice none 0 0),.s (.slice none 0 0),.s (.slice none 0 0),.s (.slice none 0 0)]),(6,.buf 1 (oY (fX s (l.take k)))),(4,.box [.s (.int .i64 0),.s (.int .i64 0),.s (.slice none 0 0),.s (.slice none 0 0),.s (.slice none 0 0),.s (.slice none 0 0)]),(2,.box (aY st))]⟩ ?_ (fun hD5=>?_)
   ·
    refine aI 8 [10] (by kernel_rfl) ⟨?_,?_,trivial⟩
    ·
     refine⟨_,rfl,rfl,(ao rfl (aE aA 1 rfl (aF (ag hD2 rfl rfl rfl))))⟩
    ·
     refine⟨_,rfl,rfl,(ao rfl (aT hf rfl rfl aHx rfl rfl (l1 rfl) (l4 rfl) rfl (aF (ag hD3 rfl rfl rfl))))⟩
   refine aR 3 #[true,true,true,true,true,true,true,false,true,true,false,false] ⟨34,[(1,.sl 6 (l.map evC)),(2,.ref 2 0 0 0),(4,.ref 4 0 0 0),(6,.own 6 1 0 (oY (fX s (l.take k))).length),(7,.s (.int .i64 (k:Nat))),(8,.ref 8 0 0 0),(16,.tup [.agg (aY (cQ st l[k]).1),.s (.int .i64 (cQ st l[k]).2)]),(24,.s (.int .i64 (cQ st l[k]).2))],[(8,.box [.s (.int .i64 0),.s (.int .i64 0),.s (.slice none 0 0),.s (.slice none 0 0),.s (.slice none 0 0),.s (.slice none 0 0)]),(6,.buf 1 (oY (fX s (l.take k)))),(4,.box [.s (.int .i64 0),.s (.int .i64 0),.s (.slice none 0 0),.s (.slice none 0 0),.s (.slice none 0 0),.s (.slice none 0 0)]),(2,.box (aY st))]⟩ ?_ (fun hD6=>?_)
   ·
    refine aI 7 [] (by kernel_rfl) ⟨?_,trivial⟩
    ·
     refine⟨_,rfl,rfl,(ao rfl (aE aA 1 rfl (aF (ag hD2 rfl rfl rfl))))⟩
   refine aR 4 #[true,true,true,true,true,true,true,true,false,false,false,false] ⟨34,[(1,.sl 6 (l.map evC)),(2,.ref 2 0 0 0),(4,.ref 4 0 0 0),(6,.own 6 1 0 (oY (fX s (l.take k))).length),(7,.s (.int .i64 (k:Nat))),(16,.tup [.agg (aY (cQ st l[k]).1),.s (.int .i64 (cQ st l[k]).2)]),(23,.agg (aY (cQ st l[k]).1))],[(6,.buf 1 (oY (fX s (l.take k)))),(4,.box [.s (.int .i64 0),.s (.int .i64 0),.s (.slice none 0 0),.s (.slice none 0 0),.s (.slice none 0 0),.s (.slice none 0 0)]),(2,.box (aY st))]⟩ ?_ (fun hD7=>?_)
   ·
    refine aI 8 [9] (by kernel_rfl) ⟨?_,?_,trivial⟩
    ·
     refine⟨_,rfl,rfl,(ao rfl (aE aA 1 rfl (aF (ag hD4 rfl rfl rfl))))⟩
    ·
     refine⟨_,rfl,rfl,(ao rfl (bJ hf rfl rfl rfl aO7 (aF (ag hD5 rfl rfl rfl))))⟩
   refine aR 4 #[true,true,true,true,true,true,true,false,true,false,false,false] ⟨34,[(1,.sl 6 (l.map evC)),(2,.ref 2 0 0 0),(4,.ref 4 0 0 0),(6,.own 6 1 0 (oY (fX s (l.take k))).length),(7,.s (.int .i64 (k:Nat))),(16,.tup [.agg (aY (cQ st l[k]).1),.s (.int .i64 (cQ st l[k]).2)]),(24,.s (.int .i64 (cQ st l[k]).2))],[(6,.buf 1 (oY (fX s (l.take k)))),(4,.box [.s (.int .i64 0),.s (.int .i64 0),.s (.slice none 0 0),.s (.slice none 0 0),.s (.slice none 0 0),.s (.slice none 0 0)]),(2,.box (aY st))]⟩ ?_ (fun hD8=>?_)
   ·
    refine aI 7 [9] (by kernel_rfl) ⟨?_,?_,trivial⟩
    ·
     refine⟨_,rfl,rfl,(ao rfl (aE aA 1 rfl (aF (ag hD4 rfl rfl rfl))))⟩
    ·
     refine⟨_,rfl,rfl,(ao rfl (bJ hf rfl rfl rfl aO7 (aF (ag hD6 rfl rfl rfl))))⟩
   refine aR 4 #[true,true,true,true,true,true,true,false,false,true,false,false] ⟨34,[(1,.sl 6 (l.map evC)),(2,.ref 2 0 0 0),(4,.ref 4 0 0 0),(6,.own 6 1 0 (oY (fX s (l.take k))).length),(7,.s (.int .i64 (k:Nat))),(8,.ref 8 0 0 0),(16,.tup [.agg (aY (cQ st l[k]).1),.s (.int .i64 (cQ st l[k]).2)])],[(8,.box [.s (.int .i64 0),.s (.int .i64 0),.s (.slice none 0 0),.s (.slice none 0 0),.s (.slice none 0 0),.s (.slice none 0 0)]),(6,.buf 1 (oY (fX s (l.take k)))),(4,.box [.s (.int .i64 0),.s (.int .i64 0),.s (.slice none 0 0),.s (.slice none 0 0),.s (.slice none 0 0),.s (.slice none 0 0)]),(2,.box (aY st))]⟩ ?_ (fun hD9=>?_)
   ·
    refine aI 7 [8] (by kernel_rfl) ⟨?_,?_,trivial⟩
    ·
     refine⟨_,rfl,rfl,(ao rfl (aE aA 1 rfl (aF (ag hD5 rfl rfl rfl))))⟩
    ·
     refine⟨_,rfl,rfl,(ao rfl (aE aA 1 rfl (aF (ag hD6 rfl rfl rfl))))⟩
   refine aR 5 #[true,true,true,true,true,true,true,false,false,false,false,false] ⟨34,[(1,.sl 6 (l.map evC)),(2,.ref 2 0 0 0),(4,.ref 4 0 0 0),(6,.own 6 1 0 (oY (fX s (l.take k))).length),(7,.s (.int .i64 (k:Nat))),(16,.tup [.agg (aY (cQ st l[k]).1),.s (.int .i64 (cQ st l[k]).2)])],[(6,.buf 1 (oY (fX s (l.take k)))),(4,.box [.s (.int .i64 0),.s (.int .i64 0),.s (.slice none 0 0),.s (.slice none 0 0),.s (.slice none 0 0),.s (.slice none 0 0)]),(2,.box (aY st))]⟩ ?_ (fun hD10=>?_)
   ·
    refine aI 7 [8,9] (by kernel_rfl) ⟨?_,?_,?_,trivial⟩
    ·
     refine⟨_,rfl,rfl,(ao rfl (aE aA 1 rfl (aF (ag hD7 rfl rfl rfl))))⟩
    ·
     refine⟨_,rfl,rfl,(ao rfl (aE aA 1 rfl (aF (ag hD8 rfl rfl rfl))))⟩
    ·
     refine⟨_,rfl,rfl,(ao rfl (bJ hf rfl rfl rfl aO7 (aF (ag hD9 rfl rfl rfl))))⟩
   refine aR 5 #[true,true,true,true,true,true,false,false,false,true,false,false] ⟨34,[(1,.sl 6 (l.map evC)),(2,.ref 2 0 0 0),(4,.ref 4 0 0 0),(6,.own 6 1 0 (oY (fX s (l.take k))).length),(7,.s (.int .i64 (k:Nat))),(8,.ref 8 0 0 0),(22,.tup [.agg (aY (cQ st l[k]).1),.s (.int .i64 (cQ st l[k]).2)])],[(8,.box [.s (.int .i64 0),.s (.int .i64 0),.s (.slice none 0 0),.s (.slice none 0 0),.s (.slice none 0 0),.s (.slice none 0 0)]),(6,.buf 1 (oY (fX s (l.take k)))),(4,.box [.s (.int .i64 0),.s (.int .i64 0),.s (.slice none 0 0),.s (.slice none 0 0),.s (.slice none 0 0),.s (.slice none 0 0)]),(2,.box (aY st))]⟩ ?_ (fun hD11=>?_)
   ·
    refine aI 6 [] (by kernel_rfl) ⟨?_,trivial⟩
    ·
     refine⟨_,rfl,rfl,(ao rfl (aE aA 1 rfl (aF (ag hD9 rfl rfl rfl))))⟩
   refine aR 6 #[true,true,true,true,true,true,false,false,false,false,false,false] ⟨34,[(1,.sl 6 (l.map evC)),(2,.ref 2 0 0 0),(4,.ref 4 0 0 0),(6,.own 6 1 0 (oY (fX s (l.take k))).length),(7,.s (.int .i64 (k:Nat))),(22,.tup [.agg (aY (cQ st l[k]).1),.s (.int .i64 (cQ st l[k]).2)])],[(6,.buf 1 (oY (fX s (l.take k)))),(4,.box [.s (.int .i64 0),.s (.int .i64 0),.s (.slice none 0 0),.s (.slice none 0 0),.s (.slice none 0 0),.s (.slice none 0 0)]),(2,.box (aY st))]⟩ ?_ (fun hD12=>?_)
   ·
    refine aI 6 [9] (by kernel_rfl) ⟨?_,?_,trivial⟩
    ·
     refine⟨_,rfl,rfl,(ao rfl (aE aA 1 rfl (aF (ag hD10 rfl rfl rfl))))⟩
    ·
     refine⟨_,rfl,rfl,(ao rfl (bJ hf rfl rfl rfl aO7 (aF (ag hD11 rfl rfl rfl))))⟩
   refine aR 6 #[true,true,true,true,true,false,false,false,false,true,false,false] ⟨34,[(1,.sl 6 (l.map evC)),(2,.ref 2 0 0 0),(4,.ref 4 0 0 0),(6,.own 6 1 0 (oY (fX s (l.take k))).length),(7,.s (.int .i64 (k:Nat))),(8,.ref 8 0 0 0),(17,.agg (aY st)),(21,.agg (evC l[k]))],[(8,.box [.s (.int .i64 0),.s (.int .i64 0),.s (.slice none 0 0),.s (.slice none 0 0),.s (.slice none 0 0),.s (.slice none 0 0)]),(6,.buf 1 (oY (fX s (l.take k)))),(4,.box [.s (.int .i64 0),.s (.int .i64 0),.s (.slice none 0 0),.s (.slice none 0 0),.s (.slice none 0 0),.s (.slice none 0 0)]),(2,.box (aY st))]⟩ ?_ (fun hD13=>?_)
   ·
    refine aI 5 [] (by kernel_rfl) ⟨?_,trivial⟩
    ·
     refine⟨_,rfl,rfl,(ao rfl (aM hf rfl (aQ rfl rfl aQ3 rfl (aQc st l[k] hzS h3.usr h3.tmb (aRt h3) hu ho)) (aF (ag hD11 rfl rfl rfl))))⟩
   refine aR 7 #[true,true,true,true,true,false,false,false,false,false,false,false] ⟨34,[(1,.sl 6 (l.map evC)),(2,.ref 2 0 0 0),(4,.ref 4 0 0 0),(6,.own 6 1 0 (oY (fX s (l.take k))).length),(7,.s (.int .i64 (k:Nat))),(17,.agg (aY st)),(21,.agg (evC l[k]))],[(6,.buf 1 (oY (fX s (l.take k)))),(4,.box [.s (.int .i64 0),.s (.int .i64 0),.s (.slice none 0 0),.s (.slice none 0 0),.s (.slice none 0 0),.s (.slice none 0 0)]),(2,.box (aY st))]⟩ ?_ (fun hD14=>?_)
   ·
    refine aI 5 [9] (by kernel_rfl) ⟨?_,?_,trivial⟩
    ·
     refine⟨_,rfl,rfl,(ao rfl (aM hf rfl (aQ rfl rfl aQ3 rfl (aQc st l[k] hzS h3.usr h3.tmb (aRt h3) hu ho)) (aF (ag hD12 rfl rfl rfl))))⟩
    ·
     refine⟨_,rfl,rfl,(ao rfl (bJ hf rfl rfl rfl aO7 (aF (ag hD13 rfl rfl rfl))))⟩
   refine aR 7 #[true,true,true,true,false,false,false,false,false,true,false,false] ⟨34,[(1,.sl 6 (l.map evC)),(2,.ref 2 0 0 0),(4,.ref 4 0 0 0),(6,.own 6 1 0 (oY (fX s (l.take k))).length),(7,.s (.int .i64 (k:Nat))),(8,.ref 8 0 0 0),(17,.agg (aY st)),(20,.adr (evC l[k]))],[(8,.box [.s (.int .i64 0),.s (.int .i64 0),.s (.slice none 0 0),.s (.slice none 0 0),.s (.slice none 0 0),.s (.slice none 0 0)]),(6,.buf 1 (oY (fX s (l.take k)))),(4,.box [.s (.int .i64 0),.s (.int .i64 0),.s (.slice none 0 0),.s (.slice none 0 0),.s (.slice none 0 0),.s (.slice none 0 0)]),(2,.box (aY st))]⟩ ?_ (fun hD15=>?_)
   ·
    refine aI 4 [] (by kernel_rfl) ⟨?_,trivial⟩
    ·
     refine⟨_,rfl,rfl,(ao rfl (aE aA 1 rfl (aF (ag hD13 rfl rfl rfl))))⟩
   refine aR 7 #[false,true,true,true,true,false,false,false,false,true,false,false] ⟨34,[(1,.sl 6 (l.map evC)),(2,.ref 2 0 0 0),(4,.ref 4 0 0 0),(6,.own 6 1 0 (oY (fX s (l.take k))).length),(7,.s (.int .i64 (k:Nat))),(8,.ref 8 0 0 0),(21,.agg (evC l[k]))],[(8,.box [.s (.int .i64 0),.s (.int .i64 0),.s (.slice none 0 0),.s (.slice none 0 0),.s (.slice none 0 0),.s (.slice none 0 0)]),(6,.buf 1 (oY (fX s (l.take k)))),(4,.box [.s (.int .i64 0),.s (.int .i64 0),.s (.slice none 0 0),.s (.slice none 0 0),.s (.slice none 0 0),.s (.slice none 0 0)]),(2,.box (aY st))]⟩ ?_ (fun hD16=>?_)
   ·
    refine aI 0 [] (by kernel_rfl) ⟨?_,trivial⟩
    ·
     refine⟨_,rfl,rfl,(ao rfl (aE aA 1 rfl (aF (ag hD13 rfl rfl rfl))))⟩
   refine aR 8 #[true,true,true,true,false,false,false,false,false,false,false,false] ⟨34,[(1,.sl 6 (l.map evC)),(2,.ref 2 0 0 0),(4,.ref 4 0 0 0),(6,.own 6 1 0 (oY (fX s (l.take k))).length),(7,.s (.int .i64 (k:Nat))),(17,.agg (aY st)),(20,.adr (evC l[k]))],[(6,.buf 1 (oY (fX s (l.take k)))),(4,.box [.s (.int .i64 0),.s (.int .i64 0),.s (.slice none 0 0),.s (.slice none 0 0),.s (.slice none 0 0),.s (.slice none 0 0)]),(2,.box (aY st))]⟩ ?_ (fun hD17=>?_)
   ·
    refine aI 4 [9] (by kernel_rfl) ⟨?_,?_,trivial⟩
    ·
     refine⟨_,rfl,rfl,(ao rfl (aE aA 1 rfl (aF (ag hD14 rfl rfl rfl))))⟩
    ·
     refine⟨_,rfl,rfl,(ao rfl (bJ hf rfl rfl rfl aO7 (aF (ag hD15 rfl rfl rfl))))⟩
   refine aR 8 #[false,true,true,true,true,false,false,false,false,false,false,false] ⟨34,[(1,.sl 6 (l.map evC)),(2,.ref 2 0 0 0),(4,.ref 4 0 0 0),(6,.own 6 1 0 (oY (fX s (l.take k))).length),(7,.s (.int .i64 (k:Nat))),(21,.agg (evC l[k]))],[(6,.buf 1 (oY (fX s (l.take k)))),(4,.box [.s (.int .i64 0),.s (.int .i64 0),.s (.slice none 0 0),.s (.slice none 0 0),.s (.slice none 0 0),.s (.slice none 0 0)]),(2,.box (aY st))]⟩ ?_ (fun hD18=>?_)
   ·
    refine aI 0 [9] (by kernel_rfl) ⟨?_,?_,trivial⟩
    ·
     refine⟨_,rfl,rfl,(ao rfl (aE aA 1 rfl (aF (ag hD14 rfl rfl rfl))))⟩
    ·
     refine⟨_,rfl,rfl,(ao rfl (bJ hf rfl rfl rfl aO7 (aF (ag hD16 rfl rfl rfl))))⟩
   refine aR 8 #[false,true,true,true,false,false,false,false,false,true,false,false] ⟨34,[(1,.sl 6 (l.map evC)),(2,.ref 2 0 0 0),(4,.ref 4 0 0 0),(6,.own 6 1 0 (oY (fX s (l.take k))).length),(7,.s (.int .i64 (k:Nat))),(8,.ref 8 0 0 0),(20,.adr (evC l[k]))],[(8,.box [.s (.int .i64 0),.s (.int .i64 0),.s (.slice none 0 0),.s (.slice none 0 0),.s (.slice none 0 0),.s (.slice none 0 0)]),(6,.buf 1 (oY (fX s (l.take k)))),(4,.box [.s (.int .i64 0),.s (.int .i64 0),.s (.slice none 0 0),.s (.slice none 0 0),.s (.slice none 0 0),.s (.slice none 0 0)]),(2,.box (aY st))]⟩ ?_ (fun hD19=>?_)
   ·
    refine aI 0 [4] (by kernel_rfl) ⟨?_,?_,trivial⟩
    ·
     refine⟨_,rfl,rfl,(ao rfl (aE aA 1 rfl (aF (ag hD15 rfl rfl rfl))))⟩
    ·
     refine⟨_,rfl,rfl,(ao rfl (aE aA 1 rfl (aF (ag hD16 rfl rfl rfl))))⟩
   refine kZ (aCu (sl':=[(1,.sl 6 (l.map evC)),(2,.ref 2 0 0 0),(4,.ref 4 0 0 0),(6,.own 6 1 0 (oY (fX s (l.take k))).length),(7,.s (.int .i64 (k:Nat))),(20,.adr (evC l[k]))]) (m':=[(6,.buf 1 (oY (fX s (l.take k)))),(4,.box [.s (.int .i64 0),.s (.int .i64 0),.s (.slice none 0 0),.s (.slice none 0 0),.s (.slice none 0 0),.s (.slice none 0 0)]),(2,.box (aY st))]) rfl rfl rfl) (aI 0 [4,9] (by kernel_rfl) ⟨?_,?_,?_,trivial⟩)
   ·
    refine⟨_,rfl,rfl,(ao rfl (aE aA 1 rfl (aF (ag hD17 rfl rfl rfl))))⟩
   ·
    refine⟨_,rfl,rfl,(ao rfl (aE aA 1 rfl (aF (ag hD18 rfl rfl rfl))))⟩
   ·
    refine⟨_,rfl,rfl,(ao rfl (bJ hf rfl rfl rfl aO7 (aF (ag hD19 rfl rfl rfl))))⟩
  ·
   simp only[bs,eD] at hc1
   refine aW (hK3 _ (aC (fun K11 hK11=>(aB (aE aA 2 rfl (aT hf rfl rfl aHx rfl rfl (l1 rfl) (l4 rfl) rfl (aE aA 1 rfl (aD (hK11 _ (aJ ?_))))))))))
   refine⟨_,rfl,?_⟩
   show AV.tup [.agg _,AV.conv _ (.own 6 1 0 (oY (fX s (l.take k))).length)]=_
   rw[cI (g:=6) rfl rfl,List.take_of_length_le (by omega)]
   rw[List.take_of_length_le (by omega)] at h2
   rw[h2]; rfl
end Go.Proofs.YthapfogcaklbbaaGreat
set_option linter.unusedVariables false
set_option linter.unusedSimpArgs false
namespace Go.Proofs.YthapfogcaklbbaaGreat
open Go Go.Abs
theorem aMp {l:List Int} {k:Nat} (hk:k<l.length):0≤((k:Nat):Int)∧(oY l)[((k:Nat):Int).toNat]?=some [AV.s (.int .i64 l[k])]:=⟨by omega,by rw[oY,Int.toNat_natCast,List.getElem?_map,List.getElem?_eq_getElem hk]; rfl⟩
theorem aBd (s:Sta) (l:List Ev) (hz:SzS 140737488351232 s) (h:RightP s) (hl:l.length≤60) (ht:∀ e∈l,TS e.user∧TS e.other) :Den Tryz.prog 31 [.agg (aY s),.sl 6 (l.map evC)]  (·=.sl 6 ((dB s l).map evC)):=by
 refine aU Tryz.func31 rfl (Nat.le_of_ble_eq_true rfl) (fun w0 A hf=>(aC (fun K1 hK1=>(aB (aM hf rfl (cP rfl rfl (lf rfl)) (aG rfl (bH) (aD (hK1 _ (aC (fun K2 hK2=>(aB (aE aA 2 rfl (aM hf rfl (aQ rfl rfl tA rfl (zR s l hz h hl ht)) (aE aA 3 rfl (cC hf rfl bC rfl cF rfl rfl rfl rfl (lf rfl) ?_)))))))))))))))
 refine aE aA 1 rfl (aD (hK2 _ (aC (fun K3 hK3=>(aB (oJ hf 6 rfl rfl rfl (aD (hK3 _ (aC (fun K4 hK4=>(aC (fun K5 hK5=>(aB (aE aA 3 rfl (aD ?_)))))))))))))))
 refine hK5 _ (aO (bR (ι:=Nat) (fun k=>⟨34,[(1,.sl 6 (l.map evC)),(7,.own 7 6 0 (dB s (l.take k)).length),(16,.sl 1 (oY (fX s l))),(17,.s (.int .i64 ((oY (fX s l)).length:Nat))),(18,.s (.int .i64 (k:Nat)))],[(7,.buf 6 ((dB s (l.take k)).map evC))]⟩) (fun k=>k≤l.length) (fun k=>l.length - k) 0 ?_ ?_ ?_))
 · exact Nat.zero_le _
 · exact cK ⟨rfl,rfl,rfl,rfl,rfl,trivial⟩ rfl
 ·
  rintro k hC
  refine aC (fun K6 hK6=>(aB (aE aA 1 rfl (aD (hK6 _ (aC (fun K7 hK7=>(aK rfl (fun hc1=>?_) (fun hc1=>?_)))))))))
  ·
   simp only[bs,eD,kB] at hc1
   refine aN (hK7 _ (aC (fun K8 hK8=>(aO (aC (fun K9 hK9=>(aB ?_)))))))
   have hk:k<l.length:=by omega
   have hk2:k<(fX s l).length:=by rw[kB]; exact hk
   have htk:=uQ (l.take k) s
   have htl:(l.take k).length=k:=by rw[List.length_take]; omega
   refine aE aA 1 rfl (aG rfl (bB rfl rfl nK nO (aMp hk2)) (aE aA 3 rfl (aD (hK9 _ (aC (fun K10 hK10=>(aB (aE aA 2 rfl (aD (hK10 _ (aK rfl (fun hc2=>?_) (fun hc2=>?_))))))))))))
   ·
    simp only[bs,eD,kB] at hc2
    have h0:(cQ (fH s (l.take k)) l[k]).2=0:=by rw[← aJk hk hk2]; assumption
    refine aB (aE aA 3 rfl ?_)
    refine aG rfl (bB rfl rfl eZ bV (by first | assumption | (refine⟨by omega,?_⟩; first | assumption | exact fL (by omega) | exact fL (by simp only[List.length_cons] at *; omega) | exact mA (by omega) | exact oG (by omega) | exact lZ (by omega)) | exact⟨by decide,rfl⟩)) ?_
    refine aE aA 1 rfl (aM hf rfl (bE jY rfl rfl rfl rfl (l2 rfl)) (eF hf rfl jY rfl rfl rfl (.inl rfl) (by rw[List.length_map]) rfl (by first | rfl | simp [kA,bF]) (by first | (simp only[maxLen,List.length_map,List.length_append,List.length_cons,List.length_nil]; omega) | (simp [maxLen] <;> omega)) (by first | (simp only[List.length_map,List.length_append,List.length_cons,List.length_nil]; omega) | (simp <;> omega)) ?_))
    refine cD (iX [1,16,17,18,31] rfl) (aE aA 1 rfl ?_)
    refine bG ?_
    refine hK8 _ (aB ?_)
    refine aG rfl (bO rfl rfl (by omega) (by omega)) ?_
    refine aE aA 1 rfl (aD ?_)
    exact⟨k+1,by omega,by omega,cK ⟨rfl,(by rw[pI hk,if_pos h0,List.length_append]; rfl),rfl,rfl,rfl,trivial⟩ (by rw[pI hk,if_pos h0,List.map_append]; rfl)⟩
   ·
    simp only[bs,eD,kB] at hc2
    have h0:¬ (cQ (fH s (l.take k)) l[k]).2=0:=by rw[← aJk hk hk2]; assumption
    refine aN (hK8 _ (aB ?_))
    refine aG rfl (bO rfl rfl (by omega) (by omega)) ?_
    refine aE aA 1 rfl (aD ?_)
    exact⟨k+1,by omega,by omega,cK ⟨rfl,(by rw[pI hk,if_neg h0,List.append_nil]; rfl),rfl,rfl,rfl,trivial⟩ (by rw[pI hk,if_neg h0,List.append_nil])⟩
  ·
   simp only[bs,eD,kB] at hc1
   refine aW (hK4 _ (aC (fun K11 hK11=>(aB (aE aA 2 rfl (aD (hK11 _ (aJ ?_))))))))
   refine⟨_,rfl,?_⟩
   refine(cI (g:=7) rfl (by rw[List.length_map])).trans ?_
   rw[List.take_of_length_le (by first | omega | (rw[kB] at *; omega))]
theorem aRo (s:Sta) (l:List Ev) (hz:SzS 140737488351232 s) (h:RightP s) (hl:l.length≤60) (ht:∀ e∈l,TS e.user∧TS e.other) :Den Tryz.prog 32 [.agg (aY s),.sl 6 (l.map evC)]  (·=.sl 6 ((dB s l).map evC)):=by
 refine aU Tryz.func32 rfl (Nat.le_of_ble_eq_true rfl) (fun w0 A hf=>(aC (fun K1 hK1=>(aB (aM hf rfl (cP rfl rfl (lf rfl)) (aG rfl (bH) (aD (hK1 _ (aC (fun K2 hK2=>(aB (aE aA 2 rfl (aM hf rfl (aQ rfl rfl aSm rfl (aRu s l hz h hl ht)) (aE aA 3 rfl (cC hf rfl aO7 rfl aHx rfl rfl rfl rfl (lf rfl) ?_)))))))))))))))
 refine aE aA 1 rfl (aD (hK2 _ (aC (fun K3 hK3=>(aB (oJ hf 6 rfl rfl rfl (aD (hK3 _ (aC (fun K4 hK4=>(aC (fun K5 hK5=>(aB (aE aA 1 rfl (aD ?_)))))))))))))))
 refine hK5 _ (aO (bR (ι:=Nat) (fun k=>⟨34,[(1,.sl 6 (l.map evC)),(6,.sl 1 (oY (fX s l))),(7,.own 7 6 0 (dB s (l.take k)).length),(8,.s (.int .i64 (k:Nat)))],[(7,.buf 6 ((dB s (l.take k)).map evC))]⟩) (fun k=>k≤l.length) (fun k=>l.length - k) 0 ?_ ?_ ?_))
 · exact Nat.zero_le _
 · exact cK ⟨rfl,rfl,rfl,rfl,trivial⟩ rfl
 ·
  rintro k hC
  refine aC (fun K6 hK6=>(aC (fun K7 hK7=>(aB (aE aA 4 rfl (aD (hK7 _ (aK rfl (fun hc1=>?_) (fun hc1=>?_)))))))))
  ·
   simp only[bs,eD,kB] at hc1
   have hk:k<l.length:=by omega
   have hk2:k<(fX s l).length:=by rw[kB]; exact hk
   have htk:=uQ (l.take k) s
   have htl:(l.take k).length=k:=by rw[List.length_take]; omega
   refine aN (hK6 _ (aC (fun K8 hK8=>(aO (aC (fun K9 hK9=>(aB (aE aA 2 rfl (aG rfl (bB rfl rfl nK nO (aMp hk2)) (aE aA 2 rfl (aD (hK9 _ (aK rfl (fun hc2=>?_) (fun hc2=>?_))))))))))))))
   ·
    simp only[bs,eD,kB] at hc2
    have h0:(cQ (fH s (l.take k)) l[k]).2=0:=by rw[← aJk hk hk2]; assumption
    refine aB (aE aA 3 rfl ?_)
    refine aG rfl (bB rfl rfl aNl aHw (by first | assumption | (refine⟨by omega,?_⟩; first | assumption | exact fL (by omega) | exact fL (by simp only[List.length_cons] at *; omega) | exact mA (by omega) | exact oG (by omega) | exact lZ (by omega)) | exact⟨by decide,rfl⟩)) ?_
    refine aE aA 1 rfl (aM hf rfl (bE aRm rfl rfl rfl rfl (l2 rfl)) (eF hf rfl aRm rfl rfl rfl (.inl rfl) (by rw[List.length_map]) rfl (by first | rfl | simp [kA,bF]) (by first | (simp only[maxLen,List.length_map,List.length_append,List.length_cons,List.length_nil]; omega) | (simp [maxLen] <;> omega)) (by first | (simp only[List.length_map,List.length_append,List.length_cons,List.length_nil]; omega) | (simp <;> omega)) ?_))
    refine cD (iX [1,6,8,32] rfl) (aE aA 1 rfl ?_)
    refine bG ?_
    refine hK8 _ (aB (aE aA 1 rfl ?_))
    refine aG rfl (bO rfl rfl (by omega) (by omega)) ?_
    refine aE aA 1 rfl (aD ?_)
    exact⟨k+1,by omega,by omega,cK ⟨rfl,rfl,(by rw[pI hk,if_pos h0,List.length_append]; rfl),rfl,trivial⟩ (by rw[pI hk,if_pos h0,List.map_append]; rfl)⟩
   ·
    simp only[bs,eD,kB] at hc2
    have h0:¬ (cQ (fH s (l.take k)) l[k]).2=0:=by rw[← aJk hk hk2]; assumption
    refine aN (hK8 _ (aB (aE aA 1 rfl ?_)))
    refine aG rfl (bO rfl rfl (by omega) (by omega)) ?_
    refine aE aA 1 rfl (aD ?_)
    exact⟨k+1,by omega,by omega,cK ⟨rfl,rfl,(by rw[pI hk,if_neg h0,List.append_nil]; rfl),rfl,trivial⟩ (by rw[pI hk,if_neg h0,List.append_nil])⟩
  ·
   simp only[bs,eD,kB] at hc1
   refine aW (hK4 _ (aC (fun K10 hK10=>(aB (aE aA 2 rfl (aD (hK10 _ (aJ ?_))))))))
   refine⟨_,rfl,?_⟩
   refine(cI (g:=7) rfl (by rw[List.length_map])).trans ?_
   rw[List.take_of_length_le (by first | omega | (rw[kB] at *; omega))]
theorem aFj (l:List Ev) (hl:l.length*64≤140737488355328) :DenO Tryz.prog 83 [.sl 6 (l.map evC)] 6 (·=(l.map evC)):=by
 refine eK Tryz.func83 rfl (Nat.le_of_ble_eq_true rfl) (fun w0 A hf=>?_)
 refine aC (fun K1 hK1=>(aB (aG rfl (bH) (aD (hK1 _ (aC (fun K2 hK2=>(aC (fun K3 hK3=>(aB (aE aA 1 rfl ?_)))))))))))
 refine kL rfl rfl rfl eZ (fun b hb1=>?_)
 refine aD (hK3 _ (aK rfl (fun hc2=>?_) (fun hc2=>?_)))
 ·
  have hl0:l=[]:=by simpa using hb1 (by assumption)
  refine aC (fun K4 hK4=>(aB (oJ hf 6 rfl rfl rfl (aD (hK4 _ (aJ ?_))))))
  exact⟨2,[],by decide,rfl,rfl,by rw[hl0]; rfl⟩
 ·
  refine aN (hK2 _ (aC (fun K5 hK5=>(aB (gO hf rfl rfl rfl jY rfl rfl rfl rfl (l2 rfl) ?_)))))
  refine aE aA 1 rfl (eF hf rfl jY rfl rfl rfl (.inl rfl) rfl rfl (by first | rfl | simp [kA,bF]) (by first | (simp only[maxLen,List.length_map,List.length_append,List.length_cons,List.length_nil]; omega) | (simp [maxLen] <;> omega)) (by first | (simp only[List.length_map,List.length_append,List.length_cons,List.length_nil]; omega) | (simp <;> omega)) ?_)
  refine cD (iX [7] rfl) (aE aA 1 rfl (aD (hK5 _ (aJ ?_))))
  refine⟨5,(l.map evC),by decide,rfl,?_,rfl⟩
  show some (AV.own 5 6 0 (0+(l.map evC).length))=_
  rw[Nat.zero_add]
theorem xB {g:Nat} {cap:List AV} (hent:∀ args w,(callFunc g args).run Tryz.prog w=.ok (.enter g args) w) (hcl:cleanL (fun _=>false) cap=true) (p:Ev→Bool) (l:List Ev) (hl:l.length≤9223372036854775807) (hp:∀ x∈l,Den Tryz.prog g (.agg (evC x)::cap) (·=.s (.bool (p x)))) :Den Tryz.prog 157 [.sl 6 (l.map evC),.fn g cap]  (·=.s (.int .i64 (nA p l))):=by
 refine aU Tryz.func157 rfl (Nat.le_of_ble_eq_true rfl) (fun w0 A hf=>(aC (fun K1 hK1=>(aB (aE aA 1 rfl (aD (hK1 _ (aC (fun K2 hK2=>(aC (fun K3 hK3=>(aB (aE aA 3 rfl (aD (hK3 _ (aO ?_))))))))))))))))
 refine bR (ι:=Nat) (fun k=>⟨19,[(0,.sl 6 (l.map evC)),(1,.fn g cap),(7,.s (.int .i64 ((l.map evC).length:Nat))),(8,.s (.int .i64 (k:Nat)))],[]⟩) (fun k=>k≤l.length∧∀ (j:Nat) (hj:j<l.length),j<k→p l[j]=false) (fun k=>l.length - k) 0 ?_ ?_ ?_
 · exact⟨by omega,by omega⟩
 · exact cX rfl
 ·
  rintro k hC
  obtain ⟨h1,h2⟩:=hC
  refine aC (fun K4 hK4=>(aB (aE aA 1 rfl (aD (hK4 _ (aC (fun K5 hK5=>(aK rfl (fun hc1=>?_) (fun hc1=>?_)))))))))
  ·
   simp only[bs] at hc1
   refine aN (hK5 _ (aC (fun K6 hK6=>(aO (aC (fun K7 hK7=>(aB (aE aA 2 rfl (aD (hK7 _ (aC (fun K8 hK8=>(aB (aE aA 3 rfl ?_))))))))))))))
   refine aG rfl (bB rfl rfl eZ bV (by first | exact ixm (by omega) | assumption | exact⟨by decide,rfl⟩)) ?_
   refine aE aA 1 rfl (aM hf rfl (aQ rfl rfl hent (by rw[fD,hcl]; rfl) (hp _ (List.getElem_mem _))) ?_)
   refine aD (hK8 _ (aK rfl (fun hc2=>?_) (fun hc2=>?_)))
   ·
    refine aC (fun K9 hK9=>(aB (aE aA 2 rfl (aD (hK9 _ (aJ ?_))))))
    refine⟨_,rfl,?_⟩
    refine dZ ?_
    rw[mZ (by omega) h2 (by assumption)]
   ·
    refine aN (hK6 _ (aB ?_))
    refine aG rfl (bO rfl rfl (by omega) (by omega)) ?_
    refine aE aA 1 rfl (aD ?_)
    exact⟨k+1,⟨by omega,fun j hj hjk=>by
      by_cases e:j=k
      · subst e; simp_all
      · exact h2 j hj (by omega)⟩,by omega,cX rfl⟩
  ·
   simp only[bs] at hc1
   refine aW (hK2 _ (aC (fun K10 hK10=>(aB (aE aA 1 rfl (aD (hK10 _ (aJ ?_))))))))
   refine⟨_,rfl,?_⟩
   refine dZ ?_
   rw[oZ (fun j hj=>h2 j hj (by omega))]
theorem vI {g:Nat} {cap:List AV} (hent:∀ args w,(callFunc g args).run Tryz.prog w=.ok (.enter g args) w) (hcl:cleanL (fun _=>false) cap=true) (hcv:∀ m,convL m cap=cap) (p:Ev→Bool) (l:List Ev) (n:Nat) (hn:n=l.length) (hl:l.length≤9223372036854775807) (hp:∀ x∈l,Den Tryz.prog g (.agg (evC x)::cap) (·=.s (.bool (p x)))) :DenM Tryz.prog 82 [.own E0 6 0 n,.fn g cap] 6 ((l.map evC)) (fun r ys=>r=.own E0 6 0 (l.filter fun x=>!p x).length∧ys=((l.filter fun x=>!p x).map evC)):=by
 subst hn
 have hq0:∀ j,((l.take j).filter fun x=>!p x).length≤j:=fun j=>gG _ l j
 have hq1:∀ j,((l.take j).filter fun x=>!p x).length≤l.length:=fun j=>fQ _ l j
 refine fI Tryz.func82 rfl (Nat.le_of_ble_eq_true rfl) (fun w0 x0 A hf=>?_)
 refine aC (fun K1 hK1=>(aB (aG rfl (bH) (aD (hK1 _ (aC (fun K2 hK2=>(aB (aE aA 2 rfl (aM hf rfl (pN rfl rfl (by show [AV.conv _ _,AV.fn g (convL _ cap)]=_; rw[hcv,cI (g:=E0) rfl (by simp)]) aHo (xB hent hcl p l hl hp) rfl) ?_))))))))))
 refine aE aA 1 rfl (aD (hK2 _ (aC (fun K3 hK3=>(aC (fun K4 hK4=>(aB (aE aA 2 rfl (aD (hK4 _ (aK rfl (fun hc1=>?_) (fun hc1=>?_))))))))))))
 ·
  simp only[bs] at hc1
  refine aC (fun K5 hK5=>(aB (aE aA 2 rfl (aD (hK5 _ (aJ ?_))))))
  have hno:nA p l=-1:=by simpa using hc1
  rcases dM p l with ⟨_,hn⟩ | ⟨k,hk,e,_⟩
  · exact⟨_,.own E0 6 0 l.length,(l.map evC),Le.refl _,rfl,rfl,by rw[fB p l hn],by rw[fB p l hn]⟩
  · exfalso; omega
 ·
  simp only[bs] at hc1
  refine aN (hK3 _ (aC (fun K6 hK6=>(aC (fun K7 hK7=>(aB ?_))))))
  rcases dM p l with ⟨e0,_⟩ | ⟨k0,hk0,ek0,hpk0,hbef⟩
  · exact absurd e0 (by simpa using hc1)
  have hst:=kI (fun x=>!p x) l k0 hk0 (fun j hj hjk=>by simp [hbef j hj hjk]) (by simp [hpk0])
  rw[ek0]
  refine aE aA 1 rfl ?_
  refine aG rfl (bO rfl rfl (by omega) (by omega)) ?_
  refine aE aA 1 rfl (aD (hK7 _ (aO (bR (ι:=Nat) (fun j=>⟨42,[(0,.own E0 6 0 l.length),(1,.fn g cap),(5,.s (.int .i64 (((l.take j).filter fun x=>!p x).length:Nat))),(6,.s (.int .i64 (j:Nat)))],[(E0,.buf 6 ((gS (fun x=>!p x) l j).map evC))]⟩) (fun j=>j≤l.length) (fun j=>l.length - j) (k0+1) ?_ ?_ ?_))))
  · exact hk0
  · rw[hst.1,hst.2]; exact jB ⟨rfl,rfl,rfl,rfl,trivial⟩
  ·
   rintro j hC
   let q:=fun x=>!p x
   have hle:((l.take j).filter q).length≤j:=hq0 j
   have hle2:((l.take j).filter fun x=>!p x).length≤j:=hq0 j
   refine aC (fun K8 hK8=>(aC (fun K9 hK9=>(aB (aE aA 4 rfl (aD (hK9 _ (aK rfl (fun hc2=>?_) (fun hc2=>?_)))))))))
   ·
    simp only[bs] at hc2
    refine aN (hK8 _ (aC (fun K10 hK10=>(aO (aC (fun K11 hK11=>(aB (aE aA 2 rfl ?_))))))))
    refine aG rfl (bN rfl rfl eZ bV (by omega)) ?_
    refine aG rfl (bP rfl dA bV rfl (rL (c:=6) (k:=j) (enc:=evC) (by omega) (by rw[dW]; omega) rfl) (cs':=evC l[j]) (by rw[oS (c:=6) (k:=j) (enc:=evC) (by omega) (by rw[dW]; omega) rfl,pA q l j j (by omega) hle])) ?_
    refine cC hf rfl jF rfl bV rfl rfl rfl rfl (lf rfl) (aD (hK11 _ (aC (fun K12 hK12=>(aB (aE aA 2 rfl (aM hf rfl (aQ rfl rfl hent (by rw[fD,hcl]; rfl) (hp _ (List.getElem_mem _))) ?_)))))))
    refine aE aA 1 rfl (aD (hK12 _ (aK rfl (fun hc3=>?_) (fun hc3=>?_))))
    ·
     simp only[bs] at hc3
     refine aC (fun K13 hK13=>(aB (aE aA 3 rfl ?_)))
     refine aG rfl (bN rfl rfl eZ bV (by omega)) ?_
     refine aT hf rfl rfl bV rfl rfl (by simp [evC,AV.cells,AV.one,Value.oneCell',splice]) (by simp [evC,AV.cells,AV.leaf,Value.oneCell',splice]) (gE (c:=6) (k:=((l.take j).filter fun x=>!p x).length) (enc:=evC) (v:=l[j]) (by omega) (by rw[dW]; omega) rfl (Nat.le_refl _)) ?_
     refine aD (hK13 _ (aB ?_))
     rw[jD (fun x=>!p x) l j (by omega) (by simp_all)]
     refine aE aA 1 rfl ?_
     refine aG rfl (bO rfl rfl (by omega) (by omega)) ?_
     rw[lG (fun x=>!p x) l j (by omega) (by simp_all)]
     refine aE aA 1 rfl ?_
     refine bG ?_
     refine hK10 _ (aB (aE aA 1 rfl ?_))
     refine aG rfl (bO rfl rfl (by omega) (by omega)) ?_
     refine aE aA 1 rfl (aD ?_)
     exact⟨j+1,(by omega),by omega,cX rfl⟩
    ·
     simp only[bs] at hc3
     rw[jE (fun x=>!p x) l j (by omega) (by simp_all),lH (fun x=>!p x) l j (by omega) (by simp_all)]
     refine aN (hK10 _ (aB (aE aA 1 rfl ?_)))
     refine aG rfl (bO rfl rfl (by omega) (by omega)) ?_
     refine aE aA 1 rfl (aD ?_)
     exact⟨j+1,(by omega),by omega,cX rfl⟩
   ·
    simp only[bs] at hc2
    refine aW (hK6 _ (aC (fun K14 hK14=>(aB (aE aA 2 rfl ?_)))))
    refine aG rfl (eA rfl eZ bV rfl rfl (by omega) (by omega)) ?_
    refine tD hf jY jF (by simp [Value.oneCell']) rfl rfl ?_
    refine aD (hK14 _ (aC (fun K15 hK15=>(aB (aE aA 2 rfl ?_)))))
    refine aG rfl (eA rfl eZ bV rfl rfl (by omega) (by omega)) ?_
    refine aE aA 1 rfl (aD (hK15 _ (aJ ?_)))
    have hjl:l.length≤j:=by omega
    have he:=nE (fun x=>!p x) l j hjl
    refine⟨_,_,_,Le.refl _,rfl,rfl,?_,?_⟩
    · rw[List.take_of_length_le hjl]; rfl
    · rw[List.take_of_length_le hjl,Nat.zero_add,Int.toNat_natCast,← List.map_take,he]
theorem aLf (e:Ev) (u:ByteArray) :Den Tryz.prog 85 [.agg (evC e),.s (.string u)]  (·=.s (.bool (aB2 u e))):=by
 refine aU Tryz.func85 rfl (Nat.le_of_ble_eq_true rfl) (fun w0 A hf=>(aC (fun K1 hK1=>(aB (aM hf rfl (cP rfl rfl (lf rfl)) (aE aA 1 rfl (aD (hK1 _ (aC (fun K2 hK2=>(aB (aE aA 5 rfl (aV rfl rfl rfl (fun hg1=>?_) (fun hg1=>?_))))))))))))))
 ·
  simp only[bs] at hg1
  refine aG rfl (bQ rfl lL bS rfl) ?_
  refine aE aA 5 rfl (aD (hK2 _ (aJ ?_)))
  refine⟨_,rfl,?_⟩
  refine aP ?_
  rw[Bool.eq_iff_iff]
  simp_all[aB2,toList_inj]
 ·
  simp only[bs] at hg1
  refine aE aA 5 rfl (aD (hK2 _ (aJ ?_)))
  refine⟨_,rfl,?_⟩
  refine aP ?_
  rw[Bool.eq_iff_iff]
  simp_all[aB2,toList_inj]
theorem wR (e:Ev) (u:ByteArray) :Den Tryz.prog 84 [.agg (evC e),.adr [.s (.string u)]]  (·=.s (.bool (aB2 u e))):=by
 refine aU Tryz.func84 rfl (Nat.le_of_ble_eq_true rfl) (fun w0 A hf=>(aC (fun K1 hK1=>(aB (aM hf rfl (cP rfl rfl (lf rfl)) (aE aA 1 rfl (aD (hK1 _ (aC (fun K2 hK2=>(aB (aE aA 2 rfl (aM hf rfl (aQ rfl rfl aIz rfl (aLf e u)) (aE aA 1 rfl (aD ?_)))))))))))))))
 refine hK2 _ (aJ ?_)
 refine⟨_,rfl,?_⟩
 rfl
theorem aAw (l:List Ev) (u:ByteArray) (hl:l.length≤1000) :Den Tryz.prog 33 [.s (.string u),.sl 6 (l.map evC)]  (·=.sl 6 ((aDo u l).map evC)):=by
 refine aU Tryz.func33 rfl (Nat.le_of_ble_eq_true rfl) (fun w0 A hf=>(aC (fun K1 hK1=>(aB (aM hf rfl (cP rfl rfl (lf rfl)) (aG rfl (bH) (aD (hK1 _ (aC (fun K2 hK2=>(aB (aE aA 1 rfl (fR hf rfl rfl rfl rfl rfl aI1 rfl (aFj l (by omega)) ?_)))))))))))))
 rintro _ rfl
 refine aG rfl (fV rfl) (fK hf 6 rfl rfl rfl rfl rfl aI2 (vI aI0 rfl (fun _=>rfl) (aB2 u) l _ (by rw[List.length_map]) (by omega) (fun x _=>wR x u)) ?_)
 rintro r zs ⟨rfl,rfl⟩
 refine aE aA 1 rfl (aD (hK2 _ (aJ ?_)))
 refine⟨_,rfl,?_⟩
 exact cI (g:=6) rfl (by rw[List.length_map]; rfl)
theorem aEv (a b:Ev) :Den Tryz.prog 76 [.agg (evC a),.agg (evC b)]  (·=.s (.int .i64 (iQ a.at' b.at'))):=by
 refine aU Tryz.func76 rfl (Nat.le_of_ble_eq_true rfl) (fun w0 A hf=>(aC (fun K1 hK1=>(aB (aM hf rfl (cP rfl rfl (lf rfl)) (aM hf rfl (cP rfl rfl (lf rfl)) (aE aA 1 rfl (aD (hK1 _ (aC (fun K2 hK2=>(aB (aE aA 4 rfl (aM hf rfl (aQ rfl rfl kT rfl (gL a.at' b.at')) (aE aA 1 rfl ?_)))))))))))))))
 refine aD (hK2 _ (aJ ?_))
 refine⟨_,rfl,?_⟩
 rfl
theorem aBr {x:Ev} {l:List Ev} {k:Nat} (hk:k<l.length):jC (l.take (k+1)) x=if (jC (l.take k) x).at'<l[k].at' then l[k] else jC (l.take k) x:=by
  rw[List.take_succ_eq_append_getElem hk]
  have:∀ (a:List Ev) (m y:Ev),jC (a++[y]) m=if (jC a m).at'<y.at' then y else jC a m:=fun a=>by
    induction a with
    | nil=>intro m y; rfl
    | cons z a ih=>intro m y; exact ih _ y
  exact this _ _ _
theorem aFv {a b:Int}:0<iQ a b↔b<a:=by unfold iQ; split <;> (try split) <;> omega
theorem aK5 (x:Ev) (r:List Ev) (hl:r.length≤1000) :Den Tryz.prog 75 [.sl 6 ((x::r).map evC),.fn 76 []]  (·=.agg (evC (jC r x))):=by
 have hlx:((x::r).map evC).length=r.length+1:=by simp
 refine aU Tryz.func75 rfl (Nat.le_of_ble_eq_true rfl) (fun w0 A hf=>(aC (fun K1 hK1=>(aB (bJ hf rfl rfl rfl jF (aD (hK1 _ (aC (fun K2 hK2=>(aC (fun K3 hK3=>(aB (aE aA 3 rfl (aD (hK3 _ (aK rfl (fun hc1=>?_) (fun hc1=>?_)))))))))))))))))
 ·
  simp only[bs] at hc1
  omega
 ·
  simp only[bs] at hc1
  refine aN (hK2 _ (aC (fun K4 hK4=>(aB (aE aA 1 rfl ?_)))))
  refine aG rfl (bB rfl rfl eZ bV (by first | exact ixm (by omega) | assumption | exact⟨by decide,rfl⟩)) ?_
  refine aE aA 1 rfl (bJ hf rfl rfl rfl jF (aT hf rfl rfl bV rfl rfl (l1 rfl) (l4 rfl) rfl (aD (hK4 _ (aC (fun K5 hK5=>(aC (fun K6 hK6=>(aB (aE aA 1 rfl (aD (hK6 _ (aO (bR (ι:=Nat) (fun k=>⟨33,[(0,.sl 6 ((x::r).map evC)),(1,.fn 76 []),(4,.ref 4 0 0 0),(5,.ref 5 0 0 0),(6,.s (.int .i64 ((k+1:Nat))))],[(5,.box (evC (jC (r.take k) x))),(4,.box (evC ev0))]⟩) (fun k=>k≤r.length) (fun k=>r.length - k) 0 ?_ ?_ ?_))))))))))))))
  · exact Nat.zero_le _
  · exact cK ⟨rfl,rfl,rfl,rfl,rfl,trivial⟩ rfl
  ·
   rintro k hC
   refine aC (fun K7 hK7=>(aC (fun K8 hK8=>(aB (aE aA 4 rfl (aD (hK8 _ (aK rfl (fun hc2=>?_) (fun hc2=>?_)))))))))
   ·
    simp only[bs] at hc2
    have hk:k<r.length:=by omega
    have hk1:k+1<(x::r).length:=by simp only[List.length_cons]; omega
    refine aN (hK7 _ (aC (fun K9 hK9=>(aO (aC (fun K10 hK10=>(eB hf bI (by kernel_rfl) rfl (aX aA 3 rfl (bL [(21,_),(22,_)] rfl rfl ⟨⟨rfl,rfl⟩,⟨rfl,rfl⟩,trivial⟩ rfl (bB rfl rfl eZ bV (aMu hk)) (aX aA 2 rfl (bT [(20,_),(24,_),(25,_)] rfl rfl ⟨⟨rfl,rfl⟩,⟨rfl,rfl⟩,⟨rfl,rfl⟩,trivial⟩ rfl (aQ rfl rfl aI3 rfl (aEv r[k] (jC (r.take k) x))) (aX aA 1 rfl (eE [0,1,4,5,6,27] rfl rfl rfl (hK10 _ ?_))))))))))))))
    refine aK rfl (fun hc3=>?_) (fun hc3=>?_)
    ·
     simp only[bs] at hc3
     refine aB (aE aA 2 rfl (aG rfl (bB rfl rfl eZ bV (aMu hk)) (aE aA 1 rfl (aT hf rfl rfl bV rfl rfl (l1 rfl) (l4 rfl) rfl ?_))))
     refine bG ?_
     refine hK9 _ (aB (aE aA 1 rfl ?_))
     refine aG rfl (bO rfl rfl (by omega) (by omega)) ?_
     refine aE aA 1 rfl (aD ?_)
     exact⟨k+1,by omega,by omega,cK ⟨rfl,rfl,rfl,rfl,aL (by omega),trivial⟩ (by rw[aBr hk,if_pos (aFv.1 (by assumption))]; rfl)⟩
    ·
     simp only[bs] at hc3
     refine aN (hK9 _ (aB (aE aA 1 rfl ?_)))
     refine aG rfl (bO rfl rfl (by omega) (by omega)) ?_
     refine aE aA 1 rfl (aD ?_)
     exact⟨k+1,by omega,by omega,cK ⟨rfl,rfl,rfl,rfl,aL (by omega),trivial⟩ (by rw[aBr hk,if_neg (fun h=>by have:=aFv.2 h; omega)])⟩
   ·
    simp only[bs] at hc2
    refine aW (hK5 _ (aC (fun K11 hK11=>(aB (aE aA 1 rfl (aT hf rfl rfl bV rfl rfl (l1 rfl) (l4 rfl) rfl (aD (hK11 _ (aJ ?_)))))))))
    refine⟨_,rfl,?_⟩
    show AV.agg (evC _)=_
    rw[List.take_of_length_le (by omega)]
end Go.Proofs.YthapfogcaklbbaaGreat
set_option linter.unusedVariables false
set_option linter.unusedSimpArgs false
namespace Go.Proofs.YthapfogcaklbbaaGreat
open Go Go.Abs
theorem aYk (e:Ev):aeqL [.int .i64,.int .i64,.str,.str,.int .i64,.int .i64] (evC e) (evC e)=some (true,[],[]):=by
  refine Eq.trans (show _=some ((e.kind == e.kind&&(e.at' == e.at'&&(e.user.toList == e.user.toList&&(e.other.toList == e.other.toList&&(e.n == e.n&&(e.st == e.st&&true)))))),[],[]) from rfl) ?_
  simp only[beq_self_eq_true,Bool.and_true]
end Go.Proofs.YthapfogcaklbbaaGreat
set_option linter.unusedVariables false
set_option linter.unusedSimpArgs false
namespace Go.Proofs.YthapfogcaklbbaaGreat
open Go Go.Abs
theorem aBp (l:List Ev) (hl:l.length*64+64≤140737488355328) :Den Tryz.prog 21 [.sl 6 (l.map evC)]  (·=.sl 6 (l.map evC)):=by
 refine aU Tryz.func21 rfl (Nat.le_of_ble_eq_true rfl) (fun w0 A hf=>(aC (fun K1 hK1=>(aB (aG rfl (bH) (aD (hK1 _ (aC (fun K2 hK2=>(aB (oJ hf 6 rfl rfl rfl (aD (hK2 _ (aC (fun K3 hK3=>(aC (fun K4 hK4=>?_)))))))))))))))))
 refine aB (aE aA 3 rfl (aD (hK4 _ (aO (bR (ι:=Nat) (fun k=>⟨18,[(3,.own 3 6 0 (l.take k).length),(6,.sl 6 (l.map evC)),(7,.s (.int .i64 ((l.map evC).length:Nat))),(8,.s (.int .i64 (k:Nat)))],[(3,.buf 6 ((l.take k).map evC))]⟩) (fun k=>k≤l.length) (fun k=>l.length - k) 0 ?_ ?_ ?_)))))
 · exact Nat.zero_le _
 · exact cX rfl
 ·
  rintro k hC
  refine aC (fun K5 hK5=>(aB (aE aA 1 rfl (aD (hK5 _ (aC (fun K6 hK6=>(aK rfl (fun hc1=>?_) (fun hc1=>?_)))))))))
  ·
   simp only[bs] at hc1
   refine aN (hK6 _ (aC (fun K7 hK7=>(aO (aC (fun K8 hK8=>(aB ?_)))))))
   refine aG rfl (bB rfl rfl aNl aHw (by first | exact ixm (by omega) | assumption | exact⟨by decide,rfl⟩)) ?_
   refine aE aA 1 rfl (cC hf rfl aNh rfl aHw rfl rfl rfl rfl (lf rfl) (aD (hK8 _ (aB ?_))))
   have htl:(l.take k).length=k:=by rw[List.length_take]; omega
   refine aE aA 2 rfl (aM hf rfl (bE jY rfl rfl rfl rfl (l2 rfl)) (eF hf rfl jY rfl rfl rfl (.inl rfl) (by rw[List.length_map]) rfl (by first | rfl | simp [kA,bF]) (by first | (simp only[maxLen,List.length_map,List.length_append,List.length_cons,List.length_nil]; omega) | (simp [maxLen] <;> omega)) (by first | (simp only[List.length_map,List.length_append,List.length_cons,List.length_nil]; omega) | (simp <;> omega)) ?_))
   refine cD (iX [6,7,8,15] rfl) (aE aA 1 rfl ?_)
   refine bG ?_
   refine hK7 _ (aB ?_)
   refine aG rfl (bO rfl rfl (by omega) (by omega)) ?_
   refine aE aA 1 rfl (aD ?_)
   exact⟨k+1,by omega,by omega,cK ⟨(by rw[mE l k (by omega)]; rfl),rfl,rfl,rfl,trivial⟩ (by rw[mL l evC k (by omega)]; rfl)⟩
  ·
   simp only[bs] at hc1
   refine aW (hK3 _ (aC (fun K9 hK9=>(aB (aE aA 2 rfl (aD (hK9 _ (aJ ?_))))))))
   refine⟨_,rfl,?_⟩
   refine(cI (g:=3) rfl (by rw[List.length_map])).trans ?_
   rw[List.take_of_length_le (by omega)]
theorem aKu (s:Sta) (hz:SzS 140737488353280 s) :Den Tryz.prog 23 [.agg (aY s)]  (·=.agg (aY s)):=by
 have z1:=hz.o
 have z2:=hz.u
 have z3:=hz.b
 have z4:=hz.t
 have hlm:(s.usr.map usC).length=s.usr.length:=List.length_map _
 have hlt:(s.tmb.map tmC).length=s.tmb.length:=List.length_map _
 refine aU Tryz.func23 rfl (Nat.le_of_ble_eq_true rfl) (fun w0 A hf=>(aC (fun K1 hK1=>(aB (aM hf rfl (cP rfl rfl (lf rfl)) (bJ hf rfl rfl rfl bC (aD (hK1 _ (aC (fun K2 hK2=>(eS bI ?_)))))))))))
 refine bK (listed':=#[true,false,false,false,false,false,false,false,false,false,false,false,false]) 0 rfl (by kernel_rfl) (by kernel_rfl) (by kernel_rfl) rfl (fun _ _ h=>h) (jM rfl wF cE rfl) ?_
 refine bK (listed':=#[true,false,true,false,false,false,false,false,false,false,false,false,false]) 2 rfl (by kernel_rfl) (by kernel_rfl) (by kernel_rfl) rfl (fun _ _ h=>h) (jM rfl qU cE rfl) ?_
 refine bK (listed':=#[true,false,true,false,true,false,false,false,false,false,false,false,false]) 4 rfl (by kernel_rfl) (by kernel_rfl) (by kernel_rfl) rfl (fun _ _ h=>h) (jM rfl wE aHz rfl) ?_
 refine bK (listed':=#[true,false,true,false,true,false,false,true,false,false,false,false,false]) 7 rfl (by kernel_rfl) (by kernel_rfl) (by kernel_rfl) rfl (fun _ _ h=>h) (jM rfl wD aHy rfl) ?_
 refine aR 0 #[true,true,true,true,true,true,true,true,true,true,true,true,true] ⟨53,[(1,.adr (aY s)),(2,.ref 2 0 0 0),(3,.ref 3 0 0 0)],[(3,.box [.s (.int .i64 s.now),.s (.int .i64 s.hor),.sl 4 (s.opn.map seC),.s (.slice none 0 0),.sl 4 (s.sub.map enC),.s (.slice none 0 0)]),(2,.box [.s (.int .i64 0),.s (.int .i64 0),.s (.slice none 0 0),.s (.slice none 0 0),.s (.slice none 0 0),.s (.slice none 0 0)])]⟩ ?_ (fun hD0=>?_)
 ·
  refine dC (by kernel_rfl) ?_
  refine hK2 _ (aC (fun K3 hK3=>(aC (fun K4 hK4=>(aB (wC hf 3 223 2 5 rfl rfl rfl rfl ?_))))))
  refine wC hf 3 222 2 3 rfl rfl rfl rfl ?_
  refine aE aA 4 rfl (aD (hK4 _ (aO (bR (ι:=Nat) (fun k=>⟨53,[(1,.adr (aY s)),(2,.ref 2 0 0 0),(3,.ref 3 0 0 0),(20,.sl 2 (s.usr.map usC)),(21,.s (.int .i64 ((s.usr.map usC).length:Nat))),(22,.s (.int .i64 (k:Nat)))],[(222,.buf 2 ((s.usr.take k).map usC)),(223,.buf 2 []),(3,.box [.s (.int .i64 s.now),.s (.int .i64 s.hor),.sl 4 (s.opn.map seC),.own 222 2 0 (s.usr.take k).length,.sl 4 (s.sub.map enC),.own 223 2 0 0]),(2,.box [.s (.int .i64 0),.s (.int .i64 0),.s (.slice none 0 0),.s (.slice none 0 0),.s (.slice none 0 0),.s (.slice none 0 0)])]⟩) (fun k=>k≤s.usr.length) (fun k=>s.usr.length - k) 0 ?_ ?_ ?_))))
  · exact Nat.zero_le _
  · exact cK ⟨rfl,rfl,rfl,rfl,rfl,rfl,trivial⟩ rfl
  ·
   rintro k hC
   refine aC (fun K5 hK5=>(aB (aE aA 1 rfl (aD (hK5 _ (aC (fun K6 hK6=>(aK rfl (fun hc1=>?_) (fun hc1=>?_)))))))))
   ·
    simp only[bs] at hc1
    refine aN (hK6 _ (aC (fun K7 hK7=>(aO (aC (fun K8 hK8=>(aB ?_)))))))
    have hk:k<s.usr.length:=by omega
    have htl:(s.usr.take k).length=k:=by rw[List.length_take]; omega
    refine aG rfl (bB rfl rfl uN mJ (by first | exact ixm (by omega) | assumption | exact⟨by decide,rfl⟩)) ?_
    refine aE aA 1 rfl (cC hf rfl aB4 rfl mJ rfl rfl rfl rfl (lf rfl) (aD (hK8 _ (iR hf (L:=#[true,true,true,true,true,true,true,true,true,false,false,false]) 9 3 bI (by kernel_rfl) rfl (by kernel_rfl) rfl ?_))))
    refine aX aA 6 rfl (bT [(31,_)] rfl rfl ⟨⟨rfl,rfl⟩,trivial⟩ rfl (aQ rfl rfl aI5 rfl (aKt s.usr[k].2 (by have:=hz.y _ (List.getElem_mem hk); omega))) ?_)
    refine bL [(29,_),(32,_)] rfl rfl ⟨⟨rfl,rfl⟩,⟨rfl,rfl⟩,trivial⟩ rfl (cS rfl rP aAk (l3 rfl) rfl) (bT [(33,_)] rfl rfl ⟨⟨rfl,rfl⟩,trivial⟩ rfl (bE jX rfl rfl rfl rfl (l2 rfl)) (vC [1,2,3,20,21,22,27,34] rfl rfl rfl ?_))
    refine aI 9 [] (by kernel_rfl) ⟨?_,trivial⟩
    ·
     refine⟨_,rfl,rfl,(ao rfl (eF hf rfl jX rfl rfl rfl (.inl rfl) (by rw[List.length_map]) rfl (by first | rfl | simp [kA,bF]) (by first | (simp only[maxLen,List.length_map,List.length_append,List.length_cons,List.length_nil]; omega) | (simp [maxLen] <;> omega)) (by first | (simp only[List.length_map,List.length_append,List.length_cons,List.length_nil]; omega) | (simp <;> omega)) ?_))⟩
     refine cD (iX [1,2,3,20,21,22,35] rfl) (aF (aI 10 [] (by kernel_rfl) ⟨?_,trivial⟩))
     ·
      refine⟨_,rfl,rfl,(ao rfl (aE aA 1 rfl (aF (aI 11 [] (by kernel_rfl) ⟨?_,trivial⟩))))⟩
      ·
       refine⟨_,rfl,rfl,(ao rfl (aT hf rfl rfl nQ rfl rfl (l1 rfl) (l4 rfl) rfl (aF (dC (by kernel_rfl) ?_))))⟩
       refine hK7 _ (aB ?_)
       refine aG rfl (bO rfl rfl (by omega) (by omega)) ?_
       refine aE aA 1 rfl (aD ?_)
       exact⟨k+1,by omega,by omega,cK ⟨rfl,rfl,rfl,rfl,rfl,rfl,trivial⟩ (by rw[mL s.usr usC k hk,mE s.usr k hk]; rfl)⟩
   ·
    simp only[bs] at hc1
    refine aW (hK3 _ (aC (fun K9 hK9=>(aC (fun K10 hK10=>(aB (aE aA 4 rfl (aD (hK10 _ (aO (bR (ι:=Nat) (fun q=>⟨53,[(2,.ref 2 0 0 0),(3,.ref 3 0 0 0),(39,.sl 2 (s.tmb.map tmC)),(40,.s (.int .i64 ((s.tmb.map tmC).length:Nat))),(41,.s (.int .i64 (q:Nat)))],[(223,.buf 2 ((s.tmb.take q).map tmC)),(222,.buf 2 (s.usr.map usC)),(3,.box [.s (.int .i64 s.now),.s (.int .i64 s.hor),.sl 4 (s.opn.map seC),.own 222 2 0 s.usr.length,.sl 4 (s.sub.map enC),.own 223 2 0 (s.tmb.take q).length]),(2,.box [.s (.int .i64 0),.s (.int .i64 0),.s (.slice none 0 0),.s (.slice none 0 0),.s (.slice none 0 0),.s (.slice none 0 0)])]⟩) (fun q=>q≤s.tmb.length) (fun q=>s.tmb.length - q) 0 ?_ ?_ ?_)))))))))))
    · exact Nat.zero_le _
    · exact aMm ⟨rfl,rfl,rfl,rfl,rfl,trivial⟩ (fun g=>by rw[List.take_of_length_le (show s.usr.length≤k by omega)]; exact aKv (by decide))
    ·
     rintro q hC
     refine aC (fun K11 hK11=>(aB (aE aA 1 rfl (aD (hK11 _ (aC (fun K12 hK12=>(aK rfl (fun hc2=>?_) (fun hc2=>?_)))))))))
     ·
      simp only[bs] at hc2
      refine aN (hK12 _ (aC (fun K13 hK13=>(aO (aC (fun K14 hK14=>(aB ?_)))))))
      have hq:q<s.tmb.length:=by omega
      have htl:(s.tmb.take q).length=q:=by rw[List.length_take]; omega
      refine aG rfl (bB rfl rfl aAr pF (by first | exact ixm (by omega) | assumption | exact⟨by decide,rfl⟩)) ?_
      refine aE aA 1 rfl (cC hf rfl aB3 rfl pF rfl rfl rfl rfl (lf rfl) (aD (hK14 _ (aB (aE aA 3 rfl (aM hf rfl (bE iT rfl rfl rfl rfl (l2 rfl)) (eF hf rfl iT rfl rfl rfl (.inl rfl) (by rw[List.length_map]) rfl (by first | rfl | simp [kA,bF]) (by first | (simp only[maxLen,List.length_map,List.length_append,List.length_cons,List.length_nil]; omega) | (simp [maxLen] <;> omega)) (by first | (simp only[List.length_map,List.length_append,List.length_cons,List.length_nil]; omega) | (simp <;> omega)) ?_)))))))
      refine cD (iX [2,3,39,40,41,49] rfl) (aE aA 1 rfl (aT hf rfl rfl rB rfl rfl (l1 rfl) (l4 rfl) rfl ?_))
      refine bG ?_
      refine hK13 _ (aB ?_)
      refine aG rfl (bO rfl rfl (by omega) (by omega)) ?_
      refine aE aA 1 rfl (aD ?_)
      exact⟨q+1,by omega,by omega,cK ⟨rfl,rfl,rfl,rfl,rfl,trivial⟩ (by rw[mL s.tmb tmC q hq,mE s.tmb q hq]; rfl)⟩
     ·
      simp only[bs] at hc2
      refine aW (hK9 _ (aC (fun K15 hK15=>(aB (aG rfl (bP (cs':=[.s (.int .i64 s.now),.s (.int .i64 s.hor),.sl 4 (s.opn.map seC),.own 222 2 0 s.usr.length,.sl 4 (s.sub.map enC),.own 223 2 0 (s.tmb.take q).length]) rfl lK cF rfl rfl rfl) (aT hf rfl rfl cF rfl rfl (l1 rfl) (l4 rfl) rfl (aD (hK15 _ (aJ ?_)))))))))
      refine⟨_,rfl,?_⟩
      show AV.agg [_,_,_,AV.conv _ (.own 222 2 0 s.usr.length),_,AV.conv _ (.own 223 2 0 (s.tmb.take q).length)]=_
      rw[cI (g:=222) rfl (by rw[List.length_map]),cI (g:=223) rfl (by rw[List.length_map]),List.take_of_length_le (by omega)]; rfl
 refine aR 1 #[true,true,true,true,true,true,true,true,true,true,true,true,false] ⟨53,[(1,.adr (aY s)),(2,.ref 2 0 0 0),(3,.ref 3 0 0 0),(18,.agg [.s (.int .i64 s.now),.s (.int .i64 s.hor),.sl 4 (s.opn.map seC),.s (.slice none 0 0),.sl 4 (s.sub.map enC),.s (.slice none 0 0)])],[(3,.box [.s (.int .i64 0),.s (.int .i64 0),.s (.slice none 0 0),.s (.slice none 0 0),.s (.slice none 0 0),.s (.slice none 0 0)]),(2,.box [.s (.int .i64 0),.s (.int .i64 0),.s (.slice none 0 0),.s (.slice none 0 0),.s (.slice none 0 0),.s (.slice none 0 0)])]⟩ ?_ (fun hD1=>?_)
 ·
  refine aI 12 [] (by kernel_rfl) ⟨?_,trivial⟩
  ·
   refine⟨_,rfl,rfl,(ao rfl (aT hf rfl rfl cF rfl rfl (l1 rfl) (l4 rfl) rfl (aF (ag hD0 rfl rfl rfl))))⟩
 refine aR 2 #[true,true,true,true,true,true,true,true,true,true,true,false,false] ⟨53,[(1,.adr (aY s)),(2,.ref 2 0 0 0),(18,.agg [.s (.int .i64 s.now),.s (.int .i64 s.hor),.sl 4 (s.opn.map seC),.s (.slice none 0 0),.sl 4 (s.sub.map enC),.s (.slice none 0 0)])],[(2,.box [.s (.int .i64 0),.s (.int .i64 0),.s (.slice none 0 0),.s (.slice none 0 0),.s (.slice none 0 0),.s (.slice none 0 0)])]⟩ ?_ (fun hD2=>?_)
 ·
  refine aI 11 [] (by kernel_rfl) ⟨?_,trivial⟩
  ·
   refine⟨_,rfl,rfl,(ao rfl (bJ hf rfl rfl rfl bC (aF (ag hD1 rfl rfl rfl))))⟩
 refine aR 2 #[true,true,true,true,true,true,true,true,true,true,false,true,false] ⟨53,[(1,.adr (aY s)),(2,.ref 2 0 0 0),(3,.ref 3 0 0 0),(9,.s (.int .i64 s.now)),(11,.s (.int .i64 s.hor)),(14,.sl 4 (s.opn.map seC)),(17,.sl 4 (s.sub.map enC))],[(3,.box [.s (.int .i64 0),.s (.int .i64 0),.s (.slice none 0 0),.s (.slice none 0 0),.s (.slice none 0 0),.s (.slice none 0 0)]),(2,.box [.s (.int .i64 0),.s (.int .i64 0),.s (.slice none 0 0),.s (.slice none 0 0),.s (.slice none 0 0),.s (.slice none 0 0)])]⟩ ?_ (fun hD3=>?_)
 ·
  refine aI 10 [] (by kernel_rfl) ⟨?_,trivial⟩
  ·
   refine⟨_,rfl,rfl,(ao rfl (aG rfl (cS rfl bC jU (l3 rfl) rfl) (aF (ag hD1 rfl rfl rfl))))⟩
 refine aR 3 #[true,true,true,true,true,true,true,true,true,true,false,false,false] ⟨53,[(1,.adr (aY s)),(2,.ref 2 0 0 0),(9,.s (.int .i64 s.now)),(11,.s (.int .i64 s.hor)),(14,.sl 4 (s.opn.map seC)),(17,.sl 4 (s.sub.map enC))],[(2,.box [.s (.int .i64 0),.s (.int .i64 0),.s (.slice none 0 0),.s (.slice none 0 0),.s (.slice none 0 0),.s (.slice none 0 0)])]⟩ ?_ (fun hD4=>?_)
 ·
  refine aI 10 [11] (by kernel_rfl) ⟨?_,?_,trivial⟩
  ·
   refine⟨_,rfl,rfl,(ao rfl (aG rfl (cS rfl bC jU (l3 rfl) rfl) (aF (ag hD2 rfl rfl rfl))))⟩
  ·
   refine⟨_,rfl,rfl,(ao rfl (bJ hf rfl rfl rfl bC (aF (ag hD3 rfl rfl rfl))))⟩
 refine aR 3 #[true,true,true,true,true,true,true,true,true,false,false,true,false] ⟨53,[(1,.adr (aY s)),(2,.ref 2 0 0 0),(3,.ref 3 0 0 0),(9,.s (.int .i64 s.now)),(11,.s (.int .i64 s.hor)),(14,.sl 4 (s.opn.map seC)),(16,.sl 4 (s.sub.map enC))],[(3,.box [.s (.int .i64 0),.s (.int .i64 0),.s (.slice none 0 0),.s (.slice none 0 0),.s (.slice none 0 0),.s (.slice none 0 0)]),(2,.box [.s (.int .i64 0),.s (.int .i64 0),.s (.slice none 0 0),.s (.slice none 0 0),.s (.slice none 0 0),.s (.slice none 0 0)])]⟩ ?_ (fun hD5=>?_)
 ·
  refine aI 9 [] (by kernel_rfl) ⟨?_,trivial⟩
  ·
   refine⟨_,rfl,rfl,(ao rfl (aM hf rfl (aQ rfl rfl iI rfl (jP s.sub (by omega))) (aF (ag hD3 rfl rfl rfl))))⟩
 refine aR 3 #[true,true,true,false,true,true,true,true,true,true,false,true,false] ⟨53,[(1,.adr (aY s)),(2,.ref 2 0 0 0),(3,.ref 3 0 0 0),(9,.s (.int .i64 s.now)),(10,.adr ((aY s).drop 1)),(14,.sl 4 (s.opn.map seC)),(17,.sl 4 (s.sub.map enC))],[(3,.box [.s (.int .i64 0),.s (.int .i64 0),.s (.slice none 0 0),.s (.slice none 0 0),.s (.slice none 0 0),.s (.slice none 0 0)]),(2,.box [.s (.int .i64 0),.s (.int .i64 0),.s (.slice none 0 0),.s (.slice none 0 0),.s (.slice none 0 0),.s (.slice none 0 0)])]⟩ ?_ (fun hD6=>?_)
 ·
  refine aI 3 [] (by kernel_rfl) ⟨?_,trivial⟩
  ·
   refine⟨_,rfl,rfl,(ao rfl (aE aA 1 rfl (aF (ag hD3 rfl rfl rfl))))⟩
 refine aR 3 #[true,false,true,true,true,true,true,true,true,true,false,true,false] ⟨53,[(1,.adr (aY s)),(2,.ref 2 0 0 0),(3,.ref 3 0 0 0),(8,.adr ((aY s).drop 0)),(11,.s (.int .i64 s.hor)),(14,.sl 4 (s.opn.map seC)),(17,.sl 4 (s.sub.map enC))],[(3,.box [.s (.int .i64 0),.s (.int .i64 0),.s (.slice none 0 0),.s (.slice none 0 0),.s (.slice none 0 0),.s (.slice none 0 0)]),(2,.box [.s (.int .i64 0),.s (.int .i64 0),.s (.slice none 0 0),.s (.slice none 0 0),.s (.slice none 0 0),.s (.slice none 0 0)])]⟩ ?_ (fun hD7=>?_)
 ·
  refine aI 1 [] (by kernel_rfl) ⟨?_,trivial⟩
  ·
   refine⟨_,rfl,rfl,(ao rfl (aE aA 1 rfl (aF (ag hD3 rfl rfl rfl))))⟩
 refine aR 4 #[true,true,true,true,true,true,true,true,true,false,false,false,false] ⟨53,[(1,.adr (aY s)),(2,.ref 2 0 0 0),(9,.s (.int .i64 s.now)),(11,.s (.int .i64 s.hor)),(14,.sl 4 (s.opn.map seC)),(16,.sl 4 (s.sub.map enC))],[(2,.box [.s (.int .i64 0),.s (.int .i64 0),.s (.slice none 0 0),.s (.slice none 0 0),.s (.slice none 0 0),.s (.slice none 0 0)])]⟩ ?_ (fun hD8=>?_)
 ·
  refine aI 9 [11] (by kernel_rfl) ⟨?_,?_,trivial⟩
  ·
   refine⟨_,rfl,rfl,(ao rfl (aM hf rfl (aQ rfl rfl iI rfl (jP s.sub (by omega))) (aF (ag hD4 rfl rfl rfl))))⟩
  ·
   refine⟨_,rfl,rfl,(ao rfl (bJ hf rfl rfl rfl bC (aF (ag hD5 rfl rfl rfl))))⟩
 refine aR 4 #[true,true,true,true,true,true,true,true,false,false,false,true,false] ⟨53,[(1,.adr (aY s)),(2,.ref 2 0 0 0),(3,.ref 3 0 0 0),(9,.s (.int .i64 s.now)),(11,.s (.int .i64 s.hor)),(14,.sl 4 (s.opn.map seC)),(15,.adr ((aY s).drop 4))],[(3,.box [.s (.int .i64 0),.s (.int .i64 0),.s (.slice none 0 0),.s (.slice none 0 0),.s (.slice none 0 0),.s (.slice none 0 0)]),(2,.box [.s (.int .i64 0),.s (.int .i64 0),.s (.slice none 0 0),.s (.slice none 0 0),.s (.slice none 0 0),.s (.slice none 0 0)])]⟩ ?_ (fun hD9=>?_)
 ·
  refine aI 8 [] (by kernel_rfl) ⟨?_,trivial⟩
  ·
   refine⟨_,rfl,rfl,(ao rfl (aE aA 1 rfl (aF (ag hD5 rfl rfl rfl))))⟩
 refine aR 4 #[true,true,true,true,true,true,false,true,true,false,false,true,false] ⟨53,[(1,.adr (aY s)),(2,.ref 2 0 0 0),(3,.ref 3 0 0 0),(9,.s (.int .i64 s.now)),(11,.s (.int .i64 s.hor)),(13,.sl 4 (s.opn.map seC)),(16,.sl 4 (s.sub.map enC))],[(3,.box [.s (.int .i64 0),.s (.int .i64 0),.s (.slice none 0 0),.s (.slice none 0 0),.s (.slice none 0 0),.s (.slice none 0 0)]),(2,.box [.s (.int .i64 0),.s (.int .i64 0),.s (.slice none 0 0),.s (.slice none 0 0),.s (.slice none 0 0),.s (.slice none 0 0)])]⟩ ?_ (fun hD10=>?_)
 ·
  refine aI 6 [] (by kernel_rfl) ⟨?_,trivial⟩
  ·
   refine⟨_,rfl,rfl,(ao rfl (aM hf rfl (aQ rfl rfl dX rfl (dV s.opn (by omega))) (aF (ag hD5 rfl rfl rfl))))⟩
 refine aR 4 #[true,true,true,false,true,true,true,true,true,true,false,false,false] ⟨53,[(1,.adr (aY s)),(2,.ref 2 0 0 0),(9,.s (.int .i64 s.now)),(10,.adr ((aY s).drop 1)),(14,.sl 4 (s.opn.map seC)),(17,.sl 4 (s.sub.map enC))],[(2,.box [.s (.int .i64 0),.s (.int .i64 0),.s (.slice none 0 0),.s (.slice none 0 0),.s (.slice none 0 0),.s (.slice none 0 0)])]⟩ ?_ (fun hD11=>?_)
 ·
  refine aI 3 [11] (by kernel_rfl) ⟨?_,?_,trivial⟩
  ·
   refine⟨_,rfl,rfl,(ao rfl (aE aA 1 rfl (aF (ag hD4 rfl rfl rfl))))⟩
  ·
   refine⟨_,rfl,rfl,(ao rfl (bJ hf rfl rfl rfl bC (aF (ag hD6 rfl rfl rfl))))⟩
 refine aR 4 #[true,true,true,false,true,true,true,true,true,false,false,true,false] ⟨53,[(1,.adr (aY s)),(2,.ref 2 0 0 0),(3,.ref 3 0 0 0),(9,.s (.int .i64 s.now)),(10,.adr ((aY s).drop 1)),(14,.sl 4 (s.opn.map seC)),(16,.sl 4 (s.sub.map enC))],[(3,.box [.s (.int .i64 0),.s (.int .i64 0),.s (.slice none 0 0),.s (.slice none 0 0),.s (.slice none 0 0),.s (.slice none 0 0)]),(2,.box [.s (.int .i64 0),.s (.int .i64 0),.s (.slice none 0 0),.s (.slice none 0 0),.s (.slice none 0 0),.s (.slice none 0 0)])]⟩ ?_ (fun hD12=>?_)
 ·
  refine aI 3 [9] (by kernel_rfl) ⟨?_,?_,trivial⟩
  ·
   refine⟨_,rfl,rfl,(ao rfl (aE aA 1 rfl (aF (ag hD5 rfl rfl rfl))))⟩
  ·
   refine⟨_,rfl,rfl,(ao rfl (aM hf rfl (aQ rfl rfl iI rfl (jP s.sub (by omega))) (aF (ag hD6 rfl rfl rfl))))⟩
 refine aR 4 #[true,false,true,true,true,true,true,true,true,true,false,false,false] ⟨53,[(1,.adr (aY s)),(2,.ref 2 0 0 0),(8,.adr ((aY s).drop 0)),(11,.s (.int .i64 s.hor)),(14,.sl 4 (s.opn.map seC)),(17,.sl 4 (s.sub.map enC))],[(2,.box [.s (.int .i64 0),.s (.int .i64 0),.s (.slice none 0 0),.s (.slice none 0 0),.s (.slice none 0 0),.s (.slice none 0 0)])]⟩ ?_ (fun hD13=>?_)
 ·
  refine aI 1 [11] (by kernel_rfl) ⟨?_,?_,trivial⟩
  ·
   refine⟨_,rfl,rfl,(ao rfl (aE aA 1 rfl (aF (ag hD4 rfl rfl rfl))))⟩
  ·
   refine⟨_,rfl,rfl,(ao rfl (bJ hf rfl rfl rfl bC (aF (ag hD7 rfl rfl rfl))))⟩
 refine aR 4 #[true,false,true,true,true,true,true,true,true,false,false,true,false] ⟨53,[(1,.adr (aY s)),(2,.ref 2 0 0 0),(3,.ref 3 0 0 0),(8,.adr ((aY s).drop 0)),(11,.s (.int .i64 s.hor)),(14,.sl 4 (s.opn.map seC)),(16,.sl 4 (s.sub.map enC))],[(3,.box [.s (.int .i64 0),.s (.int .i64 0),.s (.slice none 0 0),.s (.slice none 0 0),.s (.slice none 0 0),.s (.slice none 0 0)]),(2,.box [.s (.int .i64 0),.s (.int .i64 0),.s (.slice none 0 0),.s (.slice none 0 0),.s (.slice none 0 0),.s (.slice none 0 0)])]⟩ ?_ (fun hD14=>?_)
 ·
  refine aI 1 [9] (by kernel_rfl) ⟨?_,?_,trivial⟩
  ·
   refine⟨_,rfl,rfl,(ao rfl (aE aA 1 rfl (aF (ag hD5 rfl rfl rfl))))⟩
  ·
   refine⟨_,rfl,rfl,(ao rfl (aM hf rfl (aQ rfl rfl iI rfl (jP s.sub (by omega))) (aF (ag hD7 rfl rfl rfl))))⟩
 refine aR 4 #[true,false,true,false,true,true,true,true,true,true,false,true,false] ⟨53,[(1,.adr (aY s)),(2,.ref 2 0 0 0),(3,.ref 3 0 0 0),(8,.adr ((aY s).drop 0)),(10,.adr ((aY s).drop 1)),(14,.sl 4 (s.opn.map seC)),(17,.sl 4 (s.sub.map enC))],[(3,.box [.s (.int .i64 0),.s (.int .i64 0),.s (.slice none 0 0),.s (.slice none 0 0),.s (.slice none 0 0),.s (.slice none 0 0)]),(2,.box [.s (.int .i64 0),.s (.int .i64 0),.s (.slice none 0 0),.s (.slice none 0 0),.s (.slice none 0 0),.s (.slice none 0 0)])]⟩ ?_ (fun hD15=>?_)
 ·
  refine aI 1 [3] (by kernel_rfl) ⟨?_,?_,trivial⟩
  ·
   refine⟨_,rfl,rfl,(ao rfl (aE aA 1 rfl (aF (ag hD6 rfl rfl rfl))))⟩
  ·
   refine⟨_,rfl,rfl,(ao rfl (aE aA 1 rfl (aF (ag hD7 rfl rfl rfl))))⟩
 refine aR 5 #[true,true,true,true,true,true,true,true,false,false,false,false,false] ⟨53,[(1,.adr (aY s)),(2,.ref 2 0 0 0),(9,.s (.int .i64 s.now)),(11,.s (.int .i64 s.hor)),(14,.sl 4 (s.opn.map seC)),(15,.adr ((aY s).drop 4))],[(2,.box [.s (.int .i64 0),.s (.int .i64 0),.s (.slice none 0 0),.s (.slice none 0 0),.s (.slice none 0 0),.s (.slice none 0 0)])]⟩ ?_ (fun hD16=>?_)
 ·
  refine aI 8 [11] (by kernel_rfl) ⟨?_,?_,trivial⟩
  ·
   refine⟨_,rfl,rfl,(ao rfl (aE aA 1 rfl (aF (ag hD8 rfl rfl rfl))))⟩
  ·
   refine⟨_,rfl,rfl,(ao rfl (bJ hf rfl rfl rfl bC (aF (ag hD9 rfl rfl rfl))))⟩
 refine aR 5 #[true,true,true,true,true,true,false,true,true,false,false,false,false] ⟨53,[(1,.adr (aY s)),(2,.ref 2 0 0 0),(9,.s (.int .i64 s.now)),(11,.s (.int .i64 s.hor)),(13,.sl 4 (s.opn.map seC)),(16,.sl 4 (s.sub.map enC))],[(2,.box [.s (.int .i64 0),.s (.int .i64 0),.s (.slice none 0 0),.s (.slice none 0 0),.s (.slice none 0 0),.s (.slice none 0 0)])]⟩ ?_ (fun hD17=>?_)
 ·
  refine aI 6 [11] (by kernel_rfl) ⟨?_,?_,trivial⟩
  ·
   refine⟨_,rfl,rfl,(ao rfl (aM hf rfl (aQ rfl rfl dX rfl (dV s.opn (by omega))) (aF (ag hD8 rfl rfl rfl))))⟩
  ·
   refine⟨_,rfl,rfl,(ao rfl (bJ hf rfl rfl rfl bC (aF (ag hD10 rfl rfl rfl))))⟩
 refine aR 5 #[true,true,true,true,true,true,false,true,false,false,false,true,false] ⟨53,[(1,.adr (aY s)),(2,.ref 2 0 0 0),(3,.ref 3 0 0 0),(9,.s (.int .i64 s.now)),(11,.s (.int .i64 s.hor)),(13,.sl 4 (s.opn.map seC)),(15,.adr ((aY s).drop 4))],[(3,.box [.s (.int .i64 0),.s (.int .i64 0),.s (.slice none 0 0),.s (.slice none 0 0),.s (.slice none 0 0),.s (.slice none 0 0)]),(2,.box [.s (.int .i64 0),.s (.int .i64 0),.s (.slice none 0 0),.s (.slice none 0 0),.s (.slice none 0 0),.s (.slice none 0 0)])]⟩ ?_ (fun hD18=>?_)
 ·
  refine aI 6 [8] (by kernel_rfl) ⟨?_,?_,trivial⟩
  ·
   refine⟨_,rfl,rfl,(ao rfl (aM hf rfl (aQ rfl rfl dX rfl (dV s.opn (by omega))) (aF (ag hD9 rfl rfl rfl))))⟩
  ·
   refine⟨_,rfl,rfl,(ao rfl (aE aA 1 rfl (aF (ag hD10 rfl rfl rfl))))⟩
 refine aR 5 #[true,true,true,true,true,false,false,true,true,false,false,true,false] ⟨53,[(1,.adr (aY s)),(2,.ref 2 0 0 0),(3,.ref 3 0 0 0),(9,.s (.int .i64 s.now)),(11,.s (.int .i64 s.hor)),(12,.adr ((aY s).drop 2)),(16,.sl 4 (s.sub.map enC))],[(3,.box [.s (.int .i64 0),.s (.int .i64 0),.s (.slice none 0 0),.s (.slice none 0 0),.s (.slice none 0 0),.s (.slice none 0 0)]),(2,.box [.s (.int .i64 0),.s (.int .i64 0),.s (.slice none 0 0),.s (.slice none 0 0),.s (.slice none 0 0),.s (.slice none 0 0)])]⟩ ?_ (fun hD19=>?_)
 ·
  refine aI 5 [] (by kernel_rfl) ⟨?_,trivial⟩
  ·
   refine⟨_,rfl,rfl,(ao rfl (aE aA 1 rfl (aF (ag hD10 rfl rfl rfl))))⟩
 refine aR 5 #[true,true,true,false,true,true,true,true,true,false,false,false,false] ⟨53,[(1,.adr (aY s)),(2,.ref 2 0 0 0),(9,.s (.int .i64 s.now)),(10,.adr ((aY s).drop 1)),(14,.sl 4 (s.opn.map seC)),(16,.sl 4 (s.sub.map enC))],[(2,.box [.s (.int .i64 0),.s (.int .i64 0),.s (.slice none 0 0),.s (.slice none 0 0),.s (.slice none 0 0),.s (.slice none 0 0)])]⟩ ?_ (fun hD20=>?_)
 ·
  refine aI 3 [9,11] (by kernel_rfl) ⟨?_,?_,?_,trivial⟩
  ·
   refine⟨_,rfl,rfl,(ao rfl (aE aA 1 rfl (aF (ag hD8 rfl rfl rfl))))⟩
  ·
   refine⟨_,rfl,rfl,(ao rfl (aM hf rfl (aQ rfl rfl iI rfl (jP s.sub (by omega))) (aF (ag hD11 rfl rfl rfl))))⟩
  ·
   refine⟨_,rfl,rfl,(ao rfl (bJ hf rfl rfl rfl bC (aF (ag hD12 rfl rfl rfl))))⟩
 refine aR 5 #[true,true,true,false,true,true,true,true,false,false,false,true,false] ⟨53,[(1,.adr (aY s)),(2,.ref 2 0 0 0),(3,.ref 3 0 0 0),(9,.s (.int .i64 s.now)),(10,.adr ((aY s).drop 1)),(14,.sl 4 (s.opn.map seC)),(15,.adr ((aY s).drop 4))],[(3,.box [.s (.int .i64 0),.s (.int .i64 0),.s (.slice none 0 0),.s (.slice none 0 0),.s (.slice none 0 0),.s (.slice none 0 0)]),(2,.box [.s (.int .i64 0),.s (.int .i64 0),.s (.slice none 0 0),.s (.slice none 0 0),.s (.slice none 0 0),.s (.slice none 0 0)])]⟩ ?_ (fun hD21=>?_)
 ·
  refine aI 3 [8] (by kernel_rfl) ⟨?_,?_,trivial⟩
  ·
   refine⟨_,rfl,rfl,(ao rfl (aE aA 1 rfl (aF (ag hD9 rfl rfl rfl))))⟩
  ·
   refine⟨_,rfl,rfl,(ao rfl (aE aA 1 rfl (aF (ag hD12 rfl rfl rfl))))⟩
 refine aR 5 #[true,true,true,false,true,true,false,true,true,false,false,true,false] ⟨53,[(1,.adr (aY s)),(2,.ref 2 0 0 0),(3,.ref 3 0 0 0),(9,.s (.int .i64 s.now)),(10,.adr ((aY s).drop 1)),(13,.sl 4 (s.opn.map seC)),(16,.sl 4 (s.sub.map enC))],[(3,.box [.s (.int .i64 0),.s (.int .i64 0),.s (.slice none 0 0),.s (.slice none 0 0),.s (.slice none 0 0),.s (.slice none 0 0)]),(2,.box [.s (.int .i64 0),.s (.int .i64 0),.s (.slice none 0 0),.s (.slice none 0 0),.s (.slice none 0 0),.s (.slice none 0 0)])]⟩ ?_ (fun hD22=>?_)
 ·
  refine aI 3 [6] (by kernel_rfl) ⟨?_,?_,trivial⟩
  ·
   refine⟨_,rfl,rfl,(ao rfl (aE aA 1 rfl (aF (ag hD10 rfl rfl rfl))))⟩
  ·
   refine⟨_,rfl,rfl,(ao rfl (aM hf rfl (aQ rfl rfl dX rfl (dV s.opn (by omega))) (aF (ag hD12 rfl rfl rfl))))⟩
 refine aR 5 #[true,false,true,true,true,true,true,true,true,false,false,false,false] ⟨53,[(1,.adr (aY s)),(2,.ref 2 0 0 0),(8,.adr ((aY s).drop 0)),(11,.s (.int .i64 s.hor)),(14,.sl 4 (s.opn.map seC)),(16,.sl 4 (s.sub.map enC))],[(2,.box [.s (.int .i64 0),.s (.int .i64 0),.s (.slice none 0 0),.s (.slice none 0 0),.s (.slice none 0 0),.s (.slice none 0 0)])]⟩ ?_ (fun hD23=>?_)
 ·
  refine aI 1 [9,11] (by kernel_rfl) ⟨?_,?_,?_,trivial⟩
  ·
   refine⟨_,rfl,rfl,(ao rfl (aE aA 1 rfl (aF (ag hD8 rfl rfl rfl))))⟩
  ·
   refine⟨_,rfl,rfl,(ao rfl (aM hf rfl (aQ rfl rfl iI rfl (jP s.sub (by omega))) (aF (ag hD13 rfl rfl rfl))))⟩
  ·
   refine⟨_,rfl,rfl,(ao rfl (bJ hf rfl rfl rfl bC (aF (ag hD14 rfl rfl rfl))))⟩
 refine aR 5 #[true,false,true,true,true,true,true,true,false,false,false,true,false] ⟨53,[(1,.adr (aY s)),(2,.ref 2 0 0 0),(3,.ref 3 0 0 0),(8,.adr ((aY s).drop 0)),(11,.s (.int .i64 s.hor)),(14,.sl 4 (s.opn.map seC)),(15,.adr ((aY s).drop 4))],[(3,.box [.s (.int .i64 0),.s (.int .i64 0),.s (.slice none 0 0),.s (.slice none 0 0),.s (.slice none 0 0),.s (.slice none 0 0)]),(2,.box [.s (.int .i64 0),.s (.int .i64 0),.s (.slice none 0 0),.s (.slice none 0 0),.s (.slice none 0 0),.s (.slice none 0 0)])]⟩ ?_ (fun hD24=>?_)
 ·
  refine aI 1 [8] (by kernel_rfl) ⟨?_,?_,trivial⟩
  ·
   refine⟨_,rfl,rfl,(ao rfl (aE aA 1 rfl (aF (ag hD9 rfl rfl rfl))))⟩
  ·
   refine⟨_,rfl,rfl,(ao rfl (aE aA 1 rfl (aF (ag hD14 rfl rfl rfl))))⟩
 refine aR 5 #[true,false,true,true,true,true,false,true,true,false,false,true,false] ⟨53,[(1,.adr (aY s)),(2,.ref 2 0 0 0),(3,.ref 3 0 0 0),(8,.adr ((aY s).drop 0)),(11,.s (.int .i64 s.hor)),(13,.sl 4 (s.opn.map seC)),(16,.sl 4 (s.sub.map enC))],[(3,.box [.s (.int .i64 0),.s (.int .i64 0),.s (.slice none 0 0),.s (.slice none 0 0),.s (.slice none 0 0),.s (.slice none 0 0)]),(2,.box [.s (.int .i64 0),.s (.int .i64 0),.s (.slice none 0 0),.s (.slice none 0 0),.s (.slice none 0 0),.s (.slice none 0 0)])]⟩ ?_ (fun hD25=>?_)
 ·
  refine aI 1 [6] (by kernel_rfl) ⟨?_,?_,trivial⟩
  ·
   refine⟨_,rfl,rfl,(ao rfl (aE aA 1 rfl (aF (ag hD10 rfl rfl rfl))))⟩
  ·
   refine⟨_,rfl,rfl,(ao rfl (aM hf rfl (aQ rfl rfl dX rfl (dV s.opn (by omega))) (aF (ag hD14 rfl rfl rfl))))⟩
 refine aR 5 #[true,false,true,false,true,true,true,true,true,true,false,false,false] ⟨53,[(1,.adr (aY s)),(2,.ref 2 0 0 0),(8,.adr ((aY s).drop 0)),(10,.adr ((aY s).drop 1)),(14,.sl 4 (s.opn.map seC)),(17,.sl 4 (s.sub.map enC))],[(2,.box [.s (.int .i64 0),.s (.int .i64 0),.s (.slice none 0 0),.s (.slice none 0 0),.s (.slice none 0 0),.s (.slice none 0 0)])]⟩ ?_ (fun hD26=>?_)
 ·
  refine aI 1 [3,11] (by kernel_rfl) ⟨?_,?_,?_,trivial⟩
  ·
   refine⟨_,rfl,rfl,(ao rfl (aE aA 1 rfl (aF (ag hD11 rfl rfl rfl))))⟩
  ·
   refine⟨_,rfl,rfl,(ao rfl (aE aA 1 rfl (aF (ag hD13 rfl rfl rfl))))⟩
  ·
   refine⟨_,rfl,rfl,(ao rfl (bJ hf rfl rfl rfl bC (aF (ag hD15 rfl rfl rfl))))⟩
 refine aR 5 #[true,false,true,false,true,true,true,true,true,false,false,true,false] ⟨53,[(1,.adr (aY s)),(2,.ref 2 0 0 0),(3,.ref 3 0 0 0),(8,.adr ((aY s).drop 0)),(10,.adr ((aY s).drop 1)),(14,.sl 4 (s.opn.map seC)),(16,.sl 4 (s.sub.map enC))],[(3,.box [.s (.int .i64 0),.s (.int .i64 0),.s (.slice none 0 0),.s (.slice none 0 0),.s (.slice none 0 0),.s (.slice none 0 0)]),(2,.box [.s (.int .i64 0),.s (.int .i64 0),.s (.slice none 0 0),.s (.slice none 0 0),.s (.slice none 0 0),.s (.slice none 0 0)])]⟩ ?_ (fun hD27=>?_)
 ·
  refine aI 1 [3,9] (by kernel_rfl) ⟨?_,?_,?_,trivial⟩
  ·
   refine⟨_,rfl,rfl,(ao rfl (aE aA 1 rfl (aF (ag hD12 rfl rfl rfl))))⟩
  ·
   refine⟨_,rfl,rfl,(ao rfl (aE aA 1 rfl (aF (ag hD14 rfl rfl rfl))))⟩
  ·
   refine⟨_,rfl,rfl,(ao rfl (aM hf rfl (aQ rfl rfl iI rfl (jP s.sub (by omega))) (aF (ag hD15 rfl rfl rfl))))⟩
 refine aR 6 #[true,true,true,true,true,true,false,true,false,false,false,false,false] ⟨53,[(1,.adr (aY s)),(2,.ref 2 0 0 0),(9,.s (.int .i64 s.now)),(11,.s (.int .i64 s.hor)),(13,.sl 4 (s.opn.map seC)),(15,.adr ((aY s).drop 4))],[(2,.box [.s (.int .i64 0),.s (.int .i64 0),.s (.slice none 0 0),.s (.slice none 0 0),.s (.slice none 0 0),.s (.slice none 0 0)])]⟩ ?_ (fun hD28=>?_)
 ·
  refine aI 6 [8,11] (by kernel_rfl) ⟨?_,?_,?_,trivial⟩
  ·
   refine⟨_,rfl,rfl,(ao rfl (aM hf rfl (aQ rfl rfl dX rfl (dV s.opn (by omega))) (aF (ag hD16 rfl rfl rfl))))⟩
  ·
   refine⟨_,rfl,rfl,(ao rfl (aE aA 1 rfl (aF (ag hD17 rfl rfl rfl))))⟩
  ·
   refine⟨_,rfl,rfl,(ao rfl (bJ hf rfl rfl rfl bC (aF (ag hD18 rfl rfl rfl))))⟩
 refine aR 6 #[true,true,true,true,true,false,false,true,true,false,false,false,false] ⟨53,[(1,.adr (aY s)),(2,.ref 2 0 0 0),(9,.s (.int .i64 s.now)),(11,.s (.int .i64 s.hor)),(12,.adr ((aY s).drop 2)),(16,.sl 4 (s.sub.map enC))],[(2,.box [.s (.int .i64 0),.s (.int .i64 0),.s (.slice none 0 0),.s (.slice none 0 0),.s (.slice none 0 0),.s (.slice none 0 0)])]⟩ ?_ (fun hD29=>?_)
 ·
  refine aI 5 [11] (by kernel_rfl) ⟨?_,?_,trivial⟩
  ·
   refine⟨_,rfl,rfl,(ao rfl (aE aA 1 rfl (aF (ag hD17 rfl rfl rfl))))⟩
  ·
   refine⟨_,rfl,rfl,(ao rfl (bJ hf rfl rfl rfl bC (aF (ag hD19 rfl rfl rfl))))⟩
 refine aR 6 #[true,true,true,true,true,false,false,true,false,false,false,true,false] ⟨53,[(1,.adr (aY s)),(2,.ref 2 0 0 0),(3,.ref 3 0 0 0),(9,.s (.int .i64 s.now)),(11,.s (.int .i64 s.hor)),(12,.adr ((aY s).drop 2)),(15,.adr ((aY s).drop 4))],[(3,.box [.s (.int .i64 0),.s (.int .i64 0),.s (.slice none 0 0),.s (.slice none 0 0),.s (.slice none 0 0),.s (.slice none 0 0)]),(2,.box [.s (.int .i64 0),.s (.int .i64 0),.s (.slice none 0 0),.s (.slice none 0 0),.s (.slice none 0 0),.s (.slice none 0 0)])]⟩ ?_ (fun hD30=>?_)
 ·
  refine aI 5 [8] (by kernel_rfl) ⟨?_,?_,trivial⟩
  ·
   refine⟨_,rfl,rfl,(ao rfl (aE aA 1 rfl (aF (ag hD18 rfl rfl rfl))))⟩
  ·
   refine⟨_,rfl,rfl,(ao rfl (aE aA 1 rfl (aF (ag hD19 rfl rfl rfl))))⟩
 refine aR 6 #[true,true,true,false,true,true,true,true,false,false,false,false,false] ⟨53,[(1,.adr (aY s)),(2,.ref 2 0 0 0),(9,.s (.int .i64 s.now)),(10,.adr ((aY s).drop 1)),(14,.sl 4 (s.opn.map seC)),(15,.adr ((aY s).drop 4))],[(2,.box [.s (.int .i64 0),.s (.int .i64 0),.s (.slice none 0 0),.s (.slice none 0 0),.s (.slice none 0 0),.s (.slice none 0 0)])]⟩ ?_ (fun hD31=>?_)
 ·
  refine aI 3 [8,11] (by kernel_rfl) ⟨?_,?_,?_,trivial⟩
  ·
   refine⟨_,rfl,rfl,(ao rfl (aE aA 1 rfl (aF (ag hD16 rfl rfl rfl))))⟩
  ·
   refine⟨_,rfl,rfl,(ao rfl (aE aA 1 rfl (aF (ag hD20 rfl rfl rfl))))⟩
  ·
   refine⟨_,rfl,rfl,(ao rfl (bJ hf rfl rfl rfl bC (aF (ag hD21 rfl rfl rfl))))⟩
 refine aR 6 #[true,true,true,false,true,true,false,true,true,false,false,false,false] ⟨53,[(1,.adr (aY s)),(2,.ref 2 0 0 0),(9,.s (.int .i64 s.now)),(10,.adr ((aY s).drop 1)),(13,.sl 4 (s.opn.map seC)),(16,.sl 4 (s.sub.map enC))],[(2,.box [.s (.int .i64 0),.s (.int .i64 0),.s (.slice none 0 0),.s (.slice none 0 0),.s (.slice none 0 0),.s (.slice none 0 0)])]⟩ ?_ (fun hD32=>?_)
 ·
  refine aI 3 [6,11] (by kernel_rfl) ⟨?_,?_,?_,trivial⟩
  ·
   refine⟨_,rfl,rfl,(ao rfl (aE aA 1 rfl (aF (ag hD17 rfl rfl rfl))))⟩
  ·
   refine⟨_,rfl,rfl,(ao rfl (aM hf rfl (aQ rfl rfl dX rfl (dV s.opn (by omega))) (aF (ag hD20 rfl rfl rfl))))⟩
  ·
   refine⟨_,rfl,rfl,(ao rfl (bJ hf rfl rfl rfl bC (aF (ag hD22 rfl rfl rfl))))⟩
 refine aR 6 #[true,true,true,false,true,true,false,true,false,false,false,true,false] ⟨53,[(1,.adr (aY s)),(2,.ref 2 0 0 0),(3,.ref 3 0 0 0),(9,.s (.int .i64 s.now)),(10,.adr ((aY s).drop 1)),(13,.sl 4 (s.opn.map seC)),(15,.adr ((aY s).drop 4))],[(3,.box [.s (.int .i64 0),.s (.int .i64 0),.s (.slice none 0 0),.s (.slice none 0 0),.s (.slice none 0 0),.s (.slice none 0 0)]),(2,.box [.s (.int .i64 0),.s (.int .i64 0),.s (.slice none 0 0),.s (.slice none 0 0),.s (.slice none 0 0),.s (.slice none 0 0)])]⟩ ?_ (fun hD33=>?_)
 ·
  refine aI 3 [6,8] (by kernel_rfl) ⟨?_,?_,?_,trivial⟩
  ·
   refine⟨_,rfl,rfl,(ao rfl (aE aA 1 rfl (aF (ag hD18 rfl rfl rfl))))⟩
  ·
   refine⟨_,rfl,rfl,(ao rfl (aM hf rfl (aQ rfl rfl dX rfl (dV s.opn (by omega))) (aF (ag hD21 rfl rfl rfl))))⟩
  ·
   refine⟨_,rfl,rfl,(ao rfl (aE aA 1 rfl (aF (ag hD22 rfl rfl rfl))))⟩
 refine aR 6 #[true,true,true,false,true,false,false,true,true,false,false,true,false] ⟨53,[(1,.adr (aY s)),(2,.ref 2 0 0 0),(3,.ref 3 0 0 0),(9,.s (.int .i64 s.now)),(10,.adr ((aY s).drop 1)),(12,.adr ((aY s).drop 2)),(16,.sl 4 (s.sub.map enC))],[(3,.box [.s (.int .i64 0),.s (.int .i64 0),.s (.slice none 0 0),.s (.slice none 0 0),.s (.slice none 0 0),.s (.slice none 0 0)]),(2,.box [.s (.int .i64 0),.s (.int .i64 0),.s (.slice none 0 0),.s (.slice none 0 0),.s (.slice none 0 0),.s (.slice none 0 0)])]⟩ ?_ (fun hD34=>?_)
 ·
  refine aI 3 [5] (by kernel_rfl) ⟨?_,?_,trivial⟩
  ·
   refine⟨_,rfl,rfl,(ao rfl (aE aA 1 rfl (aF (ag hD19 rfl rfl rfl))))⟩
  ·
   refine⟨_,rfl,rfl,(ao rfl (aE aA 1 rfl (aF (ag hD22 rfl rfl rfl))))⟩
 refine aR 6 #[true,false,true,true,true,true,true,true,false,false,false,false,false] ⟨53,[(1,.adr (aY s)),(2,.ref 2 0 0 0),(8,.adr ((aY s).drop 0)),(11,.s (.int .i64 s.hor)),(14,.sl 4 (s.opn.map seC)),(15,.adr ((aY s).drop 4))],[(2,.box [.s (.int .i64 0),.s (.int .i64 0),.s (.slice none 0 0),.s (.slice none 0 0),.s (.slice none 0 0),.s (.slice none 0 0)])]⟩ ?_ (fun hD35=>?_)
 ·
  refine aI 1 [8,11] (by kernel_rfl) ⟨?_,?_,?_,trivial⟩
  ·
   refine⟨_,rfl,rfl,(ao rfl (aE aA 1 rfl (aF (ag hD16 rfl rfl rfl))))⟩
  ·
   refine⟨_,rfl,rfl,(ao rfl (aE aA 1 rfl (aF (ag hD23 rfl rfl rfl))))⟩
  ·
   refine⟨_,rfl,rfl,(ao rfl (bJ hf rfl rfl rfl bC (aF (ag hD24 rfl rfl rfl))))⟩
 refine aR 6 #[true,false,true,true,true,true,false,true,true,false,false,false,false] ⟨53,[(1,.adr (aY s)),(2,.ref 2 0 0 0),(8,.adr ((aY s).drop 0)),(11,.s (.int .i64 s.hor)),(13,.sl 4 (s.opn.map seC)),(16,.sl 4 (s.sub.map enC))],[(2,.box [.s (.int .i64 0),.s (.int .i64 0),.s (.slice none 0 0),.s (.slice none 0 0),.s (.slice none 0 0),.s (.slice none 0 0)])]⟩ ?_ (fun hD36=>?_)
 ·
  refine aI 1 [6,11] (by kernel_rfl) ⟨?_,?_,?_,trivial⟩
  ·
   refine⟨_,rfl,rfl,(ao rfl (aE aA 1 rfl (aF (ag hD17 rfl rfl rfl))))⟩
  ·
   refine⟨_,rfl,rfl,(ao rfl (aM hf rfl (aQ rfl rfl dX rfl (dV s.opn (by omega))) (aF (ag hD23 rfl rfl rfl))))⟩
  ·
   refine⟨_,rfl,rfl,(ao rfl (bJ hf rfl rfl rfl bC (aF (ag hD25 rfl rfl rfl))))⟩
 refine aR 6 #[true,false,true,true,true,true,false,true,false,false,false,true,false] ⟨53,[(1,.adr (aY s)),(2,.ref 2 0 0 0),(3,.ref 3 0 0 0),(8,.adr ((aY s).drop 0)),(11,.s (.int .i64 s.hor)),(13,.sl 4 (s.opn.map seC)),(15,.adr ((aY s).drop 4))],[(3,.box [.s (.int .i64 0),.s (.int .i64 0),.s (.slice none 0 0),.s (.slice none 0 0),.s (.slice none 0 0),.s (.slice none 0 0)]),(2,.box [.s (.int .i64 0),.s (.int .i64 0),.s (.slice none 0 0),.s (.slice none 0 0),.s (.slice none 0 0),.s (.slice none 0 0)])]⟩ ?_ (fun hD37=>?_)
 ·
  refine aI 1 [6,8] (by kernel_rfl) ⟨?_,?_,?_,trivial⟩
  ·
   refine⟨_,rfl,rfl,(ao rfl (aE aA 1 rfl (aF (ag hD18 rfl rfl rfl))))⟩
  ·
   refine⟨_,rfl,rfl,(ao rfl (aM hf rfl (aQ rfl rfl dX rfl (dV s.opn (by omega))) (aF (ag hD24 rfl rfl rfl))))⟩
  ·
   refine⟨_,rfl,rfl,(ao rfl (aE aA 1 rfl (aF (ag hD25 rfl rfl rfl))))⟩
 refine aR 6 #[true,false,true,true,true,false,false,true,true,false,false,true,false] ⟨53,[(1,.adr (aY s)),(2,.ref 2 0 0 0),(3,.ref 3 0 0 0),(8,.adr ((aY s).drop 0)),(11,.s (.int .i64 s.hor)),(12,.adr ((aY s).drop 2)),(16,.sl 4 (s.sub.map enC))],[(3,.box [.s (.int .i64 0),.s (.int .i64 0),.s (.slice none 0 0),.s (.slice none 0 0),.s (.slice none 0 0),.s (.slice none 0 0)]),(2,.box [.s (.int .i64 0),.s (.int .i64 0),.s (.slice none 0 0),.s (.slice none 0 0),.s (.slice none 0 0),.s (.slice none 0 0)])]⟩ ?_ (fun hD38=>?_)
 ·
  refine aI 1 [5] (by kernel_rfl) ⟨?_,?_,trivial⟩
  ·
   refine⟨_,rfl,rfl,(ao rfl (aE aA 1 rfl (aF (ag hD19 rfl rfl rfl))))⟩
  ·
   refine⟨_,rfl,rfl,(ao rfl (aE aA 1 rfl (aF (ag hD25 rfl rfl rfl))))⟩
 refine aR 6 #[true,false,true,false,true,true,true,true,true,false,false,false,false] ⟨53,[(1,.adr (aY s)),(2,.ref 2 0 0 0),(8,.adr ((aY s).drop 0)),(10,.adr ((aY s).drop 1)),(14,.sl 4 (s.opn.map seC)),(16,.sl 4 (s.sub.map enC))],[(2,.box [.s (.int .i64 0),.s (.int .i64 0),.s (.slice none 0 0),.s (.slice none 0 0),.s (.slice none 0 0),.s (.slice none 0 0)])]⟩ ?_ (fun hD39=>?_)
 ·
  refine aI 1 [3,9,11] (by kernel_rfl) ⟨?_,?_,?_,?_,trivial⟩
  ·
   refine⟨_,rfl,rfl,(ao rfl (aE aA 1 rfl (aF (ag hD20 rfl rfl rfl))))⟩
  ·
   refine⟨_,rfl,rfl,(ao rfl (aE aA 1 rfl (aF (ag hD23 rfl rfl rfl))))⟩
  ·
   refine⟨_,rfl,rfl,(ao rfl (aM hf rfl (aQ rfl rfl iI rfl (jP s.sub (by omega))) (aF (ag hD26 rfl rfl rfl))))⟩
  ·
   refine⟨_,rfl,rfl,(ao rfl (bJ hf rfl rfl rfl bC (aF (ag hD27 rfl rfl rfl))))⟩
 refine aR 6 #[true,false,true,false,true,true,true,true,false,false,false,true,false] ⟨53,[(1,.adr (aY s)),(2,.ref 2 0 0 0),(3,.ref 3 0 0 0),(8,.adr ((aY s).drop 0)),(10,.adr ((aY s).drop 1)),(14,.sl 4 (s.opn.map seC)),(15,.adr ((aY s).drop 4))],[(3,.box [.s (.int .i64 0),.s (.int .i64 0),.s (.slice none 0 0),.s (.slice none 0 0),.s (.slice none 0 0),.s (.slice none 0 0)]),(2,.box [.s (.int .i64 0),.s (.int .i64 0),.s (.slice none 0 0),.s (.slice none 0 0),.s (.slice none 0 0),.s (.slice none 0 0)])]⟩ ?_ (fun hD40=>?_)
 ·
  refine aI 1 [3,8] (by kernel_rfl) ⟨?_,?_,?_,trivial⟩
  ·
   refine⟨_,rfl,rfl,(ao rfl (aE aA 1 rfl (aF (ag hD21 rfl rfl rfl))))⟩
  ·
   refine⟨_,rfl,rfl,(ao rfl (aE aA 1 rfl (aF (ag hD24 rfl rfl rfl))))⟩
  ·
   refine⟨_,rfl,rfl,(ao rfl (aE aA 1 rfl (aF (ag hD27 rfl rfl rfl))))⟩
 refine aR 6 #[true,false,true,false,true,true,false,true,true,false,false,true,false] ⟨53,[(1,.adr (aY s)),(2,.ref 2 0 0 0),(3,.ref 3 0 0 0),(8,.adr ((aY s).drop 0)),(10,.adr ((aY s).drop 1)),(13,.sl 4 (s.opn.map seC)),(16,.sl 4 (s.sub.map enC))],[(3,.box [.s (.int .i64 0),.s (.int .i64 0),.s (.slice none 0 0),.s (.slice none 0 0),.s (.slice none 0 0),.s (.slice none 0 0)]),(2,.box [.s (.int .i64 0),.s (.int .i64 0),.s (.slice none 0 0),.s (.slice none 0 0),.s (.slice none 0 0),.s (.slice none 0 0)])]⟩ ?_ (fun hD41=>?_)
 ·
  refine aI 1 [3,6] (by kernel_rfl) ⟨?_,?_,?_,trivial⟩
  ·
   refine⟨_,rfl,rfl,(ao rfl (aE aA 1 rfl (aF (ag hD22 rfl rfl rfl))))⟩
  ·
   refine⟨_,rfl,rfl,(ao rfl (aE aA 1 rfl (aF (ag hD25 rfl rfl rfl))))⟩
  ·
   refine⟨_,rfl,rfl,(ao rfl (aM hf rfl (aQ rfl rfl dX rfl (dV s.opn (by omega))) (aF (ag hD27 rfl rfl rfl))))⟩
 refine aR 7 #[true,true,true,true,true,false,false,true,false,false,false,false,false] ⟨53,[(1,.adr (aY s)),(2,.ref 2 0 0 0),(9,.s (.int .i64 s.now)),(11,.s (.int .i64 s.hor)),(12,.adr ((aY s).drop 2)),(15,.adr ((aY s).drop 4))],[(2,.box [.s (.int .i64 0),.s (.int .i64 0),.s (.slice none 0 0),.s (.slice none 0 0),.s (.slice none 0 0),.s (.slice none 0 0)])]⟩ ?_ (fun hD42=>?_)
 ·
  refine aI 5 [8,11] (by kernel_rfl) ⟨?_,?_,?_,trivial⟩
  ·
   refine⟨_,rfl,rfl,(ao rfl (aE aA 1 rfl (aF (ag hD28 rfl rfl rfl))))⟩
  ·
   refine⟨_,rfl,rfl,(ao rfl (aE aA 1 rfl (aF (ag hD29 rfl rfl rfl))))⟩
  ·
   refine⟨_,rfl,rfl,(ao rfl (bJ hf rfl rfl rfl bC (aF (ag hD30 rfl rfl rfl))))⟩
 refine aR 7 #[true,true,true,false,true,true,false,true,false,false,false,false,false] ⟨53,[(1,.adr (aY s)),(2,.ref 2 0 0 0),(9,.s (.int .i64 s.now)),(10,.adr ((aY s).drop 1)),(13,.sl 4 (s.opn.map seC)),(15,.adr ((aY s).drop 4))],[(2,.box [.s (.int .i64 0),.s (.int .i64 0),.s (.slice none 0 0),.s (.slice none 0 0),.s (.slice none 0 0),.s (.slice none 0 0)])]⟩ ?_ (fun hD43=>?_)
 ·
  refine aI 3 [6,8,11] (by kernel_rfl) ⟨?_,?_,?_,?_,trivial⟩
  ·
   refine⟨_,rfl,rfl,(ao rfl (aE aA 1 rfl (aF (ag hD28 rfl rfl rfl))))⟩
  ·
   refine⟨_,rfl,rfl,(ao rfl (aM hf rfl (aQ rfl rfl dX rfl (dV s.opn (by omega))) (aF (ag hD31 rfl rfl rfl))))⟩
  ·
   refine⟨_,rfl,rfl,(ao rfl (aE aA 1 rfl (aF (ag hD32 rfl rfl rfl))))⟩
  ·
   refine⟨_,rfl,rfl,(ao rfl (bJ hf rfl rfl rfl bC (aF (ag hD33 rfl rfl rfl))))⟩
 refine aR 7 #[true,true,true,false,true,false,false,true,true,false,false,false,false] ⟨53,[(1,.adr (aY s)),(2,.ref 2 0 0 0),(9,.s (.int .i64 s.now)),(10,.adr ((aY s).drop 1)),(12,.adr ((aY s).drop 2)),(16,.sl 4 (s.sub.map enC))],[(2,.box [.s (.int .i64 0),.s (.int .i64 0),.s (.slice none 0 0),.s (.slice none 0 0),.s (.slice none 0 0),.s (.slice none 0 0)])]⟩ ?_ (fun hD44=>?_)
 ·
  refine aI 3 [5,11] (by kernel_rfl) ⟨?_,?_,?_,trivial⟩
  ·
   refine⟨_,rfl,rfl,(ao rfl (aE aA 1 rfl (aF (ag hD29 rfl rfl rfl))))⟩
  ·
   refine⟨_,rfl,rfl,(ao rfl (aE aA 1 rfl (aF (ag hD32 rfl rfl rfl))))⟩
  ·
   refine⟨_,rfl,rfl,(ao rfl (bJ hf rfl rfl rfl bC (aF (ag hD34 rfl rfl rfl))))⟩
 refine aR 7 #[true,true,true,false,true,false,false,true,false,false,false,true,false] ⟨53,[(1,.adr (aY s)),(2,.ref 2 0 0 0),(3,.ref 3 0 0 0),(9,.s (.int .i64 s.now)),(10,.adr ((aY s).drop 1)),(12,.adr ((aY s).drop 2)),(15,.adr ((aY s).drop 4))],[(3,.box [.s (.int .i64 0),.s (.int .i64 0),.s (.slice none 0 0),.s (.slice none 0 0),.s (.slice none 0 0),.s (.slice none 0 0)]),(2,.box [.s (.int .i64 0),.s (.int .i64 0),.s (.slice none 0 0),.s (.slice none 0 0),.s (.slice none 0 0),.s (.slice none 0 0)])]⟩ ?_ (fun hD45=>?_)
 ·
  refine aI 3 [5,8] (by kernel_rfl) ⟨?_,?_,?_,trivial⟩
  ·
   refine⟨_,rfl,rfl,(ao rfl (aE aA 1 rfl (aF (ag hD30 rfl rfl rfl))))⟩
  ·
   refine⟨_,rfl,rfl,(ao rfl (aE aA 1 rfl (aF (ag hD33 rfl rfl rfl))))⟩
  ·
   refine⟨_,rfl,rfl,(ao rfl (aE aA 1 rfl (aF (ag hD34 rfl rfl rfl))))⟩
 refine aR 7 #[true,false,true,true,true,true,false,true,false,false,false,false,false] ⟨53,[(1,.adr (aY s)),(2,.ref 2 0 0 0),(8,.adr ((aY s).drop 0)),(11,.s (.int .i64 s.hor)),(13,.sl 4 (s.opn.map seC)),(15,.adr ((aY s).drop 4))],[(2,.box [.s (.int .i64 0),.s (.int .i64 0),.s (.slice none 0 0),.s (.slice none 0 0),.s (.slice none 0 0),.s (.slice none 0 0)])]⟩ ?_ (fun hD46=>?_)
 ·
  refine aI 1 [6,8,11] (by kernel_rfl) ⟨?_,?_,?_,?_,trivial⟩
  ·
   refine⟨_,rfl,rfl,(ao rfl (aE aA 1 rfl (aF (ag hD28 rfl rfl rfl))))⟩
  ·
   refine⟨_,rfl,rfl,(ao rfl (aM hf rfl (aQ rfl rfl dX rfl (dV s.opn (by omega))) (aF (ag hD35 rfl rfl rfl))))⟩
  ·
   refine⟨_,rfl,rfl,(ao rfl (aE aA 1 rfl (aF (ag hD36 rfl rfl rfl))))⟩
  ·
   refine⟨_,rfl,rfl,(ao rfl (bJ hf rfl rfl rfl bC (aF (ag hD37 rfl rfl rfl))))⟩
 refine aR 7 #[true,false,true,true,true,false,false,true,true,false,false,false,false] ⟨53,[(1,.adr (aY s)),(2,.ref 2 0 0 0),(8,.adr ((aY s).drop 0)),(11,.s (.int .i64 s.hor)),(12,.adr ((aY s).drop 2)),(16,.sl 4 (s.sub.map enC))],[(2,.box [.s (.int .i64 0),.s (.int .i64 0),.s (.slice none 0 0),.s (.slice none 0 0),.s (.slice none 0 0),.s (.slice none 0 0)])]⟩ ?_ (fun hD47=>?_)
 ·
  refine aI 1 [5,11] (by kernel_rfl) ⟨?_,?_,?_,trivial⟩
  ·
   refine⟨_,rfl,rfl,(ao rfl (aE aA 1 rfl (aF (ag hD29 rfl rfl rfl))))⟩
  ·
   refine⟨_,rfl,rfl,(ao rfl (aE aA 1 rfl (aF (ag hD36 rfl rfl rfl))))⟩
  ·
   refine⟨_,rfl,rfl,(ao rfl (bJ hf rfl rfl rfl bC (aF (ag hD38 rfl rfl rfl))))⟩
 refine aR 7 #[true,false,true,true,true,false,false,true,false,false,false,true,false] ⟨53,[(1,.adr (aY s)),(2,.ref 2 0 0 0),(3,.ref 3 0 0 0),(8,.adr ((aY s).drop 0)),(11,.s (.int .i64 s.hor)),(12,.adr ((aY s).drop 2)),(15,.adr ((aY s).drop 4))],[(3,.box [.s (.int .i64 0),.s (.int .i64 0),.s (.slice none 0 0),.s (.slice none 0 0),.s (.slice none 0 0),.s (.slice none 0 0)]),(2,.box [.s (.int .i64 0),.s (.int .i64 0),.s (.slice none 0 0),.s (.slice none 0 0),.s (.slice none 0 0),.s (.slice none 0 0)])]⟩ ?_ (fun hD48=>?_)
 ·
  refine aI 1 [5,8] (by kernel_rfl) ⟨?_,?_,?_,trivial⟩
  ·
   refine⟨_,rfl,rfl,(ao rfl (aE aA 1 rfl (aF (ag hD30 rfl rfl rfl))))⟩
  ·
   refine⟨_,rfl,rfl,(ao rfl (aE aA 1 rfl (aF (ag hD37 rfl rfl rfl))))⟩
  ·
   refine⟨_,rfl,rfl,(ao rfl (aE aA 1 rfl (aF (ag hD38 rfl rfl rfl))))⟩
 refine aR 7 #[true,false,true,false,true,true,true,true,false,false,false,false,false] ⟨53,[(1,.adr (aY s)),(2,.ref 2 0 0 0),(8,.adr ((aY s).drop 0)),(10,.adr ((aY s).drop 1)),(14,.sl 4 (s.opn.map seC)),(15,.adr ((aY s).drop 4))],[(2,.box [.s (.int .i64 0),.s (.int .i64 0),.s (.slice none 0 0),.s (.slice none 0 0),.s (.slice none 0 0),.s (.slice none 0 0)])]⟩ ?_ (fun hD49=>?_)
 ·
  refine aI 1 [3,8,11] (by kernel_rfl) ⟨?_,?_,?_,?_,trivial⟩
  ·
   refine⟨_,rfl,rfl,(ao rfl (aE aA 1 rfl (aF (ag hD31 rfl rfl rfl))))⟩
  ·
   refine⟨_,rfl,rfl,(ao rfl (aE aA 1 rfl (aF (ag hD35 rfl rfl rfl))))⟩
  ·
   refine⟨_,rfl,rfl,(ao rfl (aE aA 1 rfl (aF (ag hD39 rfl rfl rfl))))⟩
  ·
   refine⟨_,rfl,rfl,(ao rfl (bJ hf rfl rfl rfl bC (aF (ag hD40 rfl rfl rfl))))⟩
 refine aR 7 #[true,false,true,false,true,true,false,true,true,false,false,false,false] ⟨53,[(1,.adr (aY s)),(2,.ref 2 0 0 0),(8,.adr ((aY s).drop 0)),(10,.adr ((aY s).drop 1)),(13,.sl 4 (s.opn.map seC)),(16,.sl 4 (s.sub.map enC))],[(2,.box [.s (.int .i64 0),.s (.int .i64 0),.s (.slice none 0 0),.s (.slice none 0 0),.s (.slice none 0 0),.s (.slice none 0 0)])]⟩ ?_ (fun hD50=>?_)
 ·
  refine aI 1 [3,6,11] (by kernel_rfl) ⟨?_,?_,?_,?_,trivial⟩
  ·
   refine⟨_,rfl,rfl,(ao rfl (aE aA 1 rfl (aF (ag hD32 rfl rfl rfl))))⟩
  ·
   refine⟨_,rfl,rfl,(ao rfl (aE aA 1 rfl (aF (ag hD36 rfl rfl rfl))))⟩
  ·
   refine⟨_,rfl,rfl,(ao rfl (aM hf rfl (aQ rfl rfl dX rfl (dV s.opn (by omega))) (aF (ag hD39 rfl rfl rfl))))⟩
  ·
   refine⟨_,rfl,rfl,(ao rfl (bJ hf rfl rfl rfl bC (aF (ag hD41 rfl rfl rfl))))⟩
 refine aR 7 #[true,false,true,false,true,true,false,true,false,false,false,true,false] ⟨53,[(1,.adr (aY s)),(2,.ref 2 0 0 0),(3,.ref 3 0 0 0),(8,.adr ((aY s).drop 0)),(10,.adr ((aY s).drop 1)),(13,.sl 4 (s.opn.map seC)),(15,.adr ((aY s).drop 4))],[(3,.box [.s (.int .i64 0),.s (.int .i64 0),.s (.slice none 0 0),.s (.slice none 0 0),.s (.slice none 0 0),.s (.slice none 0 0)]),(2,.box [.s (.int .i64 0),.s (.int .i64 0),.s (.slice none 0 0),.s (.slice none 0 0),.s (.slice none 0 0),.s (.slice none 0 0)])]⟩ ?_ (fun hD51=>?_)
 ·
  refine aI 1 [3,6,8] (by kernel_rfl) ⟨?_,?_,?_,?_,trivial⟩
  ·
   refine⟨_,rfl,rfl,(ao rfl (aE aA 1 rfl (aF (ag hD33 rfl rfl rfl))))⟩
  ·
   refine⟨_,rfl,rfl,(ao rfl (aE aA 1 rfl (aF (ag hD37 rfl rfl rfl))))⟩
  ·
   refine⟨_,rfl,rfl,(ao rfl (aM hf rfl (aQ rfl rfl dX rfl (dV s.opn (by omega))) (aF (ag hD40 rfl rfl rfl))))⟩
  ·
   refine⟨_,rfl,rfl,(ao rfl (aE aA 1 rfl (aF (ag hD41 rfl rfl rfl))))⟩
 refine aR 7 #[true,false,true,false,true,false,false,true,true,false,false,true,false] ⟨53,[(1,.adr (aY s)),(2,.ref 2 0 0 0),(3,.ref 3 0 0 0),(8,.adr ((aY s).drop 0)),(10,.adr ((aY s).drop 1)),(12,.adr ((aY s).drop 2)),(16,.sl 4 (s.sub.map enC))],[(3,.box [.s (.int .i64 0),.s (.int .i64 0),.s (.slice none 0 0),.s (.slice none 0 0),.s (.slice none 0 0),.s (.slice none 0 0)]),(2,.box [.s (.int .i64 0),.s (.int .i64 0),.s (.slice none 0 0),.s (.slice none 0 0),.s (.slice none 0 0),.s (.slice none 0 0)])]⟩ ?_ (fun hD52=>?_)
 ·
  refine aI 1 [3,5] (by kernel_rfl) ⟨?_,?_,?_,trivial⟩
  ·
   refine⟨_,rfl,rfl,(ao rfl (aE aA 1 rfl (aF (ag hD34 rfl rfl rfl))))⟩
  ·
   refine⟨_,rfl,rfl,(ao rfl (aE aA 1 rfl (aF (ag hD38 rfl rfl rfl))))⟩
  ·
   refine⟨_,rfl,rfl,(ao rfl (aE aA 1 rfl (aF (ag hD41 rfl rfl rfl))))⟩
 refine aR 8 #[true,true,true,false,true,false,false,true,false,false,false,false,false] ⟨53,[(1,.adr (aY s)),(2,.ref 2 0 0 0),(9,.s (.int .i64 s.now)),(10,.adr ((aY s).drop 1)),(12,.adr ((aY s).drop 2)),(15,.adr ((aY s).drop 4))],[(2,.box [.s (.int .i64 0),.s (.int .i64 0),.s (.slice none 0 0),.s (.slice none 0 0),.s (.slice none 0 0),.s (.slice none 0 0)])]⟩ ?_ (fun hD53=>?_)
 ·
  refine aI 3 [5,8,11] (by kernel_rfl) ⟨?_,?_,?_,?_,trivial⟩
  ·
   refine⟨_,rfl,rfl,(ao rfl (aE aA 1 rfl (aF (ag hD42 rfl rfl rfl))))⟩
  ·
   refine⟨_,rfl,rfl,(ao rfl (aE aA 1 rfl (aF (ag hD43 rfl rfl rfl))))⟩
  ·
   refine⟨_,rfl,rfl,(ao rfl (aE aA 1 rfl (aF (ag hD44 rfl rfl rfl))))⟩
  ·
   refine⟨_,rfl,rfl,(ao rfl (bJ hf rfl rfl rfl bC (aF (ag hD45 rfl rfl rfl))))⟩
 refine aR 8 #[true,false,true,true,true,false,false,true,false,false,false,false,false] ⟨53,[(1,.adr (aY s)),(2,.ref 2 0 0 0),(8,.adr ((aY s).drop 0)),(11,.s (.int .i64 s.hor)),(12,.adr ((aY s).drop 2)),(15,.adr ((aY s).drop 4))],[(2,.box [.s (.int .i64 0),.s (.int .i64 0),.s (.slice none 0 0),.s (.slice none 0 0),.s (.slice none 0 0),.s (.slice none 0 0)])]⟩ ?_ (fun hD54=>?_)
 ·
  refine aI 1 [5,8,11] (by kernel_rfl) ⟨?_,?_,?_,?_,trivial⟩
  ·
   refine⟨_,rfl,rfl,(ao rfl (aE aA 1 rfl (aF (ag hD42 rfl rfl rfl))))⟩
  ·
   refine⟨_,rfl,rfl,(ao rfl (aE aA 1 rfl (aF (ag hD46 rfl rfl rfl))))⟩
  ·
   refine⟨_,rfl,rfl,(ao rfl (aE aA 1 rfl (aF (ag hD47 rfl rfl rfl))))⟩
  ·
   refine⟨_,rfl,rfl,(ao rfl (bJ hf rfl rfl rfl bC (aF (ag hD48 rfl rfl rfl))))⟩
 refine aR 8 #[true,false,true,false,true,true,false,true,false,false,false,false,false] ⟨53,[(1,.adr (aY s)),(2,.ref 2 0 0 0),(8,.adr ((aY s).drop 0)),(10,.adr ((aY s).drop 1)),(13,.sl 4 (s.opn.map seC)),(15,.adr ((aY s).drop 4))],[(2,.box [.s (.int .i64 0),.s (.int .i64 0),.s (.slice none 0 0),.s (.slice none 0 0),.s (.slice none 0 0),.s (.slice none 0 0)])]⟩ ?_ (fun hD55=>?_)
 ·
  refine aI 1 [3,6,8,11] (by kernel_rfl) ⟨?_,?_,?_,?_,?_,trivial⟩
  ·
   refine⟨_,rfl,rfl,(ao rfl (aE aA 1 rfl (aF (ag hD43 rfl rfl rfl))))⟩
  ·
   refine⟨_,rfl,rfl,(ao rfl (aE aA 1 rfl (aF (ag hD46 rfl rfl rfl))))⟩
  ·
   refine⟨_,rfl,rfl,(ao rfl (aM hf rfl (aQ rfl rfl dX rfl (dV s.opn (by omega))) (aF (ag hD49 rfl rfl rfl))))⟩
  ·
   refine⟨_,rfl,rfl,(ao rfl (aE aA 1 rfl (aF (ag hD50 rfl rfl rfl))))⟩
  ·
   refine⟨_,rfl,rfl,(ao rfl (bJ hf rfl rfl rfl bC (aF (ag hD51 rfl rfl rfl))))⟩
 refine aR 8 #[true,false,true,false,true,false,false,true,true,false,false,false,false] ⟨53,[(1,.adr (aY s)),(2,.ref 2 0 0 0),(8,.adr ((aY s).drop 0)),(10,.adr ((aY s).drop 1)),(12,.adr ((aY s).drop 2)),(16,.sl 4 (s.sub.map enC))],[(2,.box [.s (.int .i64 0),.s (.int .i64 0),.s (.slice none 0 0),.s (.slice none 0 0),.s (.slice none 0 0),.s (.slice none 0 0)])]⟩ ?_ (fun hD56=>?_)
 ·
  refine aI 1 [3,5,11] (by kernel_rfl) ⟨?_,?_,?_,?_,trivial⟩
  ·
   refine⟨_,rfl,rfl,(ao rfl (aE aA 1 rfl (aF (ag hD44 rfl rfl rfl))))⟩
  ·
   refine⟨_,rfl,rfl,(ao rfl (aE aA 1 rfl (aF (ag hD47 rfl rfl rfl))))⟩
  ·
   refine⟨_,rfl,rfl,(ao rfl (aE aA 1 rfl (aF (ag hD50 rfl rfl rfl))))⟩
  ·
   refine⟨_,rfl,rfl,(ao rfl (bJ hf rfl rfl rfl bC (aF (ag hD52 rfl rfl rfl))))⟩
 refine aR 8 #[true,false,true,false,true,false,false,true,false,false,false,true,false] ⟨53,[(1,.adr (aY s)),(2,.ref 2 0 0 0),(3,.ref 3 0 0 0),(8,.adr ((aY s).drop 0)),(10,.adr ((aY s).drop 1)),(12,.adr ((aY s).drop 2)),(15,.adr ((aY s).drop 4))],[(3,.box [.s (.int .i64 0),.s (.int .i64 0),.s (.slice none 0 0),.s (.slice none 0 0),.s (.slice none 0 0),.s (.slice none 0 0)]),(2,.box [.s (.int .i64 0),.s (.int .i64 0),.s (.slice none 0 0),.s (.slice none 0 0),.s (.slice none 0 0),.s (.slice none 0 0)])]⟩ ?_ (fun hD57=>?_)
 ·
  refine aI 1 [3,5,8] (by kernel_rfl) ⟨?_,?_,?_,?_,trivial⟩
  ·
   refine⟨_,rfl,rfl,(ao rfl (aE aA 1 rfl (aF (ag hD45 rfl rfl rfl))))⟩
  ·
   refine⟨_,rfl,rfl,(ao rfl (aE aA 1 rfl (aF (ag hD48 rfl rfl rfl))))⟩
  ·
   refine⟨_,rfl,rfl,(ao rfl (aE aA 1 rfl (aF (ag hD51 rfl rfl rfl))))⟩
  ·
   refine⟨_,rfl,rfl,(ao rfl (aE aA 1 rfl (aF (ag hD52 rfl rfl rfl))))⟩
 refine kZ (aCu (sl':=[(1,.adr (aY s)),(2,.ref 2 0 0 0),(8,.adr ((aY s).drop 0)),(10,.adr ((aY s).drop 1)),(12,.adr ((aY s).drop 2)),(15,.adr ((aY s).drop 4))]) (m':=[(2,.box [.s (.int .i64 0),.s (.int .i64 0),.s (.slice none 0 0),.s (.slice none 0 0),.s (.slice none 0 0),.s (.slice none 0 0)])]) rfl rfl rfl) (aI 1 [3,5,8,11] (by kernel_rfl) ⟨?_,?_,?_,?_,?_,trivial⟩)
 ·
  refine⟨_,rfl,rfl,(ao rfl (aE aA 1 rfl (aF (ag hD53 rfl rfl rfl))))⟩
 ·
  refine⟨_,rfl,rfl,(ao rfl (aE aA 1 rfl (aF (ag hD54 rfl rfl rfl))))⟩
 ·
  refine⟨_,rfl,rfl,(ao rfl (aE aA 1 rfl (aF (ag hD55 rfl rfl rfl))))⟩
 ·
  refine⟨_,rfl,rfl,(ao rfl (aE aA 1 rfl (aF (ag hD56 rfl rfl rfl))))⟩
 ·
  refine⟨_,rfl,rfl,(ao rfl (bJ hf rfl rfl rfl bC (aF (ag hD57 rfl rfl rfl))))⟩
theorem aId (s:Sta) (hz:SzS 140737488353280 s) :Den Tryz.prog 18 [.agg (aY s)]  (·=.s (.int .i64 (manyI s))):=by
 refine aU Tryz.func18 rfl (Nat.le_of_ble_eq_true rfl) (fun w0 A hf=>(aC (fun K1 hK1=>(aB (aM hf rfl (cP rfl rfl (lf rfl)) (aE aA 1 rfl (aD (hK1 _ (aC (fun K2 hK2=>(eB hf bI (by kernel_rfl) rfl (aX aA 1 rfl (bT [(3,_)] rfl rfl ⟨⟨rfl,rfl⟩,trivial⟩ rfl (aQ rfl rfl aI9 rfl (yT s hz)) (aX aA 3 rfl (bL [(4,_),(7,_)] rfl rfl ⟨⟨rfl,rfl⟩,⟨rfl,rfl⟩,trivial⟩ rfl (eI rfl rfl rfl) ?_)))))))))))))))
 refine aX aA 1 rfl (eE [2] rfl rfl rfl (hK2 _ (aJ ?_)))
 refine⟨_,rfl,?_⟩
 simp only[manyI,List.length_map]; rfl
end Go.Proofs.YthapfogcaklbbaaGreat
set_option linter.unusedVariables false
set_option linter.unusedSimpArgs false
namespace Go.Proofs.YthapfogcaklbbaaGreat
open Go Go.Abs
end Go.Proofs.YthapfogcaklbbaaGreat
set_option linter.unusedVariables false
set_option linter.unusedSimpArgs false
namespace Go.Proofs.YthapfogcaklbbaaGreat
open Go Go.Abs
end Go.Proofs.YthapfogcaklbbaaGreat
set_option linter.unusedVariables false
set_option linter.unusedSimpArgs false
namespace Go.Proofs.YthapfogcaklbbaaGreat
open Go Go.Abs
end Go.Proofs.YthapfogcaklbbaaGreat
set_option linter.unusedVariables false
set_option linter.unusedSimpArgs false
namespace Go.Proofs.YthapfogcaklbbaaGreat
open Go Go.Abs
theorem wX (l:List Se) (hl:l.length≤9223372036854775807) (ht:∀ e∈l,TS e.1.2) :Den Tryz.prog 66 [.sl 4 (l.map seC)]  (·=.s (.bool (iC l))):=by
 refine aU Tryz.func66 rfl (Nat.le_of_ble_eq_true rfl) (fun w0 A hf=>(aC (fun K1 hK1=>(aB (aE aA 1 rfl (aD (hK1 _ (aC (fun K2 hK2=>(aC (fun K3 hK3=>(aB (aE aA 3 rfl (aD (hK3 _ (aK rfl (fun hc1=>?_) (fun hc1=>?_)))))))))))))))))
 ·
  simp only[bs] at hc1
  refine aC (fun K4 hK4=>(aB (aE aA 1 rfl (aD (hK4 _ (aJ ?_))))))
  refine⟨_,rfl,?_⟩
  refine aP ?_
  rw[iC,show decide (l.length≤16)=false from by simp only[decide_eq_false_iff_not]; omega,Bool.and_false]
 ·
  simp only[bs] at hc1
  refine aN (hK2 _ (aC (fun K5 hK5=>(aC (fun K6 hK6=>(aB (aE aA 1 rfl (aD (hK6 _ (aO (bR (ι:=Nat) (fun k=>⟨65,[(0,.sl 4 (l.map seC)),(3,.s (.int .i64 (k:Nat)))],[]⟩) (fun k=>k≤l.length∧lW gF iW none l=lW gF iW (aYn l k) (l.drop k)) (fun k=>l.length - k) 0 ?_ ?_ ?_)))))))))))
  · exact⟨Nat.zero_le _,rfl⟩
  · exact cX rfl
  ·
   rintro k hC
   obtain ⟨h1,h2⟩:=hC
   refine aC (fun K7 hK7=>(aC (fun K8 hK8=>(aB (aE aA 4 rfl (aD (hK8 _ (aK rfl (fun hc2=>?_) (fun hc2=>?_)))))))))
   ·
    simp only[bs] at hc2
    refine aN (hK7 _ (aC (fun K9 hK9=>(aO (aC (fun K10 hK10=>(aB (aE aA 2 rfl ?_))))))))
    refine aG rfl (bB rfl rfl pE jV (by first | exact ixm (by omega) | assumption | exact⟨by decide,rfl⟩)) ?_
    refine aE aA 1 rfl (cC hf rfl aB5 rfl jV rfl rfl rfl rfl (lf rfl) (aD (hK10 _ (aC (fun K11 hK11=>(aC (fun K12 hK12=>(aB (aE aA 2 rfl (aM hf rfl (aQ rfl rfl nI rfl (Nm.refRight_den _ (ht _ (List.getElem_mem _)))) (aE aA 2 rfl (aV rfl rfl rfl (fun hg3=>?_) (fun hg3=>?_)))))))))))))
    ·
     simp only[bs] at hg3
     refine aG rfl (bQ rfl uK cE rfl) ?_
     refine aE aA 4 rfl (aV rfl rfl rfl (fun hg4=>?_) (fun hg4=>?_))
     ·
      simp only[bs] at hg4
      refine aG rfl (bQ rfl uK cE rfl) ?_
      refine aE aA 4 rfl (aV rfl rfl rfl (fun hg5=>?_) (fun hg5=>?_))
      ·
       simp only[bs] at hg5
       refine aG rfl (bQ rfl uJ cE rfl) ?_
       refine aE aA 4 rfl (aV rfl rfl rfl (fun hg6=>?_) (fun hg6=>?_))
       ·
        simp only[bs] at hg6
        refine aG rfl (bQ rfl uJ cE rfl) ?_
        refine aE aA 4 rfl (aV rfl rfl rfl (fun hg7=>?_) (fun hg7=>?_))
        ·
         simp only[bs] at hg7
         refine aG rfl (bQ rfl uI cE rfl) ?_
         refine aE aA 4 rfl (aV rfl rfl rfl (fun hg8=>?_) (fun hg8=>?_))
         ·
          simp only[bs] at hg8
          refine aG rfl (bQ rfl uI cE rfl) ?_
          refine aE aA 3 rfl (aD (hK12 _ (aK rfl (fun hc9=>?_) (fun hc9=>?_))))
          ·
           simp only[bs] at hc9
           refine aC (fun K13 hK13=>(aB (aE aA 1 rfl (aD (hK13 _ (aJ ?_))))))
           refine⟨_,rfl,?_⟩
           refine aP ?_
           first | (rw[iC,gV h2 (by omega) (show gF l[k]=false from by
            unfold gF
            rw[Bool.eq_false_iff]
            simp only[ne_eq,Bool.and_eq_true,decide_eq_true_eq]
            rintro ⟨q1,⟨⟨q2,q3⟩,⟨q4,q5⟩⟩,q6,q7⟩
            first | omega | (simp_all; done) | (simp_all; omega))]; rfl) | (rw[iC,iA h2 (by omega) (by omega) (show iW _ _=false from by simp only[iW,decide_eq_false_iff_not]; omega)]; rfl)
          ·
           simp only[bs] at hc9
           refine aN (hK11 _ (aC (fun K14 hK14=>(eB hf bI (by kernel_rfl) rfl (aX aA 3 rfl (gA 54 true rfl (fun hg10=>?_) (fun hg10=>?_)))))))
           ·
            simp only[bs] at hg10
            refine aX aA 2 rfl ?_
            refine bL [(56,_)] rfl rfl ⟨⟨rfl,rfl⟩,trivial⟩ rfl (eH rfl rfl (by omega) (by omega)) ?_
            refine bL [(55,_),(57,_)] rfl rfl ⟨⟨rfl,rfl⟩,⟨rfl,rfl⟩,trivial⟩ rfl (bB rfl rfl pE jV (iO (k:=k - 1) (by omega) (by omega))) (aX aA 6 rfl (eE [0,3,64] rfl rfl rfl (hK14 _ (aK rfl (fun hc11=>?_) (fun hc11=>?_)))))
            ·
             simp only[bs] at hc11
             refine aC (fun K15 hK15=>(aB (aE aA 1 rfl (aD (hK15 _ (aJ ?_))))))
             refine⟨_,rfl,?_⟩
             refine aP ?_
             first | (rw[iC,gV h2 (by omega) (show gF l[k]=false from by
              unfold gF
              rw[Bool.eq_false_iff]
              simp only[ne_eq,Bool.and_eq_true,decide_eq_true_eq]
              rintro ⟨q1,⟨⟨q2,q3⟩,⟨q4,q5⟩⟩,q6,q7⟩
              first | omega | (simp_all; done) | (simp_all; omega))]; rfl) | (rw[iC,iA h2 (by omega) (by omega) (show iW _ _=false from by simp only[iW,decide_eq_false_iff_not]; omega)]; rfl)
            ·
             simp only[bs] at hc11
             refine aN (hK9 _ (aB (aE aA 1 rfl ?_)))
             refine aG rfl (bO rfl rfl (by omega) (by omega)) ?_
             refine aE aA 1 rfl (aD ?_)
             exact⟨k+1,⟨by omega,lD h2 (by omega) (show gF l[k]=true from by
              unfold gF
              simp only[Bool.and_eq_true,decide_eq_true_eq]
              exact⟨by first | assumption | (simp_all; done),⟨⟨by omega,by omega⟩,by omega,by omega⟩,by omega,by omega⟩) (fun h0=>by simp only[iW,decide_eq_true_eq]; omega)⟩,by omega,cX rfl⟩
           ·
            simp only[bs] at hg10
            refine aX aA 10 rfl (eE [0,3,64] rfl rfl rfl (hK14 _ (bW rfl (aN (hK9 _ (aB (aE aA 1 rfl ?_)))))))
            refine aG rfl (bO rfl rfl (by omega) (by omega)) ?_
            refine aE aA 1 rfl (aD ?_)
            exact⟨k+1,⟨by omega,lD h2 (by omega) (show gF l[k]=true from by
             unfold gF
             simp only[Bool.and_eq_true,decide_eq_true_eq]
             exact⟨by first | assumption | (simp_all; done),⟨⟨by omega,by omega⟩,by omega,by omega⟩,by omega,by omega⟩) (fun h0=>by simp only[iW,decide_eq_true_eq]; omega)⟩,by omega,cX rfl⟩
         ·
          simp only[bs] at hg8
          refine aE aA 3 rfl (aD (hK12 _ (bU rfl (aC (fun K16 hK16=>(aB (aE aA 1 rfl (aD (hK16 _ (aJ ?_))))))))))
          refine⟨_,rfl,?_⟩
          refine aP ?_
          first | (rw[iC,gV h2 (by omega) (show gF l[k]=false from by
           unfold gF
           rw[Bool.eq_false_iff]
           simp only[ne_eq,Bool.and_eq_true,decide_eq_true_eq]
           rintro ⟨q1,⟨⟨q2,q3⟩,⟨q4,q5⟩⟩,q6,q7⟩
           first | omega | (simp_all; done) | (simp_all; omega))]; rfl) | (rw[iC,iA h2 (by omega) (by omega) (show iW _ _=false from by simp only[iW,decide_eq_false_iff_not]; omega)]; rfl)
        ·
         simp only[bs] at hg7
         refine aE aA 8 rfl (aD (hK12 _ (bU rfl (aC (fun K17 hK17=>(aB (aE aA 1 rfl (aD (hK17 _ (aJ ?_))))))))))
         refine⟨_,rfl,?_⟩
         refine aP ?_
         first | (rw[iC,gV h2 (by omega) (show gF l[k]=false from by
          unfold gF
          rw[Bool.eq_false_iff]
          simp only[ne_eq,Bool.and_eq_true,decide_eq_true_eq]
          rintro ⟨q1,⟨⟨q2,q3⟩,⟨q4,q5⟩⟩,q6,q7⟩
          first | omega | (simp_all; done) | (simp_all; omega))]; rfl) | (rw[iC,iA h2 (by omega) (by omega) (show iW _ _=false from by simp only[iW,decide_eq_false_iff_not]; omega)]; rfl)
       ·
        simp only[bs] at hg6
        refine aE aA 13 rfl (aD (hK12 _ (bU rfl (aC (fun K18 hK18=>(aB (aE aA 1 rfl (aD (hK18 _ (aJ ?_))))))))))
        refine⟨_,rfl,?_⟩
        refine aP ?_
        first | (rw[iC,gV h2 (by omega) (show gF l[k]=false from by
         unfold gF
         rw[Bool.eq_false_iff]
         simp only[ne_eq,Bool.and_eq_true,decide_eq_true_eq]
         rintro ⟨q1,⟨⟨q2,q3⟩,⟨q4,q5⟩⟩,q6,q7⟩
         first | omega | (simp_all; done) | (simp_all; omega))]; rfl) | (rw[iC,iA h2 (by omega) (by omega) (show iW _ _=false from by simp only[iW,decide_eq_false_iff_not]; omega)]; rfl)
      ·
       simp only[bs] at hg5
       refine aE aA 18 rfl (aD (hK12 _ (bU rfl (aC (fun K19 hK19=>(aB (aE aA 1 rfl (aD (hK19 _ (aJ ?_))))))))))
       refine⟨_,rfl,?_⟩
       refine aP ?_
       first | (rw[iC,gV h2 (by omega) (show gF l[k]=false from by
        unfold gF
        rw[Bool.eq_false_iff]
        simp only[ne_eq,Bool.and_eq_true,decide_eq_true_eq]
        rintro ⟨q1,⟨⟨q2,q3⟩,⟨q4,q5⟩⟩,q6,q7⟩
        first | omega | (simp_all; done) | (simp_all; omega))]; rfl) | (rw[iC,iA h2 (by omega) (by omega) (show iW _ _=false from by simp only[iW,decide_eq_false_iff_not]; omega)]; rfl)
     ·
      simp only[bs] at hg4
      refine aE aA 23 rfl (aD (hK12 _ (bU rfl (aC (fun K20 hK20=>(aB (aE aA 1 rfl (aD (hK20 _ (aJ ?_))))))))))
      refine⟨_,rfl,?_⟩
      refine aP ?_
      first | (rw[iC,gV h2 (by omega) (show gF l[k]=false from by
       unfold gF
       rw[Bool.eq_false_iff]
       simp only[ne_eq,Bool.and_eq_true,decide_eq_true_eq]
       rintro ⟨q1,⟨⟨q2,q3⟩,⟨q4,q5⟩⟩,q6,q7⟩
       first | omega | (simp_all; done) | (simp_all; omega))]; rfl) | (rw[iC,iA h2 (by omega) (by omega) (show iW _ _=false from by simp only[iW,decide_eq_false_iff_not]; omega)]; rfl)
    ·
     simp only[bs] at hg3
     refine aE aA 28 rfl (aD (hK12 _ (bU rfl (aC (fun K21 hK21=>(aB (aE aA 1 rfl (aD (hK21 _ (aJ ?_))))))))))
     refine⟨_,rfl,?_⟩
     refine aP ?_
     first | (rw[iC,gV h2 (by omega) (show gF l[k]=false from by
      unfold gF
      rw[Bool.eq_false_iff]
      simp only[ne_eq,Bool.and_eq_true,decide_eq_true_eq]
      rintro ⟨q1,⟨⟨q2,q3⟩,⟨q4,q5⟩⟩,q6,q7⟩
      first | omega | (simp_all; done) | (simp_all; omega))]; rfl) | (rw[iC,iA h2 (by omega) (by omega) (show iW _ _=false from by simp only[iW,decide_eq_false_iff_not]; omega)]; rfl)
   ·
    simp only[bs] at hc2
    refine aW (hK5 _ (aC (fun K22 hK22=>(aB (aE aA 1 rfl (aD (hK22 _ (aJ ?_))))))))
    refine⟨_,rfl,?_⟩
    refine aP ?_
    rw[iC,yM h2 (by omega),show decide (l.length≤16)=true from by simp only[decide_eq_true_eq]; omega]; rfl
end Go.Proofs.YthapfogcaklbbaaGreat
set_option linter.unusedVariables false
set_option linter.unusedSimpArgs false
namespace Go.Proofs.YthapfogcaklbbaaGreat
open Go Go.Abs
end Go.Proofs.YthapfogcaklbbaaGreat
set_option linter.unusedVariables false
set_option linter.unusedSimpArgs false
namespace Go.Proofs.YthapfogcaklbbaaGreat
open Go Go.Abs
end Go.Proofs.YthapfogcaklbbaaGreat
set_option linter.unusedVariables false
set_option linter.unusedSimpArgs false
namespace Go.Proofs.YthapfogcaklbbaaGreat
open Go Go.Abs
theorem aNv (s:Sta) (u:ByteArray) (t:Int) (hz:SzS 140737488353280 s) (ho:s.opn.length≤50) (hr:cR cM s.usr) :Den Tryz.prog 40 [.agg (aY s),.s (.string u),.s (.int .i64 t)]  (·=.sl 4 ((aDz s u t).map stC)):=by
 have z1:=hz.o
 have z2:=hz.u
 have hsl:=aKc s.opn u t
 have hou:(ofU s.usr u).length*32≤140737488353280:=aCp (p:=fun x=>x.2.length*32≤140737488353280) hr hz.y (by simp)
 refine aU Tryz.func40 rfl (Nat.le_of_ble_eq_true rfl) (fun w0 A hf=>(aC (fun K1 hK1=>(aB (aM hf rfl (cP rfl rfl (lf rfl)) (aG rfl (bH) (aD (hK1 _ (aC (fun K2 hK2=>(aB (aE aA 2 rfl (aM hf rfl (aQ rfl rfl aOk rfl (aOx s u (by omega))) (aE aA 1 rfl (aD ?_)))))))))))))))
 refine hK2 _ (aC (fun K3 hK3=>(aB (aE aA 4 rfl (aM hf rfl (aQ rfl rfl aOj rfl (aNw s.opn u t (by omega))) (aE aA 1 rfl (aD (hK3 _ (aC (fun K4 hK4=>(aC (fun K5 hK5=>(aB (aE aA 1 rfl (aD ?_)))))))))))))))
 refine hK5 _ (aO (bR (ι:=Nat×List bD) (fun(⟨k,out⟩:Nat×List bD)=>⟨31,[(7,.sl 4 (out.map stC)),(8,.sl 4 ((fG s.opn u t).map stC)),(9,.s (.int .i64 (k:Nat)))],[]⟩) (fun(⟨k,out⟩:Nat×List bD)=>k≤(fG s.opn u t).length∧out=((fG s.opn u t).take k).foldl gX (ofU s.usr u)∧out.length≤(ofU s.usr u).length+k) (fun(⟨k,out⟩:Nat×List bD)=>(fG s.opn u t).length - k) (0,ofU s.usr u) ?_ ?_ ?_))
 · exact⟨Nat.zero_le _,rfl,Nat.le_refl _⟩
 · exact cX rfl
 ·
  rintro ⟨k,out⟩ hC
  obtain ⟨h1,h2,h3⟩:=hC
  refine aC (fun K6 hK6=>(aC (fun K7 hK7=>(aB (aE aA 4 rfl (aD (hK7 _ (aK rfl (fun hc1=>?_) (fun hc1=>?_)))))))))
  ·
   simp only[bs] at hc1
   refine aN (hK6 _ (aC (fun K8 hK8=>(aO (aB (aE aA 3 rfl ?_))))))
   refine aG rfl (bB rfl rfl pD jW (by first | exact ixm (by omega) | assumption | exact⟨by decide,rfl⟩)) ?_
   refine aE aA 1 rfl (aM hf rfl (aQ rfl rfl aN1 rfl (aNt out (fG s.opn u t)[k] (by omega))) (aE aA 1 rfl ?_))
   refine bG ?_
   refine hK8 _ (aB (aE aA 1 rfl ?_))
   refine aG rfl (bO rfl rfl (by omega) (by omega)) ?_
   refine aE aA 1 rfl (aD ?_)
   exact⟨(k+1,gX out (fG s.opn u t)[k]),⟨by omega,by rw[xU (fG s.opn u t) gX _ k (by omega),← h2],by have:=aAh out (fG s.opn u t)[k]; omega⟩,by simp only; omega,cX rfl⟩
  ·
   simp only[bs] at hc1
   refine aW (hK4 _ (aC (fun K9 hK9=>(aB (aE aA 2 rfl (aD (hK9 _ (aJ ?_))))))))
   refine⟨_,rfl,?_⟩
   show AV.sl 4 (out.map stC)=_
   rw[h2,List.take_of_length_le (by omega)]; rfl
end Go.Proofs.YthapfogcaklbbaaGreat
set_option linter.unusedVariables false
set_option linter.unusedSimpArgs false
namespace Go.Proofs.YthapfogcaklbbaaGreat
open Go Go.Abs
theorem yQ (s:Sta) (x:Us) (hx:x.2.length≤9223372036854775807) (ho:s.opn.length≤9223372036854775807) :Den Tryz.prog 68 [.sl 4 (x.2.map stC),.s (.int .i64 s.now),.sl 4 (s.opn.map seC)]  (·=.s (.bool (wY s x))):=by
 refine aU Tryz.func68 rfl (Nat.le_of_ble_eq_true rfl) (fun w0 A hf=>(aC (fun K1 hK1=>(aB (aE aA 1 rfl (aD (hK1 _ (aC (fun K2 hK2=>(aC (fun K3 hK3=>(aB (aE aA 1 rfl (aD (hK3 _ (aO ?_))))))))))))))))
 refine bR (ι:=Nat) (fun k=>⟨80,[(0,.sl 4 (x.2.map stC)),(1,.s (.int .i64 s.now)),(2,.sl 4 (s.opn.map seC)),(7,.s (.int .i64 (k:Nat)))],[]⟩) (fun k=>k≤x.2.length∧∀ (j:Nat) (hj:j<x.2.length),j<k→iE s x.2[j]=true) (fun k=>x.2.length - k) 0 ?_ ?_ ?_
 · exact⟨Nat.zero_le _,by omega⟩
 · exact cX rfl
 ·
  rintro k hC
  obtain ⟨h1,h2⟩:=hC
  refine aC (fun K4 hK4=>(aC (fun K5 hK5=>(aB (aE aA 4 rfl (aD (hK5 _ (cU rfl rfl (fun hc1=>?_) (fun hc1=>?_)))))))))
  ·
   simp only[bs] at hc1
   refine aN (hK4 _ (aC (fun K6 hK6=>(aO (aC (fun K7 hK7=>(aB ?_)))))))
   have hk:k<x.2.length:=by omega
   refine aE aA 2 rfl ?_
   refine aG rfl (bB rfl rfl pD jW (by first | exact ixm (by omega) | assumption | exact⟨by decide,rfl⟩)) ?_
   refine aE aA 1 rfl (cC hf rfl aB6 rfl jW rfl rfl rfl rfl (lf rfl) (aD (hK7 _ (aC (fun K8 hK8=>(aC (fun K9 hK9=>(aB (aE aA 1 rfl (aD (hK9 _ (aO (bR (ι:=Nat) (fun i=>⟨80,[(0,.sl 4 (x.2.map stC)),(1,.s (.int .i64 s.now)),(2,.sl 4 (s.opn.map seC)),(7,.s (.int .i64 (k:Nat))),(8,.adr (stC x.2[k])),(9,.s (.int .i64 (i:Nat)))],[]⟩) (fun i=>i≤s.opn.length∧∀ (j:Nat) (hj:j<s.opn.length),j<i→¬ (s.opn[j].1.1=x.2[k].2.1∧s.opn[j].2.2<x.2[k].1.2)) (fun i=>s.opn.length - i) 0 ?_ ?_ ?_)))))))))))))
   · exact⟨Nat.zero_le _,by omega⟩
   · exact cX rfl
   ·
    rintro i hC
    obtain ⟨h3,h4⟩:=hC
    refine aC (fun K10 hK10=>(aC (fun K11 hK11=>(aB (aE aA 4 rfl (aD (hK11 _ (cU rfl rfl (fun hc2=>?_) (fun hc2=>?_)))))))))
    ·
     simp only[bs] at hc2
     refine aN (hK10 _ (aC (fun K12 hK12=>(aO (aC (fun K13 hK13=>(eB hf bI (by kernel_rfl) rfl ?_)))))))
     have hi:i<s.opn.length:=by omega
     refine aX aA 2 rfl ?_
     refine bL [(26,_),(27,_)] rfl rfl ⟨⟨rfl,rfl⟩,⟨rfl,rfl⟩,trivial⟩ rfl (bB rfl rfl pE jV (by first | exact ixm (by omega) | assumption | exact⟨by decide,rfl⟩)) ?_
     refine aX aA 6 rfl (gA 34 true rfl (fun hg3=>?_) (fun hg3=>?_))
     ·
      simp only[bs] at hg3
      refine aX aA 4 rfl ?_
      refine bL [(37,_),(38,_)] rfl rfl ⟨⟨rfl,rfl⟩,⟨rfl,rfl⟩,trivial⟩ rfl (bB rfl rfl pE jV (by first | exact ixm (by omega) | assumption | exact⟨by decide,rfl⟩)) ?_
      refine aX aA 4 rfl (eE [0,1,2,7,8,9,43] rfl rfl rfl (hK13 _ (cU rfl rfl (fun hc4=>?_) (fun hc4=>?_))))
      ·
       simp only[bs] at hc4
       refine aC (fun K14 hK14=>(aB (aE aA 1 rfl (aD (hK14 _ (aJ ?_))))))
       refine⟨_,rfl,?_⟩
       refine aP ?_
       exact mS hk (aMg hi (by first | assumption | omega) (by first | assumption | omega))
      ·
       simp only[bs] at hc4
       refine aN (hK12 _ (aB (aE aA 1 rfl ?_)))
       refine aG rfl (bO rfl rfl (by omega) (by omega)) ?_
       refine aE aA 1 rfl (aD ?_)
       exact⟨i+1,⟨by omega,kM h4 (by omega) (by omega)⟩,by omega,cX rfl⟩
     ·
      simp only[bs] at hg3
      refine aX aA 9 rfl (eE [0,1,2,7,8,9,43] rfl rfl rfl (hK13 _ (bW rfl (aN (hK12 _ (aB (aE aA 1 rfl ?_)))))))
      refine aG rfl (bO rfl rfl (by omega) (by omega)) ?_
      refine aE aA 1 rfl (aD ?_)
      exact⟨i+1,⟨by omega,kM h4 (by omega) (by omega)⟩,by omega,cX rfl⟩
    ·
     simp only[bs] at hc2
     refine aW (hK8 _ (aC (fun K15 hK15=>(aB (aE aA 4 rfl (aV rfl rfl rfl (fun hg6=>?_) (fun hg6=>?_)))))))
     ·
      simp only[bs] at hg6
      refine aG rfl (bQ rfl aDj cE rfl) ?_
      refine aE aA 5 rfl (aV rfl rfl rfl (fun hg7=>?_) (fun hg7=>?_))
      ·
       simp only[bs] at hg7
       refine aG rfl (bQ rfl uM cE rfl) ?_
       refine aE aA 4 rfl (aV rfl rfl rfl (fun hg8=>?_) (fun hg8=>?_))
       ·
        simp only[bs] at hg8
        refine aG rfl (bQ rfl uM cE rfl) ?_
        refine aE aA 4 rfl (aV rfl rfl rfl (fun hg9=>?_) (fun hg9=>?_))
        ·
         simp only[bs] at hg9
         refine aG rfl (bQ rfl uL cE rfl) ?_
         refine aE aA 4 rfl (aV rfl rfl rfl (fun hg10=>?_) (fun hg10=>?_))
         ·
          simp only[bs] at hg10
          refine aG rfl (bQ rfl uL cE rfl) ?_
          refine aE aA 3 rfl (aD (hK15 _ (cU rfl rfl (fun hc11=>?_) (fun hc11=>?_))))
          ·
           simp only[bs] at hc11
           refine aC (fun K16 hK16=>(aB (aE aA 1 rfl (aD (hK16 _ (aJ ?_))))))
           refine⟨_,rfl,?_⟩
           refine aP ?_
           exact mS hk (oU (by omega))
          ·
           simp only[bs] at hc11
           refine aN (hK6 _ (aB (aE aA 1 rfl ?_)))
           refine aG rfl (bO rfl rfl (by omega) (by omega)) ?_
           refine aE aA 1 rfl (aD ?_)
           exact⟨k+1,⟨by omega,kM h2 (by omega) (aKr (by omega) h4 (by refine⟨?_,?_,?_,?_,?_,?_⟩ <;> omega))⟩,by omega,cX rfl⟩
         ·
          simp only[bs] at hg10
          refine aE aA 3 rfl (aD (hK15 _ (bU rfl (aC (fun K17 hK17=>(aB (aE aA 1 rfl (aD (hK17 _ (aJ ?_))))))))))
          refine⟨_,rfl,?_⟩
          refine aP ?_
          exact mS hk (oU (by omega))
        ·
         simp only[bs] at hg9
         refine aE aA 8 rfl (aD (hK15 _ (bU rfl (aC (fun K18 hK18=>(aB (aE aA 1 rfl (aD (hK18 _ (aJ ?_))))))))))
         refine⟨_,rfl,?_⟩
         refine aP ?_
         exact mS hk (oU (by omega))
       ·
        simp only[bs] at hg8
        refine aE aA 13 rfl (aD (hK15 _ (bU rfl (aC (fun K19 hK19=>(aB (aE aA 1 rfl (aD (hK19 _ (aJ ?_))))))))))
        refine⟨_,rfl,?_⟩
        refine aP ?_
        exact mS hk (oU (by omega))
      ·
       simp only[bs] at hg7
       refine aE aA 18 rfl (aD (hK15 _ (bU rfl (aC (fun K20 hK20=>(aB (aE aA 1 rfl (aD (hK20 _ (aJ ?_))))))))))
       refine⟨_,rfl,?_⟩
       refine aP ?_
       exact mS hk (oU (by omega))
     ·
      simp only[bs] at hg6
      refine aE aA 24 rfl (aD (hK15 _ (bU rfl (aC (fun K21 hK21=>(aB (aE aA 1 rfl (aD (hK21 _ (aJ ?_))))))))))
      refine⟨_,rfl,?_⟩
      refine aP ?_
      exact mS hk (oU (by omega))
  ·
   simp only[bs] at hc1
   refine aW (hK2 _ (aC (fun K22 hK22=>(aB (aE aA 4 rfl (aV rfl rfl rfl (fun hg17=>?_) (fun hg17=>?_)))))))
   ·
    simp only[bs] at hg17
    refine aG rfl (gD rfl) (aZ rfl rfl rfl (aM hf rfl (aQ rfl rfl aHq rfl (yR x.2 hx)) (aE aA 2 rfl (aD (hK22 _ (aJ ?_))))))
    refine⟨_,rfl,?_⟩
    refine aP ?_
    exact aEq (by omega) h2 (by simp_all)
   ·
    simp only[bs] at hg17
    refine aE aA 3 rfl (aD (hK22 _ (aJ ?_)))
    refine⟨_,rfl,?_⟩
    refine aP ?_
    exact aEq (by omega) h2 (by simp_all)
end Go.Proofs.YthapfogcaklbbaaGreat
set_option linter.unusedVariables false
set_option linter.unusedSimpArgs false
namespace Go.Proofs.YthapfogcaklbbaaGreat
open Go Go.Abs
theorem yS (s:Sta) (h1:s.opn.length≤9223372036854775807) (h2:s.usr.length≤9223372036854775807) (h3:s.sub.length≤9223372036854775807) (h4:s.tmb.length≤9223372036854775807) (h5:∀ x∈s.usr,x.2.length≤9223372036854775807) (t1:∀ e∈s.opn,TS e.1.2) (t2:∀ x∈s.usr,TS x.1) (t3:∀ e∈s.sub,TS e.1.1∧TS e.1.2) (t4:∀ x∈s.tmb,TS x.1) :Den Tryz.prog 19 [.agg (aY s)]  (·=.s (.bool (mN s))):=by
 refine aU Tryz.func19 rfl (Nat.le_of_ble_eq_true rfl) (fun w0 A hf=>(aC (fun K1 hK1=>(aB (aM hf rfl (cP rfl rfl (lf rfl)) (aE aA 1 rfl (aD (hK1 _ (aC (fun K2 hK2=>(aC (fun K3 hK3=>(aB (aE aA 4 rfl (aV rfl rfl rfl (fun hg1=>?_) (fun hg1=>?_))))))))))))))))
 ·
  simp only[bs] at hg1
  refine aG rfl (bQ rfl wF cE rfl) ?_
  refine aE aA 4 rfl (aV rfl rfl rfl (fun hg2=>?_) (fun hg2=>?_))
  ·
   simp only[bs] at hg2
   refine aG rfl (bQ rfl qU cE rfl) ?_
   refine aE aA 4 rfl (aV rfl rfl rfl (fun hg3=>?_) (fun hg3=>?_))
   ·
    simp only[bs] at hg3
    refine aG rfl (bQ rfl qU cE rfl) ?_
    refine aE aA 4 rfl (aV rfl rfl rfl (fun hg4=>?_) (fun hg4=>?_))
    ·
     simp only[bs] at hg4
     refine aG rfl (bQ rfl wE aHz rfl) ?_
     refine aE aA 1 rfl (aZ rfl rfl rfl (aM hf rfl (aQ rfl rfl aI8 rfl (wX s.opn (by omega) t1)) (aE aA 3 rfl (aV rfl rfl rfl (fun hg5=>?_) (fun hg5=>?_)))))
     ·
      simp only[bs] at hg5
      refine aG rfl (bQ rfl wD aHy rfl) ?_
      refine aE aA 1 rfl (aZ rfl rfl rfl (aM hf rfl (aQ rfl rfl aI7 rfl (aA1 s.sub h3 t3)) (aE aA 2 rfl (aD (hK3 _ (cU rfl rfl (fun hc6=>?_) (fun hc6=>?_)))))))
      ·
       simp only[bs] at hc6
       refine aC (fun K4 hK4=>(aB (aE aA 1 rfl (aD (hK4 _ (aJ ?_))))))
       refine⟨_,rfl,?_⟩
       refine aP ?_
       refine eG fun h=>?_
       have n0:=h.n0
       have n1:=h.n1
       have n2:=h.h0
       have n3:=h.h1
       have n4:=h.opn
       have n5:=h.sub
       (simp_all; done)
      ·
       simp only[bs] at hc6
       refine aN (hK2 _ (aC (fun K5 hK5=>(aC (fun K6 hK6=>(aB (aE aA 1 rfl (aD (hK6 _ (aO (bR (ι:=Nat) (fun k1=>⟨178,[(1,.adr (aY s)),(3,.s (.int .i64 (k1:Nat)))],[]⟩) (fun k1=>k1≤s.opn.length∧∀ (j:Nat) (hj:j<s.opn.length),j<k1→s.opn[j].2.2≤s.now) (fun k1=>s.opn.length - k1) 0 ?_ ?_ ?_)))))))))))
       · exact⟨Nat.zero_le _,by omega⟩
       · exact cX rfl
       ·
        rintro k1 hC
        obtain ⟨a1,a2⟩:=hC
        refine aC (fun K7 hK7=>(aC (fun K8 hK8=>(aB (aE aA 5 rfl (aD (hK8 _ (cU rfl rfl (fun hc7=>?_) (fun hc7=>?_)))))))))
        ·
         simp only[bs] at hc7
         refine aN (hK7 _ (aC (fun K9 hK9=>(aO (aC (fun K10 hK10=>(eB hf bI (by kernel_rfl) rfl ?_)))))))
         have q1:k1<s.opn.length:=by omega
         refine aX aA 3 rfl ?_
         refine bL [(48,_),(49,_)] rfl rfl ⟨⟨rfl,rfl⟩,⟨rfl,rfl⟩,trivial⟩ rfl (bB rfl rfl pE jV (by first | exact ixm (by omega) | assumption | exact⟨by decide,rfl⟩)) ?_
         refine aX aA 5 rfl (eE [1,3,55] rfl rfl rfl (hK10 _ (cU rfl rfl (fun hc8=>?_) (fun hc8=>?_))))
         ·
          simp only[bs] at hc8
          refine aC (fun K11 hK11=>(aB (aE aA 1 rfl (aD (hK11 _ (aJ ?_))))))
          refine⟨_,rfl,?_⟩
          refine aP ?_
          refine eG fun h=>?_
          have:=h.late _ (List.getElem_mem q1)
          omega
         ·
          simp only[bs] at hc8
          refine aN (hK9 _ (aB (aE aA 1 rfl ?_)))
          refine aG rfl (bO rfl rfl (by omega) (by omega)) ?_
          refine aE aA 1 rfl (aD ?_)
          exact⟨k1+1,⟨by omega,kM a2 (by omega) (by omega)⟩,by omega,cX rfl⟩
        ·
         simp only[bs] at hc7
         refine aW (hK5 _ (aC (fun K12 hK12=>(aC (fun K13 hK13=>(aB (aE aA 1 rfl (aD (hK13 _ (aO (bR (ι:=Nat) (fun k2=>⟨178,[(1,.adr (aY s)),(4,.s (.int .i64 (k2:Nat)))],[]⟩) (fun k2=>k2≤s.usr.length∧RisUp cM (fun x=>wY s x=true) s.usr k2) (fun k2=>s.usr.length - k2) 0 ?_ ?_ ?_)))))))))))
         · exact⟨Nat.zero_le _,RisUp.zero⟩
         · exact cX rfl
         ·
          rintro k2 hC
          obtain ⟨b1,b2⟩:=hC
          refine aC (fun K14 hK14=>(aC (fun K15 hK15=>(aB (aE aA 5 rfl (aD (hK15 _ (cU rfl rfl (fun hc9=>?_) (fun hc9=>?_)))))))))
          ·
           simp only[bs] at hc9
           refine aN (hK14 _ (aC (fun K16 hK16=>(aO (aC (fun K17 hK17=>(aB ?_)))))))
           have q2:k2<s.usr.length:=by omega
           refine aE aA 3 rfl ?_
           refine aG rfl (bB rfl rfl uN mJ (by first | exact ixm (by omega) | assumption | exact⟨by decide,rfl⟩)) ?_
           refine aE aA 1 rfl (cC hf rfl aB4 rfl mJ rfl rfl rfl rfl (lf rfl) (aD (hK17 _ (aC (fun K18 hK18=>(eB hf bI (by kernel_rfl) rfl (aX aA 2 rfl (bT [(69,_)] rfl rfl ⟨⟨rfl,rfl⟩,trivial⟩ rfl (aQ rfl rfl nI rfl (Nm.refRight_den _ (t2 _ (List.getElem_mem _)))) (aX aA 2 rfl (gA 72 false rfl (fun hg10=>?_) (fun hg10=>?_)))))))))))
           ·
            simp only[bs] at hg10
            refine aX aA 6 rfl (bT [(74,_),(76,_),(78,_)] rfl rfl ⟨⟨rfl,rfl⟩,⟨rfl,rfl⟩,⟨rfl,rfl⟩,trivial⟩ rfl (aQ rfl rfl aI6 rfl (yQ s s.usr[k2] (h5 _ (List.getElem_mem q2)) h1)) (aX aA 3 rfl (gA 82 false rfl (fun hg11=>?_) (fun hg11=>?_))))
            ·
             simp only[bs] at hg11
             refine aX aA 3 rfl (gA 85 true rfl (fun hg12=>?_) (fun hg12=>?_))
             ·
              simp only[bs] at hg12
              refine aX aA 3 rfl ?_
              refine bL [(88,_)] rfl rfl ⟨⟨rfl,rfl⟩,trivial⟩ rfl (eH rfl rfl (by omega) (by omega)) ?_
              refine bL [(87,_),(89,_)] rfl rfl ⟨⟨rfl,rfl⟩,⟨rfl,rfl⟩,trivial⟩ rfl (bB rfl rfl uN mJ (iO (k:=k2 - 1) (by omega) (by omega))) (aX aA 4 rfl (bT [(92,_),(94,_)] rfl rfl ⟨⟨rfl,rfl⟩,⟨rfl,rfl⟩,trivial⟩ rfl (aQ rfl rfl pU rfl (Nm.refCmp_den _ _ (t2 _ (List.getElem_mem _)) (t2 _ (List.getElem_mem _)))) (aX aA 3 rfl (eE [1,4,98] rfl rfl rfl (hK18 _ (cU rfl rfl (fun hc13=>?_) (fun hc13=>?_)))))))
              ·
               simp only[bs] at hc13
               refine aC (fun K19 hK19=>(aB (aE aA 1 rfl (aD (hK19 _ (aJ ?_))))))
               refine⟨_,rfl,?_⟩
               refine aP ?_
               refine eG fun h=>?_
               have e1:=h.unm _ (List.getElem_mem q2)
               have e2:=h.uok _ (List.getElem_mem q2)
               (have e3:=aJr h.usr (k:=k2) (by omega) q2; simp only[cM] at e3; omega)
              ·
               simp only[bs] at hc13
               refine aN (hK16 _ (aB (aE aA 1 rfl ?_)))
               refine aG rfl (bO rfl rfl (by omega) (by omega)) ?_
               refine aE aA 1 rfl (aD ?_)
               exact⟨k2+1,⟨by omega,b2.next (by omega) (by first | assumption | (simp_all; done)) (by first | assumption | (simp_all; done)) (fun h0=>by first | omega | (show dL (s.usr[k2 - 1]).1 (s.usr[k2]).1<0; omega))⟩,by omega,cX rfl⟩
             ·
              simp only[bs] at hg12
              refine aX aA 13 rfl (eE [1,4,98] rfl rfl rfl (hK18 _ (bW rfl (aN (hK16 _ (aB (aE aA 1 rfl ?_)))))))
              refine aG rfl (bO rfl rfl (by omega) (by omega)) ?_
              refine aE aA 1 rfl (aD ?_)
              exact⟨k2+1,⟨by omega,b2.next (by omega) (by first | assumption | (simp_all; done)) (by first | assumption | (simp_all; done)) (fun h0=>by first | omega | (show dL (s.usr[k2 - 1]).1 (s.usr[k2]).1<0; omega))⟩,by omega,cX rfl⟩
            ·
             simp only[bs] at hg11
             refine aX aA 3 rfl (bM rfl rfl ?_)
             refine bM rfl rfl ?_
             refine bM rfl rfl ?_
             refine bM rfl rfl ?_
             refine bM rfl rfl ?_
             refine bM rfl rfl ?_
             refine bM rfl rfl ?_
             refine bM rfl rfl ?_
             refine bM rfl rfl ?_
             refine bM rfl rfl ?_
             refine bM rfl rfl ?_
             refine aX aA 2 rfl (eE [1,4,98] rfl rfl rfl (hK18 _ (bU rfl (aC (fun K20 hK20=>(aB (aE aA 1 rfl (aD (hK20 _ (aJ ?_))))))))))
             refine⟨_,rfl,?_⟩
             refine aP ?_
             refine eG fun h=>?_
             have e1:=h.unm _ (List.getElem_mem q2)
             have e2:=h.uok _ (List.getElem_mem q2)
             (simp_all; done)
           ·
            simp only[bs] at hg10
            refine aX aA 13 rfl (bM rfl rfl ?_)
            refine bM rfl rfl ?_
            refine bM rfl rfl ?_
            refine bM rfl rfl ?_
            refine bM rfl rfl ?_
            refine bM rfl rfl ?_
            refine bM rfl rfl ?_
            refine bM rfl rfl ?_
            refine bM rfl rfl ?_
            refine bM rfl rfl ?_
            refine bM rfl rfl ?_
            refine aX aA 2 rfl (eE [1,4,98] rfl rfl rfl (hK18 _ (bU rfl (aC (fun K21 hK21=>(aB (aE aA 1 rfl (aD (hK21 _ (aJ ?_))))))))))
            refine⟨_,rfl,?_⟩
            refine aP ?_
            refine eG fun h=>?_
            have e1:=h.unm _ (List.getElem_mem q2)
            have e2:=h.uok _ (List.getElem_mem q2)
            (simp_all; done)
          ·
           simp only[bs] at hc9
           refine aW (hK12 _ (aC (fun K22 hK22=>(aC (fun K23 hK23=>(aB (aE aA 1 rfl (aD (hK23 _ (aO (bR (ι:=Nat) (fun k3=>⟨178,[(1,.adr (aY s)),(6,.s (.int .i64 (k3:Nat)))],[]⟩) (fun k3=>k3≤s.sub.length∧∀ (j:Nat) (hj:j<s.sub.length),j<k3→zF s s.sub[j]=true) (fun k3=>s.sub.length - k3) 0 ?_ ?_ ?_)))))))))))
           · exact⟨Nat.zero_le _,by omega⟩
           · exact cX rfl
           ·
            rintro k3 hC
            obtain ⟨c1,c2⟩:=hC
            refine aC (fun K24 hK24=>(aC (fun K25 hK25=>(aB (aE aA 5 rfl (aD (hK25 _ (cU rfl rfl (fun hc17=>?_) (fun hc17=>?_)))))))))
            ·
             simp only[bs] at hc17
             refine aN (hK24 _ (aC (fun K26 hK26=>(aO (aC (fun K27 hK27=>(aB ?_)))))))
             have q3:k3<s.sub.length:=by omega
             refine aE aA 3 rfl ?_
             refine aG rfl (bB rfl rfl nM gZ (by first | exact ixm (by omega) | assumption | exact⟨by decide,rfl⟩)) ?_
             refine aE aA 1 rfl (cC hf rfl vL rfl gZ rfl rfl rfl rfl (lf rfl) (aD (hK27 _ (aC (fun K28 hK28=>(aB (aE aA 4 rfl (aV rfl rfl rfl (fun hg18=>?_) (fun hg18=>?_)))))))))
             ·
              simp only[bs] at hg18
              refine aG rfl (bQ rfl aDg cE rfl) ?_
              refine aE aA 6 rfl (aV rfl rfl rfl (fun hg19=>?_) (fun hg19=>?_))
              ·
               simp only[bs] at hg19
               refine aG rfl (bQ rfl uH cE rfl) ?_
               refine aE aA 5 rfl (aV rfl rfl rfl (fun hg20=>?_) (fun hg20=>?_))
               ·
                simp only[bs] at hg20
                refine aG rfl (bQ rfl uH cE rfl) ?_
                refine aE aA 4 rfl (aD (hK28 _ (cU rfl rfl (fun hc21=>?_) (fun hc21=>?_))))
                ·
                 simp only[bs] at hc21
                 refine aC (fun K29 hK29=>(aB (aE aA 1 rfl (aD (hK29 _ (aJ ?_))))))
                 refine⟨_,rfl,?_⟩
                 refine aP ?_
                 refine eG fun h=>?_
                 have e1:=eQ.1 (h.sok _ (List.getElem_mem q3))
                 omega
                ·
                 simp only[bs] at hc21
                 refine aN (hK26 _ (aB (aE aA 1 rfl ?_)))
                 refine aG rfl (bO rfl rfl (by omega) (by omega)) ?_
                 refine aE aA 1 rfl (aD ?_)
                 exact⟨k3+1,⟨by omega,kM c2 (by omega) (eQ.2 ⟨by omega,by omega,by omega⟩)⟩,by omega,cX rfl⟩
               ·
                simp only[bs] at hg20
                refine aE aA 4 rfl (aD (hK28 _ (bW rfl (aN (hK26 _ (aB (aE aA 1 rfl ?_)))))))
                refine aG rfl (bO rfl rfl (by omega) (by omega)) ?_
                refine aE aA 1 rfl (aD ?_)
                exact⟨k3+1,⟨by omega,kM c2 (by omega) (eQ.2 ⟨by omega,by omega,by omega⟩)⟩,by omega,cX rfl⟩
              ·
               simp only[bs] at hg19
               refine aE aA 5 rfl (gY rfl rfl rfl ?_)
               refine gY rfl rfl rfl ?_
               refine gY rfl rfl rfl ?_
               refine aE aA 2 rfl (aD (hK28 _ (bU rfl (aC (fun K30 hK30=>(aB (aE aA 1 rfl (aD (hK30 _ (aJ ?_))))))))))
               refine⟨_,rfl,?_⟩
               refine aP ?_
               refine eG fun h=>?_
               have e1:=eQ.1 (h.sok _ (List.getElem_mem q3))
               omega
             ·
              simp only[bs] at hg18
              refine aE aA 12 rfl (gY rfl rfl rfl ?_)
              refine gY rfl rfl rfl ?_
              refine gY rfl rfl rfl ?_
              refine aE aA 2 rfl (aD (hK28 _ (bU rfl (aC (fun K31 hK31=>(aB (aE aA 1 rfl (aD (hK31 _ (aJ ?_))))))))))
              refine⟨_,rfl,?_⟩
              refine aP ?_
              refine eG fun h=>?_
              have e1:=eQ.1 (h.sok _ (List.getElem_mem q3))
              omega
            ·
             simp only[bs] at hc17
             refine aW (hK22 _ (aC (fun K32 hK32=>(aC (fun K33 hK33=>(aB (aE aA 1 rfl (aD (hK33 _ (aO (bR (ι:=Nat) (fun k4=>⟨178,[(1,.adr (aY s)),(8,.s (.int .i64 (k4:Nat)))],[]⟩) (fun k4=>k4≤s.tmb.length∧RisUp dN (fun x=>aMf s x=true) s.tmb k4) (fun k4=>s.tmb.length - k4) 0 ?_ ?_ ?_)))))))))))
             · exact⟨Nat.zero_le _,RisUp.zero⟩
             · exact cX rfl
             ·
              rintro k4 hC
              obtain ⟨d1,d2⟩:=hC
              refine aC (fun K34 hK34=>(aC (fun K35 hK35=>(aB (aE aA 5 rfl (aD (hK35 _ (cU rfl rfl (fun hc25=>?_) (fun hc25=>?_)))))))))
              ·
               simp only[bs] at hc25
               refine aN (hK34 _ (aC (fun K36 hK36=>(aO (aC (fun K37 hK37=>(aB ?_)))))))
               have q4:k4<s.tmb.length:=by omega
               refine aE aA 3 rfl ?_
               refine aG rfl (bB rfl rfl aAr pF (by first | exact ixm (by omega) | assumption | exact⟨by decide,rfl⟩)) ?_
               refine aE aA 1 rfl (cC hf rfl aB3 rfl pF rfl rfl rfl rfl (lf rfl) (aD (hK37 _ (aC (fun K38 hK38=>(eB hf bI (by kernel_rfl) rfl (aX aA 2 rfl (bT [(146,_)] rfl rfl ⟨⟨rfl,rfl⟩,trivial⟩ rfl (aQ rfl rfl nI rfl (Nm.refRight_den _ (t4 _ (List.getElem_mem _)))) (aX aA 2 rfl (gA 149 false rfl (fun hg26=>?_) (fun hg26=>?_)))))))))))
               ·
                simp only[bs] at hg26
                refine aX aA 5 rfl (gA 154 false rfl (fun hg27=>?_) (fun hg27=>?_))
                ·
                 simp only[bs] at hg27
                 refine aX aA 7 rfl (gA 161 false rfl (fun hg28=>?_) (fun hg28=>?_))
                 ·
                  simp only[bs] at hg28
                  refine aX aA 3 rfl (gA 164 true rfl (fun hg29=>?_) (fun hg29=>?_))
                  ·
                   simp only[bs] at hg29
                   refine aX aA 3 rfl ?_
                   refine bL [(167,_)] rfl rfl ⟨⟨rfl,rfl⟩,trivial⟩ rfl (eH rfl rfl (by omega) (by omega)) ?_
                   refine bL [(166,_),(168,_)] rfl rfl ⟨⟨rfl,rfl⟩,⟨rfl,rfl⟩,trivial⟩ rfl (bB rfl rfl aAr pF (iO (k:=k4 - 1) (by omega) (by omega))) (aX aA 4 rfl (bT [(171,_),(173,_)] rfl rfl ⟨⟨rfl,rfl⟩,⟨rfl,rfl⟩,trivial⟩ rfl (aQ rfl rfl pU rfl (Nm.refCmp_den _ _ (t4 _ (List.getElem_mem _)) (t4 _ (List.getElem_mem _)))) (aX aA 3 rfl (eE [1,8,177] rfl rfl rfl (hK38 _ (cU rfl rfl (fun hc30=>?_) (fun hc30=>?_)))))))
                   ·
                    simp only[bs] at hc30
                    refine aC (fun K39 hK39=>(aB (aE aA 1 rfl (aD (hK39 _ (aJ ?_))))))
                    refine⟨_,rfl,?_⟩
                    refine aP ?_
                    refine eG fun h=>?_
                    have e1:=h.tnm _ (List.getElem_mem q4)
                    have e2:=iD.1 (h.tok _ (List.getElem_mem q4))
                    (have e3:=aJr h.tmb (k:=k4) (by omega) q4; simp only[dN] at e3; omega)
                   ·
                    simp only[bs] at hc30
                    refine aN (hK36 _ (aB (aE aA 1 rfl ?_)))
                    refine aG rfl (bO rfl rfl (by omega) (by omega)) ?_
                    refine aE aA 1 rfl (aD ?_)
                    exact⟨k4+1,⟨by omega,d2.next (by omega) (by first | assumption | (simp_all; done)) (iD.2 ⟨by omega,by omega⟩) (fun h0=>by first | omega | (show dL (s.tmb[k4 - 1]).1 (s.tmb[k4]).1<0; omega))⟩,by omega,cX rfl⟩
                  ·
                   simp only[bs] at hg29
                   refine aX aA 13 rfl (eE [1,8,177] rfl rfl rfl (hK38 _ (bW rfl (aN (hK36 _ (aB (aE aA 1 rfl ?_)))))))
                   refine aG rfl (bO rfl rfl (by omega) (by omega)) ?_
                   refine aE aA 1 rfl (aD ?_)
                   exact⟨k4+1,⟨by omega,d2.next (by omega) (by first | assumption | (simp_all; done)) (iD.2 ⟨by omega,by omega⟩) (fun h0=>by first | omega | (show dL (s.tmb[k4 - 1]).1 (s.tmb[k4]).1<0; omega))⟩,by omega,cX rfl⟩
                 ·
                  simp only[bs] at hg28
                  refine aX aA 3 rfl (bM rfl rfl ?_)
                  refine bM rfl rfl ?_
                  refine bM rfl rfl ?_
                  refine bM rfl rfl ?_
                  refine bM rfl rfl ?_
                  refine bM rfl rfl ?_
                  refine bM rfl rfl ?_
                  refine bM rfl rfl ?_
                  refine bM rfl rfl ?_
                  refine bM rfl rfl ?_
                  refine bM rfl rfl ?_
                  refine aX aA 2 rfl (eE [1,8,177] rfl rfl rfl (hK38 _ (bU rfl (aC (fun K40 hK40=>(aB (aE aA 1 rfl (aD (hK40 _ (aJ ?_))))))))))
                  refine⟨_,rfl,?_⟩
                  refine aP ?_
                  refine eG fun h=>?_
                  have e1:=h.tnm _ (List.getElem_mem q4)
                  have e2:=iD.1 (h.tok _ (List.getElem_mem q4))
                  omega
                ·
                 simp only[bs] at hg27
                 refine aX aA 10 rfl (bM rfl rfl ?_)
                 refine bM rfl rfl ?_
                 refine bM rfl rfl ?_
                 refine bM rfl rfl ?_
                 refine bM rfl rfl ?_
                 refine bM rfl rfl ?_
                 refine bM rfl rfl ?_
                 refine bM rfl rfl ?_
                 refine bM rfl rfl ?_
                 refine bM rfl rfl ?_
                 refine bM rfl rfl ?_
                 refine aX aA 2 rfl (eE [1,8,177] rfl rfl rfl (hK38 _ (bU rfl (aC (fun K41 hK41=>(aB (aE aA 1 rfl (aD (hK41 _ (aJ ?_))))))))))
                 refine⟨_,rfl,?_⟩
                 refine aP ?_
                 refine eG fun h=>?_
                 have e1:=h.tnm _ (List.getElem_mem q4)
                 have e2:=iD.1 (h.tok _ (List.getElem_mem q4))
                 omega
               ·
                simp only[bs] at hg26
                refine aX aA 15 rfl (bM rfl rfl ?_)
                refine bM rfl rfl ?_
                refine bM rfl rfl ?_
                refine bM rfl rfl ?_
                refine bM rfl rfl ?_
                refine bM rfl rfl ?_
                refine bM rfl rfl ?_
                refine bM rfl rfl ?_
                refine bM rfl rfl ?_
                refine bM rfl rfl ?_
                refine bM rfl rfl ?_
                refine aX aA 2 rfl (eE [1,8,177] rfl rfl rfl (hK38 _ (bU rfl (aC (fun K42 hK42=>(aB (aE aA 1 rfl (aD (hK42 _ (aJ ?_))))))))))
                refine⟨_,rfl,?_⟩
                refine aP ?_
                refine eG fun h=>?_
                have e1:=h.tnm _ (List.getElem_mem q4)
                have e2:=iD.1 (h.tok _ (List.getElem_mem q4))
                (simp_all; done)
              ·
               simp only[bs] at hc25
               refine aW (hK32 _ (aC (fun K43 hK43=>(aB (aE aA 1 rfl (aD (hK43 _ (aJ ?_))))))))
               refine⟨_,rfl,?_⟩
               refine aP ?_
               exact aKj ⟨by omega,by omega,by omega,by omega,by first | assumption | (simp_all; done),aF7 (by omega) a2,b2.n (by omega),b2.r (by omega),b2.q (by omega),by first | assumption | (simp_all; done),aF7 (by omega) c2,d2.n (by omega),d2.r (by omega),d2.q (by omega)⟩
     ·
      simp only[bs] at hg5
      refine aE aA 4 rfl (aD (hK3 _ (bU rfl (aC (fun K44 hK44=>(aB (aE aA 1 rfl (aD (hK44 _ (aJ ?_))))))))))
      refine⟨_,rfl,?_⟩
      refine aP ?_
      refine eG fun h=>?_
      have n0:=h.n0
      have n1:=h.n1
      have n2:=h.h0
      have n3:=h.h1
      have n4:=h.opn
      have n5:=h.sub
      (simp_all; done)
    ·
     simp only[bs] at hg4
     refine aE aA 10 rfl (aD (hK3 _ (bU rfl (aC (fun K45 hK45=>(aB (aE aA 1 rfl (aD (hK45 _ (aJ ?_))))))))))
     refine⟨_,rfl,?_⟩
     refine aP ?_
     refine eG fun h=>?_
     have n0:=h.n0
     have n1:=h.n1
     have n2:=h.h0
     have n3:=h.h1
     have n4:=h.opn
     have n5:=h.sub
     omega
   ·
    simp only[bs] at hg3
    refine aE aA 15 rfl (aD (hK3 _ (bU rfl (aC (fun K46 hK46=>(aB (aE aA 1 rfl (aD (hK46 _ (aJ ?_))))))))))
    refine⟨_,rfl,?_⟩
    refine aP ?_
    refine eG fun h=>?_
    have n0:=h.n0
    have n1:=h.n1
    have n2:=h.h0
    have n3:=h.h1
    have n4:=h.opn
    have n5:=h.sub
    omega
  ·
   simp only[bs] at hg2
   refine aE aA 20 rfl (aD (hK3 _ (bU rfl (aC (fun K47 hK47=>(aB (aE aA 1 rfl (aD (hK47 _ (aJ ?_))))))))))
   refine⟨_,rfl,?_⟩
   refine aP ?_
   refine eG fun h=>?_
   have n0:=h.n0
   have n1:=h.n1
   have n2:=h.h0
   have n3:=h.h1
   have n4:=h.opn
   have n5:=h.sub
   omega
 ·
  simp only[bs] at hg1
  refine aE aA 25 rfl (aD (hK3 _ (bU rfl (aC (fun K48 hK48=>(aB (aE aA 1 rfl (aD (hK48 _ (aJ ?_))))))))))
  refine⟨_,rfl,?_⟩
  refine aP ?_
  refine eG fun h=>?_
  have n0:=h.n0
  have n1:=h.n1
  have n2:=h.h0
  have n3:=h.h1
  have n4:=h.opn
  have n5:=h.sub
  omega
end Go.Proofs.YthapfogcaklbbaaGreat
set_option linter.unusedVariables false
set_option linter.unusedSimpArgs false
namespace Go.Proofs.YthapfogcaklbbaaGreat
open Go Go.Abs
end Go.Proofs.YthapfogcaklbbaaGreat
set_option linter.unusedVariables false
set_option linter.unusedSimpArgs false
namespace Go.Proofs.YthapfogcaklbbaaGreat
open Go Go.Abs
theorem aA2 (s:Sta) (hz:SzS 140737488355328 s) (ts:TsS s):Den Tryz.prog 19 [.agg (aY s)] (·=.s (.bool (mN s))) :=
  yS s (by have:=hz.o; omega) (by have:=hz.u; omega) (by have:=hz.b; omega) (by have:=hz.t; omega) (fun x hx=>by have:=hz.y x hx; omega) ts.o ts.u ts.b ts.t
theorem aN3 (a b:List bD) (h:a=b) (ha:a.length≤9223372036854775807):Den Tryz.prog 35 [.sl 4 (a.map stC),.sl 4 (b.map stC)] (·=.s (.bool true)):=by
  subst h; exact aC3 (aN6 a a ha ha) (by simp)
theorem aYv (s:Sta) (hz:SzS 140737488353280 s):Den Tryz.prog 23 [.agg (aY s)] (·=.agg (aY s)):=aKu s (hz.mono (by omega))
theorem aYu (s:Sta) (u:ByteArray) (t:Int) (hz:SzS 140737488353280 s) (h:RightP s):Den Tryz.prog 37 [.agg (aY s),.s (.string u),.s (.int .i64 t)] (·=.sl 4 ((aDz s u t).map stC)):=aD0 s u t hz (Nat.le_trans (aNu h) (by decide)) h.usr
theorem aOw (s:Sta) (u:ByteArray) (t:Int) (hz:SzS 140737488353280 s) (h:RightP s):Den Tryz.prog 40 [.agg (aY s),.s (.string u),.s (.int .i64 t)] (·=.sl 4 ((aDz s u t).map stC)):=aNv s u t hz (Nat.le_trans (aNu h) (by decide)) h.usr
theorem aOg (s:Sta) (u:ByteArray) (t:Int) (hz:SzS 140737488353280 s) (h:RightP s):Den Tryz.prog 36 [.sl 4 ((aDz s u t).map stC)] (·=.sl 4 ((aDz s u t).map stC)):=aOy _ (by have:=aN8 (u:=u) (t:=t) hz h.usr (aNu h); omega)
theorem aOf (s:Sta) (u:ByteArray) (t:Int) (hz:SzS 140737488353280 s) (h:RightP s):Den Tryz.prog 35 [.sl 4 ((aDz s u t).map stC),.sl 4 ((aDz s u t).map stC)] (·=.s (.bool true)):=aN3 _ _ rfl (by have:=aN8 (u:=u) (t:=t) hz h.usr (aNu h); omega)
end Go.Proofs.YthapfogcaklbbaaGreat
set_option linter.unusedVariables false
set_option linter.unusedSimpArgs false
namespace Go.Proofs.YthapfogcaklbbaaGreat
open Go Go.Abs
theorem aEw  :Den Tryz.prog 25 [.sl 6 (([]:List Ev).map evC)]  (·=.tup [.s (.int .i64 0),.s (.bool false)]):=by
 refine aU Tryz.func25 rfl (Nat.le_of_ble_eq_true rfl) (fun w0 A hf=>(aC (fun K1 hK1=>(aB (aE aA 2 rfl (aD (hK1 _ (aC (fun K2 hK2=>(aC (fun K3 hK3=>(aB (aE aA 3 rfl (aD (hK3 _ (bU rfl ?_))))))))))))))))
 refine aC (fun K4 hK4=>(aB (aE aA 2 rfl (aD (hK4 _ (aJ ?_))))))
 refine⟨_,rfl,?_⟩
 rfl
theorem aEu (x:Ev) (r:List Ev) (hl:r.length≤1000) :Den Tryz.prog 25 [.sl 6 ((x::r).map evC)]  (·=.tup [.s (.int .i64 (jC r x).at'),.s (.bool true)]):=by
 have hlx:((x::r).map evC).length=r.length+1:=by simp
 refine aU Tryz.func25 rfl (Nat.le_of_ble_eq_true rfl) (fun w0 A hf=>(aC (fun K1 hK1=>(aB (aE aA 2 rfl (aD (hK1 _ (aC (fun K2 hK2=>(aC (fun K3 hK3=>(aB (aE aA 3 rfl (aD (hK3 _ (aK rfl (fun hc1=>?_) (fun hc1=>?_)))))))))))))))))
 ·
  simp only[bs] at hc1
  omega
 ·
  simp only[bs] at hc1
  refine aN (hK2 _ (aC (fun K4 hK4=>(aB (aE aA 1 rfl (aM hf rfl (aQ rfl rfl aI4 rfl (aK5 x r hl)) (aE aA 3 rfl (aD (hK4 _ (aJ ?_))))))))))
  refine⟨_,rfl,?_⟩
  rfl
theorem sQ (l:List Ev) (hl:l.length≤1000):Den Tryz.prog 25 [.sl 6 (l.map evC)] (·=.tup [.s (.int .i64 (aBs l)),.s (.bool (!l.isEmpty))]):=by
  match l,hl with
  | [],_=>exact aEw
  | x::r,hl=>exact aEu x r (by simp only[List.length_cons] at hl; omega)
theorem lJ  :Den Tryz.prog 20 []  (·=.s (.bool true)):=by
 refine aU Tryz.func20 rfl (Nat.le_of_ble_eq_true rfl) (fun w0 A hf=>(aC (fun K1 hK1=>(aB (aE aA 1 rfl (aD (hK1 _ (aC (fun K2 hK2=>(aB (aG rfl (cS rfl jF rR (l3 rfl) rfl) (aG rfl (cS rfl jF rR (l3 rfl) rfl) (aG rfl (cS rfl jF rR (l3 rfl) rfl) ?_)))))))))))))
 skip
 refine aM hf rfl (bE jY rfl rfl rfl rfl (l2 rfl)) (aE aA 1 rfl (aD (hK2 _ (aC (fun K3 hK3=>(aB (aG rfl (cS rfl bC jU (l3 rfl) rfl) (cD (rN oI) (aE aA 1 rfl (aM hf rfl (aQ rfl rfl tA rfl ((show Den Tryz.prog _ _ (·=.tup [.agg (aY afS),.sl 1 (oY [0,100,0])]) from aC3 (zR oE [aBa,aA9,aAf] (yB _) sH (by decide) (by decide)) (by rw[af_1,af_2])))) ?_))))))))))
 refine aE aA 3 rfl (cC hf rfl bC rfl cF rfl rfl rfl rfl (lf rfl) (aE aA 1 rfl (aD (hK3 _ (aC (fun K4 hK4=>(aB (aG rfl (cS rfl bC jU (l3 rfl) rfl) (cD (rN oI) (aE aA 1 rfl (aM hf rfl (aQ rfl rfl aAo rfl ((show Den Tryz.prog _ _ (·=.sl 6 ([aBa,aAf].map evC)) from aC3 (aBd oE [aBa,aA9,aAf] (yB _) sH (by decide) (by decide)) (by rw[af_3])))) ?_)))))))))))
 refine aE aA 1 rfl (aD (hK4 _ (aC (fun K5 hK5=>(aB (aE aA 1 rfl (aM hf rfl (aQ rfl rfl sZ rfl ((show Den Tryz.prog _ _ (·=.tup [.s (.int .i64 5),.s (.bool true)]) from sQ [aBa,aA9,aAf] (by decide)))) (aE aA 5 rfl (aD (hK5 _ (aC (fun K6 hK6=>(aB (aM hf rfl (aQ rfl rfl sZ rfl (aMy (sQ [] (by decide)))) ?_))))))))))))))
 refine aE aA 5 rfl (aD (hK6 _ (aC (fun K7 hK7=>(eB hf bI (by kernel_rfl) rfl (aX aA 5 rfl ?_))))))
 refine bL [(35,_)] rfl rfl ⟨⟨rfl,rfl⟩,trivial⟩ rfl (bB rfl rfl nK nO (by first | assumption | (refine⟨by omega,?_⟩; first | assumption | exact fL (by omega) | exact fL (by simp only[List.length_cons] at *; omega) | exact mA (by omega) | exact oG (by omega) | exact lZ (by omega)) | exact⟨by decide,rfl⟩)) ?_
 refine aX aA 5 rfl ?_
 refine bL [(41,_)] rfl rfl ⟨⟨rfl,rfl⟩,trivial⟩ rfl (bB rfl rfl nK nO (by first | assumption | (refine⟨by omega,?_⟩; first | assumption | exact fL (by omega) | exact fL (by simp only[List.length_cons] at *; omega) | exact mA (by omega) | exact oG (by omega) | exact lZ (by omega)) | exact⟨by decide,rfl⟩)) ?_
 refine aX aA 5 rfl ?_
 refine bL [(47,_)] rfl rfl ⟨⟨rfl,rfl⟩,trivial⟩ rfl (bB rfl rfl nK nO (by first | assumption | (refine⟨by omega,?_⟩; first | assumption | exact fL (by omega) | exact fL (by simp only[List.length_cons] at *; omega) | exact mA (by omega) | exact oG (by omega) | exact lZ (by omega)) | exact⟨by decide,rfl⟩)) ?_
 refine aX aA 5 rfl (bT [(53,_)] rfl rfl ⟨⟨rfl,rfl⟩,trivial⟩ rfl (aQ rfl rfl aJc rfl ((show Den Tryz.prog _ _ (·=.sl 4 (List.map stC [((3,5),(1,1))])) from aC3 (aD0 afS aIq 9 (⟨by decide,by decide,by decide,by decide,by decide⟩) (by decide) (RightP.usr aLo)) (by rw[af_5])))) ?_)
 refine aX aA 10 rfl ?_
 refine bL [(64,_)] rfl rfl ⟨⟨rfl,rfl⟩,trivial⟩ rfl (bB rfl rfl eZ bV (by first | assumption | (refine⟨by omega,?_⟩; first | assumption | exact fL (by omega) | exact fL (by simp only[List.length_cons] at *; omega) | exact mA (by omega) | exact oG (by omega) | exact lZ (by omega)) | exact⟨by decide,rfl⟩)) ?_
 refine aX aA 2 rfl ?_
 refine bL [(67,_)] rfl rfl ⟨⟨rfl,rfl⟩,trivial⟩ rfl (bB rfl rfl eZ bV (by first | assumption | (refine⟨by omega,?_⟩; first | assumption | exact fL (by omega) | exact fL (by simp only[List.length_cons] at *; omega) | exact mA (by omega) | exact oG (by omega) | exact lZ (by omega)) | exact⟨by decide,rfl⟩)) ?_
 refine aX aA 1 rfl (bL [(66,_),(69,_)] rfl rfl ⟨⟨rfl,rfl⟩,⟨rfl,rfl⟩,trivial⟩ rfl (gQ rfl rfl fT (aYk aAf)) ?_)
 skip
 refine aX aA 3 rfl (bT [(73,_)] rfl rfl ⟨⟨rfl,rfl⟩,trivial⟩ rfl (aQ rfl rfl aJd rfl ((show Den Tryz.prog _ _ (·=.sl 6 ([aA9].map evC)) from aC3 (aAw [aBa,aA9,aAf] aIq (by decide)) (by rw[af_4])))) ?_)
 refine aX aA 15 rfl (eE [0] rfl rfl rfl (hK7 _ (aJ ?_)))
 refine⟨_,rfl,?_⟩
 rfl
end Go.Proofs.YthapfogcaklbbaaGreat
set_option linter.unusedVariables false
set_option linter.unusedSimpArgs false
namespace Go.Abs
open Go
end Go.Abs
set_option linter.unusedVariables false
set_option linter.unusedSimpArgs false
namespace Go.Abs
open Go
def aPj (u:ByteArray) (e:Ev):Bool:=(decide (e.kind=1)||decide (e.kind=2))&&decide (e.user=u)
def aPl (n:Int) (e:Ev):Bool:=(decide (e.kind=2)||decide (e.kind=3))&&decide (e.n=n)
def erB (u:ByteArray) (e:Ev):Bool:=decide (e.kind=7)&&decide (e.user=u)
def aPp:List Ev→Int→Option Int
  | [],_=>none
  | x::r,n=>if aPl n x=true then some x.at' else aPp r n
def aQt (u:ByteArray) (t:Int):List Ev→List bD
  | []=>[]
  | e::r=>(if aPj u e=true then [((e.at',(aPp r e.n).getD t),(e.n,e.st))] else [])++aQt u t r
def aPg (u:ByteArray):List Ev→List Ev
  | []=>[]
  | e::r=>(if aPj u e=true∧aPp r e.n=none then [e] else [])++aPg u r
def aQj (u:ByteArray):List Ev→List bD
  | []=>[]
  | e::r=>(if aPj u e=true then (match aPp r e.n with | some t=>[((e.at',t),(e.n,e.st))] | none=>[]) else [])++aQj u r
def aPk (u:ByteArray):List Ev→List Ev
  | []=>[]
  | e::r=>if r.any (erB u)=true then aPk u r else if erB u e=true then r else e::r
def evT (e:Ev):Int×(Int×Int):=(e.n,(e.st,e.at'))
def seT (x:Se):Int×(Int×Int):=(x.1.1,(x.2.1,x.2.2))
def stT (t:Int) (y:Int×(Int×Int)):bD:=((y.2.2,t),(y.1,y.2.1))
def aPq (x:bD):Bool:=!decide (x.1.2≤x.1.1)
theorem aRj (u:ByteArray) (t:Int):∀ r:List Ev,(aQt u t r).Perm (aQj u r++((aPg u r).map evT).map (stT t))
  | []=>.nil
  | e::r=>by
    have ih:=aRj u t r
    rw[aQt,aQj,aPg]
    by_cases hb:aPj u e=true
    · rw[if_pos hb,if_pos hb]
      cases he:aPp r e.n with
      | none =>
        rw[if_pos ⟨hb,rfl⟩]
        simp only[Option.getD_none,List.nil_append,List.map_append,List.map_cons,List.map_nil,List.singleton_append]
        exact((ih.cons _).trans List.perm_middle.symm)
      | some z =>
        rw[if_neg (by rintro ⟨_,h⟩; cases h)]
        simp only[Option.getD_some,List.nil_append,List.singleton_append,List.cons_append]
        exact ih.cons _
    · rw[if_neg hb,if_neg hb,if_neg (fun h=>hb h.1)]
      exact ih
theorem aRr (x:Ev) (n:Int):∀ r:List Ev,aPp (r++[x]) n=(match aPp r n with | some t=>some t | none=>if aPl n x=true then some x.at' else none)
  | []=>by simp only[List.nil_append,aPp]
  | y::r=>by
    show (if aPl n y=true then some y.at' else aPp (r++[x]) n)=_
    rw[aPp]
    by_cases h:aPl n y=true
    · rw[if_pos h,if_pos h]
    · rw[if_neg h,if_neg h]; exact aRr x n r
theorem aQd (u:ByteArray) (x:Ev):∀ r:List Ev,aPg u (r++[x])=(aPg u r).filter (fun e=>!aPl e.n x)++(if aPj u x=true then [x] else [])
  | []=>by
    show (if aPj u x=true∧aPp [] x.n=none then [x] else [])++[]=_
    by_cases h:aPj u x=true
    · rw[if_pos ⟨h,rfl⟩,if_pos h]; rfl
    · rw[if_neg (fun k=>h k.1),if_neg h]; rfl
  | y::r=>by
    show (if aPj u y=true∧aPp (r++[x]) y.n=none then [y] else [])++aPg u (r++[x])=_
    rw[aQd u x r,aPg,List.filter_append,List.append_assoc,aRr]
    congr 1
    by_cases h:aPj u y=true
    · cases he:aPp r y.n with
      | some t=>simp
      | none =>
        by_cases hc:aPl y.n x=true
        · simp [hc,h]
        · simp [hc,h]
    · simp [h]
theorem aQf (u:ByteArray) (x:Ev):∀ r:List Ev,(aQj u (r++[x])).Perm (aQj u r++(((aPg u r).filter (fun e=>aPl e.n x)).map evT).map (stT x.at'))
  | []=>by
    show ((if aPj u x=true then (match aPp [] x.n with | some t=>[((x.at',t),(x.n,x.st))] | none=>[]) else [])++[]).Perm _
    split <;> exact .nil
  | y::r=>by
    have ih:=aQf u x r
    show ((if aPj u y=true then (match aPp (r++[x]) y.n with | some t=>[((y.at',t),(y.n,y.st))] | none=>[]) else [])++aQj u (r++[x])).Perm _
    rw[aQj,aPg,aRr]
    by_cases h:aPj u y=true
    · rw[if_pos h,if_pos h]
      cases he:aPp r y.n with
      | some t =>
        have hy:¬ (aPj u y=true∧some t=(none:Option Int)):=by rintro ⟨_,h⟩; cases h
        rw[if_neg hy]
        exact ih.cons _
      | none =>
        have hy:aPj u y=true∧(none:Option Int)=none:=⟨h,rfl⟩
        rw[if_pos hy]
        by_cases hc:aPl y.n x=true
        · simp only[hc,if_true,List.singleton_append,List.nil_append,List.filter_cons,List.map_cons]
          exact(ih.cons _).trans List.perm_middle.symm
        · simp only[hc,Bool.false_eq_true,if_false,List.singleton_append,List.nil_append,List.filter_cons]
          exact ih
    · rw[if_neg h,if_neg h,if_neg (fun k=>h k.1)]; exact ih
theorem aSp (u:ByteArray) (x:Ev):∀ r:List Ev,aPk u (r++[x])=if erB u x=true then [] else aPk u r++[x]
  | []=>by
    show (if ([]:List Ev).any (erB u)=true then aPk u [] else if erB u x=true then [] else [x])=_
    simp [aPk]
  | y::r=>by
    show (if (r++[x]).any (erB u)=true then aPk u (r++[x]) else if erB u y=true then r++[x] else y::(r++[x]))=_
    rw[aSp u x r,aPk,List.any_append]
    by_cases hx:erB u x=true
    · simp [hx]
    · by_cases hr:r.any (erB u)=true
      · simp [hx,hr]
      · by_cases hy:erB u y=true
        · simp [hx,hr,hy]
        · simp [hx,hr,hy]
structure MoI (u:ByteArray) (r:List Ev) (s:Sta):Prop where
  o:((s.opn.filter (rW u)).map seT).Perm ((aPg u r).map evT)
  c:(ofU s.usr u).Perm ((aQj u r).filter aPq)
theorem addS_perm {l:List bD} {x:bD}:(gX l x).Perm (l++[x].filter aPq):=by
  unfold gX
  by_cases h:x.1.2≤x.1.1
  · rw[if_pos h]; simp [aPq,h]
  · rw[if_neg h]
    have:[x].filter aPq=[x]:=by simp [aPq,h]
    rw[this]
    exact(fP x l).trans (List.perm_append_comm (l₁:=[x]) (l₂:=l))
theorem aQ0 {x:Ev} (h:x.kind≠2∧x.kind≠3) (n:Int):aPl n x=false:=by simp [aPl,h.1,h.2]
theorem aP9 {u:ByteArray} {x:Ev} (h:¬ ((x.kind=1∨x.kind=2)∧x.user=u)):aPj u x=false:=by
  cases e:aPj u x with
  | false=>rfl
  | true=>simp only[aPj,Bool.and_eq_true,Bool.or_eq_true,decide_eq_true_eq] at e; exact absurd e h
theorem aQz {u:ByteArray} {x:Ev} (h:¬ (x.kind=7∧x.user=u)):erB u x=false:=by
  cases e:erB u x with
  | false=>rfl
  | true=>simp only[erB,Bool.and_eq_true,decide_eq_true_eq] at e; exact absurd e h
theorem aP8 {α:Type} {p:α→Bool} {l:List α} (h:∀ x∈l,p x=true):l.filter p=l:=List.filter_eq_self.2 h
theorem aPw {u:ByteArray} {r:List Ev} {s s':Sta} {x:Ev} (hI:MoI u r s) (ho:s'.opn.filter (rW u)=s.opn.filter (rW u)) (hu:ofU s'.usr u=ofU s.usr u)
    (hc:∀ e∈aPg u r,aPl e.n x=false) (hb:aPj u x=false):MoI u (r++[x]) s':=by
  have h1:(aPg u r).filter (fun e=>!aPl e.n x)=aPg u r:=aP8 fun e he=>by rw[hc e he]; rfl
  have h2:(aPg u r).filter (fun e=>aPl e.n x)=[]:=List.filter_eq_nil_iff.2 fun e he=>by rw[hc e he]; decide
  refine⟨?_,?_⟩
  · rw[ho,aQd,h1,hb]; simpa using hI.o
  · rw[hu]
    have:=aQf u x r
    rw[h2] at this
    simp only[List.map_nil,List.append_nil] at this
    exact hI.c.trans (this.filter aPq).symm
theorem aRv {u:ByteArray} {r:List Ev} {s:Sta} (hI:MoI u r s) {e:Ev} (he:e∈aPg u r):∃ y∈s.opn,y.1.2=u∧y.1.1=e.n:=by
  have:evT e∈(s.opn.filter (rW u)).map seT:=hI.o.mem_iff.2 (List.mem_map.2 ⟨e,he,rfl⟩)
  obtain ⟨y,hy,e1⟩:=List.mem_map.1 this
  obtain ⟨h1,h2⟩:=List.mem_filter.1 hy
  exact⟨y,h1,by simpa [rW] using h2,by have:=congrArg Prod.fst e1; exact this⟩
theorem aS2 {u:ByteArray} {r:List Ev} {s:Sta} {x:Ev} {pre post:List Se} {e0:Se} {mid:List Se} {us:List Us} (hI:MoI u r s) (hr:cR cM s.usr) (ho:s.opn=pre++e0::post) (hn:∀ y∈pre++post,y.1.1≠x.n) (h0:e0.1=(x.n,u))
    (hk:x.kind=2∨x.kind=3) (hm:((mid.filter (rW u)).map seT)=(if aPj u x=true then [evT x] else [])) (s':Sta) (ho':s'.opn=pre++(mid++post)) (hu':s'.usr=kK s.usr u (eW e0 x.at')):MoI u (r++[x]) s':=by
  have hc:∀ n:Int,aPl n x=decide (x.n=n):=fun n=>by simp [aPl,hk]
  have h01:rW u e0=true:=by simp [rW,h0]
  have h02:e0.1.1=x.n:=by rw[h0]
  have hpm:(seT e0::((pre++post).filter (rW u)).map seT).Perm ((aPg u r).map evT):=by
    have:=hI.o
    rw[ho,List.filter_append,List.filter_cons_of_pos h01,List.map_append,List.map_cons] at this
    rw[List.filter_append,List.map_append]
    exact List.perm_middle.symm.trans this
  have hoth:∀ y∈((pre++post).filter (rW u)).map seT,y.1≠x.n:=fun y hy=>by
    obtain ⟨z,hz,rfl⟩:=List.mem_map.1 hy
    exact hn z (List.mem_filter.1 hz).1
  have hf:∀ (q:Int×(Int×Int)→Bool) ,((aPg u r).map evT).filter q=((aPg u r).filter fun e=>q (evT e)).map evT:=fun q=>by rw[List.filter_map]; rfl
  refine⟨?_,?_⟩
  · rw[ho',aQd,List.map_append]
    have e1:(aPg u r).filter (fun e=>!aPl e.n x)=(aPg u r).filter fun e=>(fun y:Int×(Int×Int)=>!decide (x.n=y.1)) (evT e):=List.filter_congr fun e _=>by rw[hc]; rfl
    rw[e1,← hf (fun y=>!decide (x.n=y.1))]
    have h2:=(hpm.filter (fun y:Int×(Int×Int)=>!decide (x.n=y.1)))
    rw[List.filter_cons_of_neg (by simp [seT,h02]),aP8 (l:=((pre++post).filter (rW u)).map seT) (fun y hy=>by have:=hoth y hy; simp; exact fun e=>this e.symm)] at h2
    rw[List.filter_append,List.filter_append,List.map_append,List.map_append,hm]
    rw[List.filter_append,List.map_append] at h2
    have e3:((if aPj u x=true then [x] else []).map evT)=(if aPj u x=true then [evT x] else []):=by split <;> rfl
    rw[e3]
    refine(List.perm_append_comm_assoc _ _ _).trans ?_
    exact(List.perm_append_comm).trans (h2.append_right _)
  · rw[hu',aOr hr,if_pos rfl]
    have h1:=(aQf u x r).filter aPq
    rw[List.filter_append] at h1
    have e1:(aPg u r).filter (fun e=>aPl e.n x)=(aPg u r).filter fun e=>(fun y:Int×(Int×Int)=>decide (x.n=y.1)) (evT e):=List.filter_congr fun e _=>by rw[hc]; rfl
    rw[e1,← hf (fun y=>decide (x.n=y.1))] at h1
    have h2:=(hpm.filter (fun y:Int×(Int×Int)=>decide (x.n=y.1)))
    rw[List.filter_cons_of_pos (by simp [seT,h02]),List.filter_eq_nil_iff.2 (fun y hy=>by have:=hoth y hy; simp; exact fun e=>this e.symm)] at h2
    have h3:[seT e0]=((aPg u r).map evT).filter fun y=>decide (x.n=y.1):=(List.perm_singleton.1 h2.symm).symm
    rw[← h3] at h1
    have h4:(List.map (stT x.at') [seT e0])=[eW e0 x.at']:=rfl
    rw[h4] at h1
    exact(addS_perm.trans (hI.c.append_right _)).trans h1.symm
theorem aRz {l:List Se} {n:Int} {v:ByteArray} (hr:iC l=true) (h:gH l n v=0):∃ pre e post,l=pre++e::post∧e.1=(n,v)∧(∀ y∈pre++post,y.1.1≠n)∧aIl l n=e∧(∀ st t,aF1 l n st t=pre++(e.1,(st,t))::post)∧aFx l n=pre++post:=by
  obtain ⟨pre,e,post,e1,e2,e3,e4,e5⟩:=zZ h
  rw[e1] at hr
  obtain ⟨_,q2⟩:=aJz hr
  exact⟨pre,e,post,e1,e2,fun y hy=>by have:=(q2 y hy).2; rw[e2] at this; exact this,e3,e4,e5⟩
theorem aSs {u v:ByteArray} {pre post mid:List Se} {e:Se} (he:e.1.2=v) (hv:v≠u) (hm:∀ y∈mid,y.1.2=v):(pre++(mid++post)).filter (rW u)=(pre++e::post).filter (rW u):=by
  have h1:mid.filter (rW u)=[]:=List.filter_eq_nil_iff.2 fun y hy=>by simp [rW,hm y hy,hv]
  have h2:¬ rW u e=true:=by simp [rW,he,hv]
  rw[List.filter_append,List.filter_append,List.filter_append,h1,List.filter_cons_of_neg h2]; rfl
theorem mo_step {u:ByteArray} {l:List Ev} {s:Sta} {x:Ev} (h:RightP s) (hI:MoI u (aPk u l) s) (h0:(cQ s x).2=0):MoI u (aPk u (l++[x])) (cQ s x).1:=by
  obtain ⟨he,hn,h2,e1⟩:=aM6 h0
  rw[aSp]
  have hu1:∀ (o:List Se) (d:Sta),ofU ({ d with now:=x.at' }:Sta).usr u=ofU d.usr u:=fun _ _=>rfl
  rcases zV he with ⟨hk,hs,_⟩ | ⟨hk,hs,_⟩ | ⟨hk,hs,_⟩ | ⟨hk,_⟩ | ⟨hk,_⟩ | ⟨hk,_⟩ | ⟨hk,_⟩
  · rw[aQz (by rintro ⟨a,_⟩; omega),if_neg (by decide),e1,bA,if_pos hk]
    rw[bA,if_pos hk] at h2
    have h2':sP s.opn ((x.n,x.user),(x.st,x.at'))=0:=h2
    have ho:nR s.opn ((x.n,x.user),(x.st,x.at'))=aCo s.opn ((x.n,x.user),(x.st,x.at')):=if_pos h2'
    have hc:=fun n=>aQ0 (x:=x) ⟨by omega,by omega⟩ n
    obtain ⟨pre,post,p1,p2⟩:=aNy (kR x.n) ((x.n,x.user),(x.st,x.at')) s.opn
    have ho2:aCo s.opn ((x.n,x.user),(x.st,x.at'))=pre++((x.n,x.user),(x.st,x.at'))::post:=p2
    by_cases hv:x.user=u
    · refine⟨?_,?_⟩
      · show (((nR s.opn ((x.n,x.user),(x.st,x.at'))).filter (rW u)).map seT).Perm _
        have hb:aPj u x=true:=by simp [aPj,hk,hv]
        have hh:rW u ((x.n,x.user),(x.st,x.at'))=true:=by simp [rW,hv]
        have h1:(aPg u (aPk u l)).filter (fun e=>!aPl e.n x)=aPg u (aPk u l):=aP8 fun e _=>by rw[hc]; rfl
        rw[ho,ho2,aQd,h1,hb,if_pos rfl,List.filter_append,List.filter_cons_of_pos hh,List.map_append,List.map_cons,List.map_append]
        refine List.perm_middle.trans (List.Perm.trans ?_ List.perm_append_comm)
        have:=hI.o
        rw[p1,List.filter_append,List.map_append] at this
        exact this.cons _
      · show (ofU s.usr u).Perm _
        have h1:(aPg u (aPk u l)).filter (fun e=>aPl e.n x)=[]:=List.filter_eq_nil_iff.2 fun e _=>by rw[hc]; decide
        have:=aQf u x (aPk u l)
        rw[h1] at this
        simp only[List.map_nil,List.append_nil] at this
        exact hI.c.trans (this.filter aPq).symm
    · refine aPw hI ?_ rfl (fun e _=>hc e.n) (aP9 (by rintro ⟨_,a⟩; exact hv a))
      show (nR s.opn ((x.n,x.user),(x.st,x.at'))).filter (rW u)=_
      rw[ho,ho2,p1,List.filter_append,List.filter_append,List.filter_cons_of_neg (by simp [rW,hv])]
  · rw[aQz (by rintro ⟨a,_⟩; omega),if_neg (by decide),e1,bA,if_neg (show ¬ x.kind=1 by omega),if_pos hk]
    rw[bA,if_neg (show ¬ x.kind=1 by omega),if_pos hk] at h2
    have h2':gH s.opn x.n x.user=0:=h2
    obtain ⟨pre,e0,post,p1,p2,p3,p4,p5,p6⟩:=aRz h.opn h2'
    have ho:nT s.opn x.n x.user x.st x.at'=pre++([(e0.1,(x.st,x.at'))]++post):=by rw[nT,if_pos h2',p5]; rfl
    have hst:stR s.opn x.n x.user x.at'=eW e0 x.at':=by rw[stR,if_pos h2',p4]
    by_cases hv:x.user=u
    · subst hv
      have hb:aPj x.user x=true:=by simp [aPj,hk]
      refine aS2 (mid:=[(e0.1,(x.st,x.at'))]) (us:=[]) hI h.usr p1 p3 p2 (.inl hk) ?_ _ ho (by show kK s.usr x.user _=_; rw[hst])
      rw[hb,if_pos rfl,List.filter_cons_of_pos (by simp [rW,p2])]
      show [(e0.1.1,(x.st,x.at'))]=[(x.n,(x.st,x.at'))]
      rw[p2]
    · refine aPw hI ?_ ?_ (fun e he2=>?_) (aP9 (by rintro ⟨_,a⟩; exact hv a))
      · show (nT s.opn x.n x.user x.st x.at').filter (rW u)=_
        rw[ho,p1]
        exact aSs (v:=x.user) (by rw[p2]) hv (fun y hy=>by rw[List.mem_singleton.1 hy]; show e0.1.2=_; rw[p2])
      · show ofU (kK s.usr x.user _) u=_
        rw[aOr h.usr,if_neg (fun a=>hv a.symm)]
      · obtain ⟨y,hy,y1,y2⟩:=aRv hI he2
        cases hcu:aPl e.n x with
        | false=>rfl
        | true =>
          exfalso
          simp only[aPl,Bool.and_eq_true,decide_eq_true_eq] at hcu
          have:y=e0:=aQa h.opn hy (by rw[p1]; simp) (by rw[y2,p2,hcu.2])
          rw[this,p2] at y1
          exact hv y1
  · rw[aQz (by rintro ⟨a,_⟩; omega),if_neg (by decide),e1,bA,if_neg (show ¬ x.kind=1 by omega),if_neg (show ¬ x.kind=2 by omega),if_pos hk]
    rw[bA,if_neg (show ¬ x.kind=1 by omega),if_neg (show ¬ x.kind=2 by omega),if_pos hk] at h2
    have h2':gH s.opn x.n x.user=0:=h2
    obtain ⟨pre,e0,post,p1,p2,p3,p4,p5,p6⟩:=aRz h.opn h2'
    have ho:nS s.opn x.n x.user=pre++([]++post):=by rw[nS,if_pos h2',p6]; rfl
    have hst:stR s.opn x.n x.user x.at'=eW e0 x.at':=by rw[stR,if_pos h2',p4]
    have hb:aPj u x=false:=aP9 (by rintro ⟨a,_⟩; omega)
    by_cases hv:x.user=u
    · subst hv
      refine aS2 (mid:=[]) (us:=[]) hI h.usr p1 p3 p2 (.inr hk) ?_ _ ho (by show kK s.usr x.user _=_; rw[hst])
      rw[hb,if_neg (by decide)]; rfl
    · refine aPw hI ?_ ?_ (fun e he2=>?_) hb
      · show (nS s.opn x.n x.user).filter (rW u)=_
        rw[ho,p1]
        exact aSs (v:=x.user) (by rw[p2]) hv (fun y hy=>by cases hy)
      · show ofU (kK s.usr x.user _) u=_
        rw[aOr h.usr,if_neg (fun a=>hv a.symm)]
      · obtain ⟨y,hy,y1,y2⟩:=aRv hI he2
        cases hcu:aPl e.n x with
        | false=>rfl
        | true =>
          exfalso
          simp only[aPl,Bool.and_eq_true,decide_eq_true_eq] at hcu
          have:y=e0:=aQa h.opn hy (by rw[p1]; simp) (by rw[y2,p2,hcu.2])
          rw[this,p2] at y1
          exact hv y1
  · rw[aQz (by rintro ⟨a,_⟩; omega),if_neg (by decide),e1,bA,if_neg (show ¬ x.kind=1 by omega),if_neg (show ¬ x.kind=2 by omega),if_neg (show ¬ x.kind=3 by omega),if_pos hk]
    exact aPw hI rfl rfl (fun e _=>aQ0 ⟨by omega,by omega⟩ e.n) (aP9 (by rintro ⟨a,_⟩; omega))
  · rw[aQz (by rintro ⟨a,_⟩; omega),if_neg (by decide),e1,bA,if_neg (show ¬ x.kind=1 by omega),if_neg (show ¬ x.kind=2 by omega),if_neg (show ¬ x.kind=3 by omega),if_neg (show ¬ x.kind=4 by omega),if_pos hk]
    exact aPw hI rfl rfl (fun e _=>aQ0 ⟨by omega,by omega⟩ e.n) (aP9 (by rintro ⟨a,_⟩; omega))
  · rw[aQz (by rintro ⟨a,_⟩; omega),if_neg (by decide),e1,bA,if_neg (show ¬ x.kind=1 by omega),if_neg (show ¬ x.kind=2 by omega),if_neg (show ¬ x.kind=3 by omega),if_neg (show ¬ x.kind=4 by omega),if_neg (show ¬ x.kind=5 by omega),if_pos hk]
    exact aPw hI rfl rfl (fun e _=>aQ0 ⟨by omega,by omega⟩ e.n) (aP9 (by rintro ⟨a,_⟩; omega))
  · rw[e1,bA,if_neg (show ¬ x.kind=1 by omega),if_neg (show ¬ x.kind=2 by omega),if_neg (show ¬ x.kind=3 by omega),if_neg (show ¬ x.kind=4 by omega),if_neg (show ¬ x.kind=5 by omega),if_neg (show ¬ x.kind=6 by omega)]
    by_cases hv:x.user=u
    · rw[if_pos (by simp [erB,hk,hv])]
      refine⟨?_,?_⟩
      · show (((s.opn.filter fun e=>!rW x.user e).filter (rW u)).map seT).Perm []
        rw[hv,List.filter_filter,List.filter_eq_nil_iff.2 (fun y _=>by cases rW u y <;> simp)]
        exact .nil
      · show (ofU (pK s.usr x.user []) u).Perm []
        rw[aOp h.usr,if_pos hv.symm]
    · rw[aQz (by rintro ⟨_,a⟩; exact hv a),if_neg (by decide)]
      refine aPw hI ?_ ?_ (fun e _=>aQ0 ⟨by omega,by omega⟩ e.n) (aP9 (by rintro ⟨a,_⟩; omega))
      · show (s.opn.filter fun e=>!rW x.user e).filter (rW u)=_
        rw[List.filter_filter]
        refine List.filter_congr fun y _=>?_
        by_cases hy:y.1.2=u
        · have hne:¬ u=x.user:=fun a=>hv a.symm
          simp [rW,hy,hne]
        · simp [rW,hy]
      · show ofU (pK s.usr x.user []) u=_
        rw[aOp h.usr,if_neg (fun a=>hv a.symm)]
theorem aS1 (u:ByteArray):MoI u (aPk u []) oE:=⟨.nil,.nil⟩
theorem aSr {u:ByteArray}:∀ (k l:List Ev) {s:Sta},RightP s→MoI u (aPk u l) s→(∀ x∈fX s k,x=0)→MoI u (aPk u (l++k)) (fH s k)
  | [],l,s,h,hI,_=>by rw[List.append_nil]; exact hI
  | x::k,l,s,h,hI,ht=>by
    have h0:(cQ s x).2=0:=ht _ (List.mem_cons_self ..)
    have ef:fH s (x::k)=fH (cQ s x).1 k:=by show fH (gC s x) k=_; rw[aJm h0]
    have:=aSr k (l++[x]) (aF3 h h0) (mo_step h hI h0) (fun y hy=>ht y (List.mem_cons_of_mem _ (by rw[aJm h0]; exact hy)))
    rw[ef]
    simpa using this
theorem aRk {l:List bD}:∀ {a:List bD},Srt gK a→Srt gK (l.foldl gX a)∧(l.foldl gX a).Perm (a++l.filter aPq):=by
  induction l with
  | nil=>intro a h; exact⟨h,by simp⟩
  | cons x l ih =>
    intro a h
    obtain ⟨h1,h2⟩:=ih (a:=gX a x) (aNe h)
    refine⟨h1,?_⟩
    have e:(x::l).filter aPq=[x].filter aPq++l.filter aPq:=by rw[← List.filter_append]; rfl
    rw[e,← List.append_assoc]
    exact h2.trans (addS_perm.append_right _)
def stM (l:List Ev) (u:ByteArray) (t:Int):List bD:=(aQt u t (aPk u l)).foldl gX []
theorem raw_his (o:List Se) (u:ByteArray) (t:Int):(iY o u t).filter aPq=(((o.filter (rW u)).map seT).map (stT t)).filter aPq:=by
  induction o with
  | nil=>rfl
  | cons e o ih =>
    show ((if rW u e=true∧¬ t≤e.2.2 then [eW e t] else [])++iY o u t).filter aPq=_
    rw[List.filter_append,ih]
    by_cases hh:rW u e=true
    · rw[List.filter_cons_of_pos hh,List.map_cons,List.map_cons]
      by_cases ht:t≤e.2.2
      · rw[if_neg (by simp [ht])]
        have:¬ aPq (stT t (seT e))=true:=by simp [aPq,stT,seT,ht]
        rw[List.filter_cons_of_neg this]; rfl
      · rw[if_pos ⟨hh,ht⟩]
        have:aPq (stT t (seT e))=true:=by simp only[aPq,stT,seT,Bool.not_eq_true',decide_eq_false_iff_not]; exact decide_eq_false ht
        rw[List.filter_cons_of_pos this]
        have e2:aPq (eW e t)=true:=this
        rw[List.filter_cons_of_pos e2]; rfl
    · rw[List.filter_cons_of_neg hh,if_neg (fun k=>hh k.1)]; rfl
theorem aRs {u:ByteArray} {r:List Ev} {s:Sta} {t:Int} (h:RightP s) (hI:MoI u r s):aDz s u t=(aQt u t r).foldl gX []:=by
  have hs:=(aSv h).s u
  obtain ⟨a1,a2⟩:=aRk (l:=fG s.opn u t) hs
  obtain ⟨b1,b2⟩:=aRk (l:=aQt u t r) (a:=[]) List.Pairwise.nil
  refine sJ cmpS_tri (fun x y=>aC7.1) a1 b1 ?_
  refine a2.trans (List.Perm.trans ?_ b2.symm)
  have p1:(fG s.opn u t).Perm (iY s.opn u t):=yF _
  have p2:=(aRj u t r).filter aPq
  rw[List.filter_append] at p2
  rw[List.nil_append]
  refine List.Perm.trans ?_ p2.symm
  refine List.Perm.append hI.c ?_
  refine(p1.filter aPq).trans ?_
  rw[raw_his]
  exact((hI.o.map (stT t)).filter aPq)
theorem aSe {k:List Ev} {u:ByteArray} {t:Int} (ht:∀ x∈fX oE k,x=0):aDz (fH oE k) u t=stM k u t:=by
  have:=aSr (u:=u) k [] sH (aS1 u) ht
  exact aRs (zQ k sH) this
end Go.Abs
set_option linter.unusedVariables false
set_option linter.unusedSimpArgs false
namespace Go.Abs
open Go
end Go.Abs
set_option linter.unusedVariables false
set_option linter.unusedSimpArgs false
namespace Go.Abs
open Go
def aRh (u:ByteArray) (l:List Ev):Nat:=l.length - (aPk u l).length
theorem aSn (u:ByteArray):∀ l:List Ev,(aPk u l).length≤l.length
  | []=>Nat.le_refl _
  | x::r=>by
    have:=aSn u r
    unfold aPk
    split
    · simp only[List.length_cons]; omega
    · split <;> simp
theorem aSz (u:ByteArray):∀ l:List Ev,aPk u l=l.drop (aRh u l)
  | []=>rfl
  | x::r=>by
    have ih:=aSz u r
    have hl:=aSn u r
    unfold aRh at ih ⊢
    by_cases h1:r.any (erB u)=true
    · have e:aPk u (x::r)=aPk u r:=by rw[aPk,if_pos h1]
      rw[e,List.length_cons,show r.length+1 - (aPk u r).length=(r.length - (aPk u r).length)+1 by omega,List.drop_succ_cons]
      exact ih
    · by_cases h2:erB u x=true
      · have e:aPk u (x::r)=r:=by rw[aPk,if_neg h1,if_pos h2]
        rw[e,List.length_cons,show r.length+1 - r.length=1 by omega]; rfl
      · have e:aPk u (x::r)=x::r:=by rw[aPk,if_neg h1,if_neg h2]
        rw[e,Nat.sub_self]; rfl
theorem aSo {u:ByteArray}:∀ {l:List Ev} {j:Nat} (hj:j<l.length),erB u l[j]=true→(∀ (i:Nat) (hi:i<l.length),j<i→erB u l[i]=false)→aPk u l=l.drop (j+1)
  | [],j,hj,_,_=>by simp at hj
  | x::r,0,hj,h1,h2=>by
    have hr:r.any (erB u)=false:=by
      rw[List.any_eq_false]
      intro y hy
      obtain ⟨i,hi,rfl⟩:=List.getElem_of_mem hy
      have:=h2 (i+1) (by simpa using hi) (by omega)
      simpa using this
    have hx:erB u x=true:=by simpa using h1
    rw[aPk,if_neg (by rw[hr]; decide),if_pos hx]; rfl
  | x::r,j+1,hj,h1,h2=>by
    have hj':j<r.length:=by simpa using hj
    have h1':erB u r[j]=true:=by simpa using h1
    have hr:r.any (erB u)=true:=List.any_eq_true.2 ⟨_,List.getElem_mem hj',h1'⟩
    rw[aPk,if_pos hr,aSo hj' h1' fun i hi hji=>by have:=h2 (i+1) (by simpa using hi) (by omega); simpa using this]; rfl
theorem suf_no {u:ByteArray}:∀ {l:List Ev},(∀ (i:Nat) (hi:i<l.length),erB u l[i]=false)→aPk u l=l
  | [],_=>rfl
  | x::r,h=>by
    have hr:r.any (erB u)=false:=by
      rw[List.any_eq_false]
      intro y hy
      obtain ⟨i,hi,rfl⟩:=List.getElem_of_mem hy
      have:=h (i+1) (by simpa using hi)
      simpa using this
    have hx:erB u x=false:=by have:=h 0 (by simp); simpa using this
    rw[aPk,if_neg (by rw[hr]; decide),if_neg (by rw[hx]; decide)]
theorem beg_hit {u:ByteArray} {l:List Ev} {j:Nat} (hj:j<l.length) (h1:erB u l[j]=true) (h2:∀ (i:Nat) (hi:i<l.length),j<i→erB u l[i]=false):aRh u l=j+1:=by
  rw[aRh,aSo hj h1 h2,List.length_drop]; omega
theorem aS7 {u:ByteArray} {l:List Ev} (h:∀ (i:Nat) (hi:i<l.length),erB u l[i]=false):aRh u l=0:=by rw[aRh,suf_no h]; omega
theorem aU7 (u:ByteArray) (l:List Ev):aRh u l≤l.length:=Nat.sub_le _ _
theorem aP1 {l:List Ev} {i:Nat} (hi:i<l.length) (n:Int):aPp (l.drop i) n=if aPl n l[i]=true then some l[i].at' else aPp (l.drop (i+1)) n:=by
  rw[List.drop_eq_getElem_cons hi,aPp]
theorem aS6 {l:List Ev} {i:Nat} (hi:l.length≤i) (n:Int):aPp (l.drop i) n=none:=by rw[List.drop_eq_nil_of_le hi]; rfl
def aSg (l:List Ev) (k:Nat) (n t:Int):Int:=(aPp (l.drop (k+1)) n).getD t
theorem aP0 {u:ByteArray} {t:Int} {l:List Ev} {k:Nat} (hk:k<l.length):aQt u t (l.drop k)=(if aPj u l[k]=true then [((l[k].at',aSg l k l[k].n t),(l[k].n,l[k].st))] else [])++aQt u t (l.drop (k+1)):=by
  rw[List.drop_eq_getElem_cons hk,aQt]; rfl
theorem aS0 {u:ByteArray} {t:Int} {l:List Ev} {k:Nat} (hk:l.length≤k):aQt u t (l.drop k)=[]:=by rw[List.drop_eq_nil_of_le hk]; rfl
theorem stM_is (l:List Ev) (u:ByteArray) (t:Int):stM l u t=(aQt u t (l.drop (aRh u l))).foldl gX []:=by rw[stM,aSz]
end Go.Abs
