import Derived.WalkKit
import Derived.WalkSpells
import Derived.WalkLawsBesides
import Derived.Deep.LoopGhost
import Derived.ChangeKeysEq
import Derived.Still
import Derived.Lib.AppendZeros
import Derived.Laws.StructEq
import Derived.OpenShut
import Derived.Scope
import Derived.Shelf.SlSortCmp.Kit1
import Derived.Shelf.SlSortCmp.InsertionK
import Derived.Lib.SlicesCompact
import Derived.ProofKit
import Derived.ChangeSame
import Derived.Carry
import Derived.SliceStrings
import Derived.ChangeMaps5
import Derived.Deep.Slices
import Derived.Test.YthapfogcaklbbaaGreatRows
import Derived.Shelf.Abstract
import Derived.Deep.RegionLaw
import Derived.Lib.Walk
import Derived.Lib.Overlaps
import Derived.Lib.AppendZerosOnto
import Derived.Laws.CopyRow
import Derived.Shelf.SlSortCmp.WholeK
import Derived.Shelf.SlSortCmp.Whole1
import Derived.Shelf.SlSortCmp.NoneTotal
import Derived.Test.YthapfogcaklbbaaGreatK1
import Derived.Test.YthapfogcaklbbaaGreatK2
import Derived.Test.YthapfogcaklbbaaGreatK3
import Derived.Test.YthapfogcaklbbaaGreatK4
import Derived.Test.YthapfogcaklbbaaGreatK5
set_option maxRecDepth 20000
set_option maxHeartbeats 16000000
set_option linter.unusedVariables false
set_option linter.unusedSimpArgs false
namespace Go.Proofs.YthapfogcaklbbaaGreat
open Go Go.Abs
theorem aR0 (l:List Ev) (u:ByteArray) (hl:l.length≤1000) :Den Tryz.prog 91 [.sl 6 (l.map evC),.s (.string u)]  (·=.s (.int .i64 ((aRh u l:Nat):Int))):=by
 refine aU Tryz.func91 rfl (Nat.le_of_ble_eq_true rfl) (fun w0 A hf=>(aC (fun K1 hK1=>(aB (aE aA 1 rfl (aD (hK1 _ (aC (fun K2 hK2=>(aC (fun K3 hK3=>(aB (aE aA 2 rfl ?_)))))))))))))
 refine aG rfl (eI rfl rfl rfl) ?_
 refine aE aA 1 rfl (aD (hK3 _ (aO (bR (ι:=Nat) (fun j=>⟨30,[(0,.sl 6 (l.map evC)),(1,.s (.string u)),(5,.s (.int .i64 ((j:Int) - 1)))],[]⟩) (fun j=>j≤l.length∧∀ (i:Nat) (hi:i<l.length),j≤i→erB u l[i]=false) (fun j=>j) l.length ?_ ?_ ?_))))
 · exact⟨Nat.le_refl _,fun i hi h=>absurd hi (by omega)⟩
 · exact cK ⟨rfl,rfl,aL (by rw[List.length_map,wrap_i64 (by omega) (by omega)]),trivial⟩ rfl
 ·
  rintro j hC
  obtain ⟨h1,h2⟩:=hC
  refine aC (fun K4 hK4=>(aC (fun K5 hK5=>(aB (aE aA 2 rfl (aD (hK5 _ (aK rfl (fun hc1=>?_) (fun hc1=>?_)))))))))
  ·
   simp only[bs] at hc1
   have hk:j - 1<l.length:=by omega
   refine aN (hK4 _ (aC (fun K6 hK6=>(aO (aC (fun K7 hK7=>(aB (aE aA 2 rfl (aG rfl (bB rfl rfl aNl aHw (iO (k:=j - 1) (by omega) (by omega))) (aE aA 4 rfl (aV rfl rfl rfl (fun hg2=>?_) (fun hg2=>?_))))))))))))
   ·
    simp only[bs] at hg2
    refine aG rfl (gD rfl) (aE aA 1 rfl (aZ rfl rfl rfl (aG rfl (bB rfl rfl aNl aHw (iO (k:=j - 1) (by omega) (by omega))) (aE aA 5 rfl (aD (hK7 _ (aK rfl (fun hc3=>?_) (fun hc3=>?_))))))))
    ·
     simp only[bs] at hc3
     have h0:erB u l[j - 1]=true:=by simp_all[erB,toList_inj]
     refine aC (fun K8 hK8=>(aB (aE aA 1 rfl ?_)))
     refine aG rfl (bO rfl rfl (by omega) (by omega)) ?_
     refine aE aA 1 rfl (aD (hK8 _ (aJ ?_)))
     refine⟨_,rfl,?_⟩
     refine dZ ?_
     rw[beg_hit hk h0 (fun i hi hji=>h2 i hi (by omega))]; omega
    ·
     simp only[bs] at hc3
     have h0:erB u l[j - 1]=false:=by simp_all[erB,toList_inj]
     refine aN (hK6 _ (aB (aE aA 1 rfl ?_)))
     refine aG rfl (eH rfl rfl (by omega) (by omega)) ?_
     refine aE aA 1 rfl (aD ?_)
     exact⟨j - 1,⟨by omega,fun i hi hji=>if he:i=j - 1 then by subst he; exact h0 else h2 i hi (by omega)⟩,by omega,cK ⟨rfl,rfl,aL (by omega),trivial⟩ rfl⟩
   ·
    simp only[bs] at hg2
    refine aE aA 7 rfl (aD (hK7 _ (bW rfl (aN (hK6 _ (aB (aE aA 1 rfl ?_)))))))
    refine aG rfl (eH rfl rfl (by omega) (by omega)) ?_
    refine aE aA 1 rfl (aD ?_)
    (  have h0:erB u l[j - 1]=false:=by simp_all[erB,toList_inj]
       exact⟨j - 1,⟨by omega,fun i hi hji=>if he:i=j - 1 then by subst he; exact h0 else h2 i hi (by omega)⟩,by omega,cK ⟨rfl,rfl,aL (by omega),trivial⟩ rfl⟩)
  ·
   simp only[bs] at hc1
   have hj0:j=0:=by omega
   subst hj0
   refine aW (hK2 _ (aC (fun K9 hK9=>(aB (aE aA 1 rfl (aD (hK9 _ (aJ ?_))))))))
   refine⟨_,rfl,?_⟩
   refine dZ ?_
   rw[aS7 (fun i hi=>h2 i hi (by omega))]; rfl
theorem aRl (l:List Ev) (k:Nat) (t:Int) (hl:l.length≤1000) (hk:k<l.length) :Den Tryz.prog 93 [.sl 6 (l.map evC),.s (.int .i64 (k:Nat)),.s (.int .i64 t)]  (·=.s (.int .i64 ((aPp (l.drop (k+1)) l[k].n).getD t))):=by
 refine aU Tryz.func93 rfl (Nat.le_of_ble_eq_true rfl) (fun w0 A hf=>(aC (fun K1 hK1=>(aB (aE aA 1 rfl (aD (hK1 _ (aC (fun K2 hK2=>(aC (fun K3 hK3=>(aB (aE aA 1 rfl ?_)))))))))))))
 refine aG rfl (bO rfl rfl (by omega) (by omega)) ?_
 refine aE aA 1 rfl (aD (hK3 _ (aO (bR (ι:=Nat) (fun j=>⟨49,[(0,.sl 6 (l.map evC)),(1,.s (.int .i64 (k:Nat))),(2,.s (.int .i64 t)),(7,.s (.int .i64 (j:Nat)))],[]⟩) (fun j=>k<j∧j≤l.length∧aPp (l.drop (k+1)) l[k].n=aPp (l.drop j) l[k].n) (fun j=>l.length - j) (k+1) ?_ ?_ ?_))))
 · exact⟨by omega,by omega,rfl⟩
 · exact cK ⟨rfl,rfl,rfl,aL (by omega),trivial⟩ rfl
 ·
  rintro j hC
  obtain ⟨h0,h1,h2⟩:=hC
  refine aC (fun K4 hK4=>(aC (fun K5 hK5=>(aB (aE aA 4 rfl (aD (hK5 _ (aK rfl (fun hc1=>?_) (fun hc1=>?_)))))))))
  ·
   simp only[bs] at hc1
   have hj:j<l.length:=by omega
   refine aN (hK4 _ (aC (fun K6 hK6=>(aO (aC (fun K7 hK7=>(eB hf bI (by kernel_rfl) rfl (aX aA 2 rfl (bL [(16,_),(17,_)] rfl rfl ⟨⟨rfl,rfl⟩,⟨rfl,rfl⟩,trivial⟩ rfl (bB rfl rfl aNl aHw (iO (k:=j) (by omega) (by omega))) (aX aA 4 rfl (gA 22 false rfl (fun hg2=>?_) (fun hg2=>?_))))))))))))
   ·
    simp only[bs] at hg2
    refine aX aA 2 rfl (bL [(23,_),(24,_)] rfl rfl ⟨⟨rfl,rfl⟩,⟨rfl,rfl⟩,trivial⟩ rfl (bB rfl rfl aNl aHw (iO (k:=j) (by omega) (by omega))) (aX aA 5 rfl (gA 30 true rfl (fun hg3=>?_) (fun hg3=>?_))))
    ·
     simp only[bs] at hg3
     refine aX aA 2 rfl (bL [(31,_),(32,_)] rfl rfl ⟨⟨rfl,rfl⟩,⟨rfl,rfl⟩,trivial⟩ rfl (bB rfl rfl aNl aHw (iO (k:=j) (by omega) (by omega))) (aX aA 4 rfl (bL [(36,_),(37,_)] rfl rfl ⟨⟨rfl,rfl⟩,⟨rfl,rfl⟩,trivial⟩ rfl (bB rfl rfl aNl aHw (iO (k:=k) (by omega) (by omega))) (aX aA 4 rfl (eE [0,1,2,7,42] rfl rfl rfl (hK7 _ (aK rfl (fun hc4=>?_) (fun hc4=>?_))))))))
     ·
      simp only[bs] at hc4
      have hcut:aPl l[k].n l[j]=true:=by simp_all[aPl]
      refine aC (fun K8 hK8=>(aB (aE aA 2 rfl (aG rfl (bB rfl rfl aNl aHw (iO (k:=j) (by omega) (by omega))) (aE aA 3 rfl (aD (hK8 _ (aJ ?_))))))))
      refine⟨_,rfl,?_⟩
      refine dZ ?_
      rw[h2,aP1 hj,if_pos hcut]; rfl
     ·
      simp only[bs] at hc4
      have hcut:aPl l[k].n l[j]=false:=by simp_all[aPl]
      refine aN (hK6 _ (aB (aE aA 1 rfl ?_)))
      refine aG rfl (bO rfl rfl (by omega) (by omega)) ?_
      refine aE aA 1 rfl (aD ?_)
      exact⟨j+1,⟨by omega,by omega,by rw[h2,aP1 hj,if_neg (by rw[hcut]; decide)]⟩,by omega,cK ⟨rfl,rfl,rfl,aL (by omega),trivial⟩ rfl⟩
    ·
     simp only[bs] at hg3
     refine aX aA 12 rfl (eE [0,1,2,7,42] rfl rfl rfl (hK7 _ (bW rfl (aN (hK6 _ (aB (aE aA 1 rfl ?_)))))))
     refine aG rfl (bO rfl rfl (by omega) (by omega)) ?_
     refine aE aA 1 rfl (aD ?_)
     (  have hcut:aPl l[k].n l[j]=false:=by simp_all[aPl]
        exact⟨j+1,⟨by omega,by omega,by rw[h2,aP1 hj,if_neg (by rw[hcut]; decide)]⟩,by omega,cK ⟨rfl,rfl,rfl,aL (by omega),trivial⟩ rfl⟩)
   ·
    simp only[bs] at hg2
    refine aX aA 10 rfl (bL [(31,_),(32,_)] rfl rfl ⟨⟨rfl,rfl⟩,⟨rfl,rfl⟩,trivial⟩ rfl (bB rfl rfl aNl aHw (iO (k:=j) (by omega) (by omega))) (aX aA 4 rfl (bL [(36,_),(37,_)] rfl rfl ⟨⟨rfl,rfl⟩,⟨rfl,rfl⟩,trivial⟩ rfl (bB rfl rfl aNl aHw (iO (k:=k) (by omega) (by omega))) (aX aA 4 rfl (eE [0,1,2,7,42] rfl rfl rfl (hK7 _ (aK rfl (fun hc6=>?_) (fun hc6=>?_))))))))
    ·
     simp only[bs] at hc6
     have hcut:aPl l[k].n l[j]=true:=by simp_all[aPl]
     refine aC (fun K9 hK9=>(aB (aE aA 2 rfl (aG rfl (bB rfl rfl aNl aHw (iO (k:=j) (by omega) (by omega))) (aE aA 3 rfl (aD (hK9 _ (aJ ?_))))))))
     refine⟨_,rfl,?_⟩
     refine dZ ?_
     rw[h2,aP1 hj,if_pos hcut]; rfl
    ·
     simp only[bs] at hc6
     have hcut:aPl l[k].n l[j]=false:=by simp_all[aPl]
     refine aN (hK6 _ (aB (aE aA 1 rfl ?_)))
     refine aG rfl (bO rfl rfl (by omega) (by omega)) ?_
     refine aE aA 1 rfl (aD ?_)
     exact⟨j+1,⟨by omega,by omega,by rw[h2,aP1 hj,if_neg (by rw[hcut]; decide)]⟩,by omega,cK ⟨rfl,rfl,rfl,aL (by omega),trivial⟩ rfl⟩
  ·
   simp only[bs] at hc1
   refine aW (hK2 _ (aC (fun K10 hK10=>(aB (aE aA 2 rfl (aD (hK10 _ (aJ ?_))))))))
   refine⟨_,rfl,?_⟩
   refine dZ ?_
   rw[h2,aS6 (by omega)]; rfl
theorem aQw (l:List Ev) (u:ByteArray) (t:Int) (hl:l.length≤1000) :Den Tryz.prog 38 [.sl 6 (l.map evC),.s (.string u),.s (.int .i64 t)]  (·=.sl 4 ((stM l u t).map stC)):=by
 have hbl:=aU7 u l
 refine aU Tryz.func38 rfl (Nat.le_of_ble_eq_true rfl) (fun w0 A hf=>(aC (fun K1 hK1=>(aB (aG rfl (bH) (aD (hK1 _ (aC (fun K2 hK2=>(aB (aG rfl (yZ (k:=4)) (aD (hK2 _ (aC (fun K3 hK3=>(aC (fun K4 hK4=>?_)))))))))))))))))
 refine aB (aE aA 2 rfl (aM hf rfl (aQ rfl rfl aSj rfl (aR0 l u hl)) (aE aA 1 rfl (aD (hK4 _ (aO (bR (ι:=Nat×List bD) (fun(⟨k,out⟩:Nat×List bD)=>⟨64,[(0,.sl 6 (l.map evC)),(1,.s (.string u)),(2,.s (.int .i64 t)),(7,.sl 4 (out.map stC)),(8,.s (.int .i64 (k:Nat)))],[]⟩) (fun(⟨k,out⟩:Nat×List bD)=>k≤l.length∧out.length≤k∧(aQt u t (l.drop k)).foldl gX out=stM l u t) (fun(⟨k,out⟩:Nat×List bD)=>l.length - k) (aRh u l,[]) ?_ ?_ ?_)))))))
 · exact⟨hbl,Nat.zero_le _,(stM_is l u t).symm⟩
 · exact cK ⟨(by first | rfl | exact aL (by omega)),(by first | rfl | exact aL (by omega)),(by first | rfl | exact aL (by omega)),(by first | rfl | exact aL (by omega)),(by first | rfl | exact aL (by omega)),trivial⟩ rfl
 ·
  rintro ⟨k,out⟩ hC
  obtain ⟨h1,h2,h3⟩:=hC
  refine aC (fun K5 hK5=>(aC (fun K6 hK6=>(aB (aE aA 4 rfl (aD (hK6 _ (aK rfl (fun hc1=>?_) (fun hc1=>?_)))))))))
  ·
   simp only[bs] at hc1
   have hk:k<l.length:=by omega
   refine aN (hK5 _ (aC (fun K7 hK7=>(aO (aC (fun K8 hK8=>(aB (aE aA 2 rfl (aG rfl (bB rfl rfl aNl aHw (iO (k:=k) (by omega) (by omega))) (aE aA 4 rfl (aV rfl rfl rfl (fun hg2=>?_) (fun hg2=>?_))))))))))))
   ·
    simp only[bs] at hg2
    refine aG rfl (gD rfl) (aE aA 1 rfl (aZ rfl rfl rfl (aG rfl (bB rfl rfl aNl aHw (iO (k:=k) (by omega) (by omega))) (aE aA 5 rfl (aV rfl rfl rfl (fun hg3=>?_) (fun hg3=>?_))))))
    ·
     simp only[bs] at hg3
     refine aG rfl (gD rfl) (aE aA 1 rfl (aZ rfl rfl rfl (aG rfl (bB rfl rfl aNl aHw (iO (k:=k) (by omega) (by omega))) (aE aA 5 rfl (aD (hK8 _ (aK rfl (fun hc4=>?_) (fun hc4=>?_))))))))
     ·
      simp only[bs] at hc4
      have h0:aPj u l[k]=true:=by simp_all[aPj,toList_inj]
      refine eB hf bI (by kernel_rfl) rfl (aX aA 3 rfl (bL [(42,_),(43,_)] rfl rfl ⟨⟨rfl,rfl⟩,⟨rfl,rfl⟩,trivial⟩ rfl (bB rfl rfl aNl aHw (iO (k:=k) (by omega) (by omega))) (aX aA 5 rfl (bT [(47,_),(48,_),(49,_)] rfl rfl ⟨⟨rfl,rfl⟩,⟨rfl,rfl⟩,⟨rfl,rfl⟩,trivial⟩ rfl (aQ rfl rfl aQ2 rfl (aRl l k t hl hk)) (aX aA 2 rfl (bL [(51,_),(52,_)] rfl rfl ⟨⟨rfl,rfl⟩,⟨rfl,rfl⟩,trivial⟩ rfl (bB rfl rfl aNl aHw (iO (k:=k) (by omega) (by omega))) (aX aA 4 rfl (bL [(56,_),(57,_)] rfl rfl ⟨⟨rfl,rfl⟩,⟨rfl,rfl⟩,trivial⟩ rfl (bB rfl rfl aNl aHw (iO (k:=k) (by omega) (by omega))) ?_))))))))
      refine aX aA 2 rfl (bL [(46,_),(50,_),(55,_),(60,_)] rfl rfl ⟨⟨rfl,rfl⟩,⟨rfl,rfl⟩,⟨rfl,rfl⟩,⟨rfl,rfl⟩,trivial⟩ rfl (cS rfl aB6 aN0 (l3 rfl) rfl) (bT [(41,_),(61,_)] rfl rfl ⟨⟨rfl,rfl⟩,⟨rfl,rfl⟩,trivial⟩ rfl (aQ rfl rfl aN1 rfl (aNt out ((l[k].at',aSg l k l[k].n t),(l[k].n,l[k].st)) (by omega))) (aX aA 1 rfl (eE [0,1,2,7,8] rfl rfl rfl (hK7 _ (aB (aE aA 1 rfl ?_)))))))
      refine aG rfl (bO rfl rfl (by omega) (by omega)) ?_
      refine aE aA 1 rfl (aD ?_)
      exact⟨(k+1,gX out ((l[k].at',aSg l k l[k].n t),(l[k].n,l[k].st))),⟨by omega,by have:=aAh out ((l[k].at',aSg l k l[k].n t),(l[k].n,l[k].st)); omega,by rw[← h3,aP0 hk,if_pos h0]; rfl⟩,by simp only; omega,cK ⟨(by first | rfl | exact aL (by omega)),(by first | rfl | exact aL (by omega)),(by first | rfl | exact aL (by omega)),(by first | rfl | exact aL (by omega)),(by first | rfl | exact aL (by omega)),trivial⟩ rfl⟩
     ·
      simp only[bs] at hc4
      have h0:aPj u l[k]=false:=by simp_all[aPj,toList_inj]
      refine aN (hK7 _ (aB (aE aA 1 rfl ?_)))
      refine aG rfl (bO rfl rfl (by omega) (by omega)) ?_
      refine aE aA 1 rfl (aD ?_)
      exact⟨(k+1,out),⟨by omega,by omega,by rw[← h3,aP0 hk,if_neg (by rw[h0]; decide)]; rfl⟩,by simp only; omega,cK ⟨(by first | rfl | exact aL (by omega)),(by first | rfl | exact aL (by omega)),(by first | rfl | exact aL (by omega)),(by first | rfl | exact aL (by omega)),(by first | rfl | exact aL (by omega)),trivial⟩ rfl⟩
    ·
     simp only[bs] at hg3
     refine aE aA 7 rfl (aD (hK8 _ (bW rfl (aN (hK7 _ (aB (aE aA 1 rfl ?_)))))))
     refine aG rfl (bO rfl rfl (by omega) (by omega)) ?_
     refine aE aA 1 rfl (aD ?_)
     (  have h0:aPj u l[k]=false:=by simp_all[aPj,toList_inj]
        exact⟨(k+1,out),⟨by omega,by omega,by rw[← h3,aP0 hk,if_neg (by rw[h0]; decide)]; rfl⟩,by simp only; omega,cK ⟨(by first | rfl | exact aL (by omega)),(by first | rfl | exact aL (by omega)),(by first | rfl | exact aL (by omega)),(by first | rfl | exact aL (by omega)),(by first | rfl | exact aL (by omega)),trivial⟩ rfl⟩)
   ·
    simp only[bs] at hg2
    refine aE aA 9 rfl (aZ rfl rfl rfl (aG rfl (bB rfl rfl aNl aHw (iO (k:=k) (by omega) (by omega))) (aE aA 5 rfl (aD (hK8 _ (aK rfl (fun hc6=>?_) (fun hc6=>?_)))))))
    ·
     simp only[bs] at hc6
     have h0:aPj u l[k]=true:=by simp_all[aPj,toList_inj]
     refine eB hf bI (by kernel_rfl) rfl (aX aA 3 rfl (bL [(42,_),(43,_)] rfl rfl ⟨⟨rfl,rfl⟩,⟨rfl,rfl⟩,trivial⟩ rfl (bB rfl rfl aNl aHw (iO (k:=k) (by omega) (by omega))) (aX aA 5 rfl (bT [(47,_),(48,_),(49,_)] rfl rfl ⟨⟨rfl,rfl⟩,⟨rfl,rfl⟩,⟨rfl,rfl⟩,trivial⟩ rfl (aQ rfl rfl aQ2 rfl (aRl l k t hl hk)) (aX aA 2 rfl (bL [(51,_),(52,_)] rfl rfl ⟨⟨rfl,rfl⟩,⟨rfl,rfl⟩,trivial⟩ rfl (bB rfl rfl aNl aHw (iO (k:=k) (by omega) (by omega))) (aX aA 4 rfl (bL [(56,_),(57,_)] rfl rfl ⟨⟨rfl,rfl⟩,⟨rfl,rfl⟩,trivial⟩ rfl (bB rfl rfl aNl aHw (iO (k:=k) (by omega) (by omega))) ?_))))))))
     refine aX aA 2 rfl (bL [(46,_),(50,_),(55,_),(60,_)] rfl rfl ⟨⟨rfl,rfl⟩,⟨rfl,rfl⟩,⟨rfl,rfl⟩,⟨rfl,rfl⟩,trivial⟩ rfl (cS rfl aB6 aN0 (l3 rfl) rfl) (bT [(41,_),(61,_)] rfl rfl ⟨⟨rfl,rfl⟩,⟨rfl,rfl⟩,trivial⟩ rfl (aQ rfl rfl aN1 rfl (aNt out ((l[k].at',aSg l k l[k].n t),(l[k].n,l[k].st)) (by omega))) (aX aA 1 rfl (eE [0,1,2,7,8] rfl rfl rfl (hK7 _ (aB (aE aA 1 rfl ?_)))))))
     refine aG rfl (bO rfl rfl (by omega) (by omega)) ?_
     refine aE aA 1 rfl (aD ?_)
     exact⟨(k+1,gX out ((l[k].at',aSg l k l[k].n t),(l[k].n,l[k].st))),⟨by omega,by have:=aAh out ((l[k].at',aSg l k l[k].n t),(l[k].n,l[k].st)); omega,by rw[← h3,aP0 hk,if_pos h0]; rfl⟩,by simp only; omega,cK ⟨(by first | rfl | exact aL (by omega)),(by first | rfl | exact aL (by omega)),(by first | rfl | exact aL (by omega)),(by first | rfl | exact aL (by omega)),(by first | rfl | exact aL (by omega)),trivial⟩ rfl⟩
    ·
     simp only[bs] at hc6
     have h0:aPj u l[k]=false:=by simp_all[aPj,toList_inj]
     refine aN (hK7 _ (aB (aE aA 1 rfl ?_)))
     refine aG rfl (bO rfl rfl (by omega) (by omega)) ?_
     refine aE aA 1 rfl (aD ?_)
     exact⟨(k+1,out),⟨by omega,by omega,by rw[← h3,aP0 hk,if_neg (by rw[h0]; decide)]; rfl⟩,by simp only; omega,cK ⟨(by first | rfl | exact aL (by omega)),(by first | rfl | exact aL (by omega)),(by first | rfl | exact aL (by omega)),(by first | rfl | exact aL (by omega)),(by first | rfl | exact aL (by omega)),trivial⟩ rfl⟩
  ·
   simp only[bs] at hc1
   have hst:out=stM l u t:=by rw[← h3,aS0 (by omega)]; rfl
   refine aW (hK3 _ (aC (fun K9 hK9=>(aB (aE aA 2 rfl (aD (hK9 _ (aJ ?_))))))))
   refine⟨_,rfl,?_⟩
   show AV.sl 4 (out.map stC)=_
   rw[hst]
end Go.Proofs.YthapfogcaklbbaaGreat
set_option linter.unusedVariables false
set_option linter.unusedSimpArgs false
namespace Go.Proofs.YthapfogcaklbbaaGreat
open Go Go.Abs
end Go.Proofs.YthapfogcaklbbaaGreat
