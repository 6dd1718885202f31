import Derived.WalkKit
import Derived.WalkSpells
import Derived.WalkLawsBesides
import Derived.Deep.LoopGhost
import Derived.ChangeKeysEq
import Derived.Still
import Derived.Lib.AppendZeros
import Derived.Laws.StructEq
import Derived.OpenShut
import Derived.Scope
import Derived.Shelf.SlSortCmp.Kit1
import Derived.Shelf.SlSortCmp.InsertionK
import Derived.Lib.SlicesCompact
import Derived.ProofKit
import Derived.ChangeSame
import Derived.Carry
import Derived.SliceStrings
import Derived.ChangeMaps5
import Derived.Deep.Slices
import Derived.Test.YtckjaledibkghaaGreatRows
import Derived.Shelf.Abstract
import Derived.Deep.RegionLaw
import Derived.Lib.Walk
import Derived.Lib.Overlaps
import Derived.Lib.AppendZerosOnto
import Derived.Laws.CopyRow
import Derived.Test.YtckjaledibkghaaGreatK1
import Derived.Test.YtckjaledibkghaaGreatK2
import Derived.Test.YtckjaledibkghaaGreatK3
import Derived.Test.YtckjaledibkghaaGreatK4
import Derived.Test.YtckjaledibkghaaGreatK5
set_option maxRecDepth 20000
set_option maxHeartbeats 16000000
set_option linter.unusedVariables false
set_option linter.unusedSimpArgs false
namespace Go.Proofs.YtckjaledibkghaaGreat
open Go Go.Abs
theorem aLm (l:List Us) (hl:l.length≤9223372036854775807) (ht:∀ x∈l,TS x.1) :Den Tryz.prog 69 [.sl 2 (l.map usC),.fn 70 []]  (·=.s (.bool (oU cK l))):=by
 refine aS Tryz.func69 rfl (Nat.le_of_ble_eq_true rfl) (fun w0 A hf=>(aC (fun K1 hK1=>(aB (aE aA 1 rfl (aD (hK1 _ (aC (fun K2 hK2=>(aC (fun K3 hK3=>(aB (aE aA 3 rfl (aD (hK3 _ (aQ ?_))))))))))))))))
 refine bR (ι:=Nat) (fun k=>⟨38,[(0,.sl 2 (l.map usC)),(1,.fn 70 []),(7,.sl 2 (l.map usC)),(8,.s (.int .i64 (((l.map usC)).length:Nat))),(9,.s (.int .i64 (k:Nat)))],[]⟩) (fun k=>k≤l.length∧oU cK l=oC (fun x=>cT (cK x)) (nxK cK) (iK l k) (l.drop k)) (fun k=>l.length - k) 0 ?_ ?_ ?_
 · exact⟨Nat.zero_le _,rfl⟩
 · exact cN rfl
 ·
  rintro k hC
  obtain ⟨h1,h2⟩:=hC
  refine aC (fun K4 hK4=>(aB (aE aA 1 rfl (aD (hK4 _ (aC (fun K5 hK5=>(aL rfl (fun hc1=>?_) (fun hc1=>?_)))))))))
  ·
   simp only[bs] at hc1
   refine aM (hK5 _ (aC (fun K6 hK6=>(aQ (aC (fun K7 hK7=>(aB (aE aA 1 rfl ?_))))))))
   refine aG rfl (aY rfl rfl eF dG (by first | exact ixm (by omega) | assumption | exact⟨by decide,rfl⟩)) ?_
   refine aE aA 1 rfl (aX hf rfl rfl rfl lO (aE aA 1 rfl (aU hf rfl rfl dG rfl rfl (l1 rfl) (l4 rfl) rfl (bO (mB (nee 6) (sl':=[(0,_),(1,_),(5,_),(6,_),(7,_),(8,_),(9,_)]) (m':=[]) ⟨⟨_,rfl,rfl⟩,⟨_,rfl,rfl⟩,⟨_,rfl,rfl⟩,⟨_,rfl,rfl⟩,⟨_,rfl,rfl⟩,⟨_,rfl,rfl⟩,⟨_,rfl,rfl⟩,trivial⟩ rfl) (aD (hK7 _ (aC (fun K8 hK8=>(cM hf bE (by kernel_rfl) rfl (aT aA 2 rfl (aZ [(14,_),(15,_)] rfl rfl ⟨⟨rfl,rfl⟩,⟨rfl,rfl⟩,trivial⟩ rfl (aK rfl rfl uZ rfl (uV l[k])) (aZ [(16,_)] rfl rfl ⟨⟨rfl,rfl⟩,trivial⟩ rfl (aK rfl rfl kF rfl (Nm.right_den _ (ht _ (List.getElem_mem _)))) ?_))))))))))))
   refine aT aA 2 rfl (dP 19 false rfl (fun hg2=>?_) (fun hg2=>?_))
   ·
    simp only[bs] at hg2
    refine aT aA 3 rfl (dP 22 true rfl (fun hg3=>?_) (fun hg3=>?_))
    ·
     simp only[bs] at hg3
     refine aT aA 3 rfl ?_
     refine bL [(25,_)] rfl rfl ⟨⟨rfl,rfl⟩,trivial⟩ rfl (fB rfl rfl (by omega) (by omega)) ?_
     refine bL [(24,_),(26,_)] rfl rfl ⟨⟨rfl,rfl⟩,⟨rfl,rfl⟩,trivial⟩ rfl (aY rfl rfl eF dG (iB (k:=k - 1) (by omega) (by omega))) (aT aA 1 rfl (aZ [(23,_),(28,_)] rfl rfl ⟨⟨rfl,rfl⟩,⟨rfl,rfl⟩,trivial⟩ rfl (aK rfl rfl uZ rfl (uV l[k - 1])) (aT aA 2 rfl (aZ [(30,_),(31,_)] rfl rfl ⟨⟨rfl,rfl⟩,⟨rfl,rfl⟩,trivial⟩ rfl (aK rfl rfl uZ rfl (uV l[k])) (aZ [(29,_),(32,_)] rfl rfl ⟨⟨rfl,rfl⟩,⟨rfl,rfl⟩,trivial⟩ rfl (aK rfl rfl nY rfl (Nm.cmp_den _ _)) (aT aA 3 rfl ?_))))))
     refine cP [0,1,7,8,9,36] rfl rfl rfl (hK8 _ (aL rfl (fun hc4=>?_) (fun hc4=>?_)))
     ·
      simp only[bs] at hc4
      refine aC (fun K9 hK9=>(aB (aE aA 1 rfl (aD (hK9 _ (aI ?_))))))
      refine⟨_,rfl,?_⟩
      refine aP ?_
      rw[fO h2 (by omega) (by omega) (show nxK cK l[k - 1] l[k]=false from by simp only[nxK,decide_eq_false_iff_not]; show ¬ dN (l[k - 1]).1 (l[k]).1<0; omega)]
     ·
      simp only[bs] at hc4
      refine aM (hK6 _ (aB ?_))
      refine aG rfl (bN rfl rfl (by omega) (by omega)) ?_
      refine aE aA 1 rfl (aD ?_)
      exact⟨k+1,⟨by omega,gB h2 (by omega) (show cT (cK l[k])=true from by simp_all) (fun h0=>by simp only[nxK,decide_eq_true_eq]; show dN (l[k - 1]).1 (l[k]).1<0; omega)⟩,by omega,cN rfl⟩
    ·
     simp only[bs] at hg3
     refine aT aA 14 rfl (cP [0,1,7,8,9,36] rfl rfl rfl (hK8 _ (bG rfl (aM (hK6 _ (aB ?_))))))
     refine aG rfl (bN rfl rfl (by omega) (by omega)) ?_
     refine aE aA 1 rfl (aD ?_)
     exact⟨k+1,⟨by omega,gB h2 (by omega) (show cT (cK l[k])=true from by simp_all) (fun h0=>by simp only[nxK,decide_eq_true_eq]; show dN (l[k - 1]).1 (l[k]).1<0; omega)⟩,by omega,cN rfl⟩
   ·
    simp only[bs] at hg2
    refine aT aA 3 rfl (bC rfl rfl ?_)
    refine bC rfl rfl ?_
    refine bC rfl rfl ?_
    refine bC rfl rfl ?_
    refine bC rfl rfl ?_
    refine bC rfl rfl ?_
    refine bC rfl rfl ?_
    refine bC rfl rfl ?_
    refine bC rfl rfl ?_
    refine bC rfl rfl ?_
    refine bC rfl rfl ?_
    refine bC rfl rfl ?_
    refine aT aA 2 rfl (cP [0,1,7,8,9,36] rfl rfl rfl (hK8 _ (bM rfl (aC (fun K10 hK10=>(aB (aE aA 1 rfl (aD (hK10 _ (aI ?_))))))))))
    refine⟨_,rfl,?_⟩
    refine aP ?_
    rw[fA h2 (by omega) (show cT (cK l[k])=false from by simp_all)]
  ·
   simp only[bs] at hc1
   refine bB (hK2 _ (aC (fun K11 hK11=>(aB (aE aA 1 rfl (aD (hK11 _ (aI ?_))))))))
   refine⟨_,rfl,?_⟩
   refine aP ?_
   rw[pP h2 (by omega)]
theorem aLt (l:List Tm) (hl:l.length≤9223372036854775807) (ht:∀ x∈l,TS x.1) :Den Tryz.prog 74 [.sl 2 (l.map tmC),.fn 75 []]  (·=.s (.bool (oU cW l))):=by
 refine aS Tryz.func74 rfl (Nat.le_of_ble_eq_true rfl) (fun w0 A hf=>(aC (fun K1 hK1=>(aB (aE aA 1 rfl (aD (hK1 _ (aC (fun K2 hK2=>(aC (fun K3 hK3=>(aB (aE aA 3 rfl (aD (hK3 _ (aQ ?_))))))))))))))))
 refine bR (ι:=Nat) (fun k=>⟨38,[(0,.sl 2 (l.map tmC)),(1,.fn 75 []),(7,.sl 2 (l.map tmC)),(8,.s (.int .i64 (((l.map tmC)).length:Nat))),(9,.s (.int .i64 (k:Nat)))],[]⟩) (fun k=>k≤l.length∧oU cW l=oC (fun x=>cT (cW x)) (nxK cW) (iK l k) (l.drop k)) (fun k=>l.length - k) 0 ?_ ?_ ?_
 · exact⟨Nat.zero_le _,rfl⟩
 · exact cN rfl
 ·
  rintro k hC
  obtain ⟨h1,h2⟩:=hC
  refine aC (fun K4 hK4=>(aB (aE aA 1 rfl (aD (hK4 _ (aC (fun K5 hK5=>(aL rfl (fun hc1=>?_) (fun hc1=>?_)))))))))
  ·
   simp only[bs] at hc1
   refine aM (hK5 _ (aC (fun K6 hK6=>(aQ (aC (fun K7 hK7=>(aB (aE aA 1 rfl ?_))))))))
   refine aG rfl (aY rfl rfl gW fT (by first | exact ixm (by omega) | assumption | exact⟨by decide,rfl⟩)) ?_
   refine aE aA 1 rfl (aX hf rfl rfl rfl wQ (aE aA 1 rfl (aU hf rfl rfl fT rfl rfl (l1 rfl) (l4 rfl) rfl (bO (mB (nee 6) (sl':=[(0,_),(1,_),(5,_),(6,_),(7,_),(8,_),(9,_)]) (m':=[]) ⟨⟨_,rfl,rfl⟩,⟨_,rfl,rfl⟩,⟨_,rfl,rfl⟩,⟨_,rfl,rfl⟩,⟨_,rfl,rfl⟩,⟨_,rfl,rfl⟩,⟨_,rfl,rfl⟩,trivial⟩ rfl) (aD (hK7 _ (aC (fun K8 hK8=>(cM hf bE (by kernel_rfl) rfl (aT aA 2 rfl (aZ [(14,_),(15,_)] rfl rfl ⟨⟨rfl,rfl⟩,⟨rfl,rfl⟩,trivial⟩ rfl (aK rfl rfl uY rfl (uB l[k])) (aZ [(16,_)] rfl rfl ⟨⟨rfl,rfl⟩,trivial⟩ rfl (aK rfl rfl kF rfl (Nm.right_den _ (ht _ (List.getElem_mem _)))) ?_))))))))))))
   refine aT aA 2 rfl (dP 19 false rfl (fun hg2=>?_) (fun hg2=>?_))
   ·
    simp only[bs] at hg2
    refine aT aA 3 rfl (dP 22 true rfl (fun hg3=>?_) (fun hg3=>?_))
    ·
     simp only[bs] at hg3
     refine aT aA 3 rfl ?_
     refine bL [(25,_)] rfl rfl ⟨⟨rfl,rfl⟩,trivial⟩ rfl (fB rfl rfl (by omega) (by omega)) ?_
     refine bL [(24,_),(26,_)] rfl rfl ⟨⟨rfl,rfl⟩,⟨rfl,rfl⟩,trivial⟩ rfl (aY rfl rfl gW fT (iB (k:=k - 1) (by omega) (by omega))) (aT aA 1 rfl (aZ [(23,_),(28,_)] rfl rfl ⟨⟨rfl,rfl⟩,⟨rfl,rfl⟩,trivial⟩ rfl (aK rfl rfl uY rfl (uB l[k - 1])) (aT aA 2 rfl (aZ [(30,_),(31,_)] rfl rfl ⟨⟨rfl,rfl⟩,⟨rfl,rfl⟩,trivial⟩ rfl (aK rfl rfl uY rfl (uB l[k])) (aZ [(29,_),(32,_)] rfl rfl ⟨⟨rfl,rfl⟩,⟨rfl,rfl⟩,trivial⟩ rfl (aK rfl rfl nY rfl (Nm.cmp_den _ _)) (aT aA 3 rfl ?_))))))
     refine cP [0,1,7,8,9,36] rfl rfl rfl (hK8 _ (aL rfl (fun hc4=>?_) (fun hc4=>?_)))
     ·
      simp only[bs] at hc4
      refine aC (fun K9 hK9=>(aB (aE aA 1 rfl (aD (hK9 _ (aI ?_))))))
      refine⟨_,rfl,?_⟩
      refine aP ?_
      rw[fO h2 (by omega) (by omega) (show nxK cW l[k - 1] l[k]=false from by simp only[nxK,decide_eq_false_iff_not]; show ¬ dN (l[k - 1]).1 (l[k]).1<0; omega)]
     ·
      simp only[bs] at hc4
      refine aM (hK6 _ (aB ?_))
      refine aG rfl (bN rfl rfl (by omega) (by omega)) ?_
      refine aE aA 1 rfl (aD ?_)
      exact⟨k+1,⟨by omega,gB h2 (by omega) (show cT (cW l[k])=true from by simp_all) (fun h0=>by simp only[nxK,decide_eq_true_eq]; show dN (l[k - 1]).1 (l[k]).1<0; omega)⟩,by omega,cN rfl⟩
    ·
     simp only[bs] at hg3
     refine aT aA 14 rfl (cP [0,1,7,8,9,36] rfl rfl rfl (hK8 _ (bG rfl (aM (hK6 _ (aB ?_))))))
     refine aG rfl (bN rfl rfl (by omega) (by omega)) ?_
     refine aE aA 1 rfl (aD ?_)
     exact⟨k+1,⟨by omega,gB h2 (by omega) (show cT (cW l[k])=true from by simp_all) (fun h0=>by simp only[nxK,decide_eq_true_eq]; show dN (l[k - 1]).1 (l[k]).1<0; omega)⟩,by omega,cN rfl⟩
   ·
    simp only[bs] at hg2
    refine aT aA 3 rfl (bC rfl rfl ?_)
    refine bC rfl rfl ?_
    refine bC rfl rfl ?_
    refine bC rfl rfl ?_
    refine bC rfl rfl ?_
    refine bC rfl rfl ?_
    refine bC rfl rfl ?_
    refine bC rfl rfl ?_
    refine bC rfl rfl ?_
    refine bC rfl rfl ?_
    refine bC rfl rfl ?_
    refine bC rfl rfl ?_
    refine aT aA 2 rfl (cP [0,1,7,8,9,36] rfl rfl rfl (hK8 _ (bM rfl (aC (fun K10 hK10=>(aB (aE aA 1 rfl (aD (hK10 _ (aI ?_))))))))))
    refine⟨_,rfl,?_⟩
    refine aP ?_
    rw[fA h2 (by omega) (show cT (cW l[k])=false from by simp_all)]
  ·
   simp only[bs] at hc1
   refine bB (hK2 _ (aC (fun K11 hK11=>(aB (aE aA 1 rfl (aD (hK11 _ (aI ?_))))))))
   refine⟨_,rfl,?_⟩
   refine aP ?_
   rw[pP h2 (by omega)]
theorem aL7 (s:Sta) (h1:s.opn.length≤9223372036854775807) (h2:s.usr.length≤9223372036854775807) (h3:s.sub.length≤9223372036854775807) (h4:s.tmb.length≤9223372036854775807) (h5:∀ x∈s.usr,x.2.length≤9223372036854775807) (t1:∀ e∈s.opn,TS e.1.2) (t2:∀ x∈s.usr,TS x.1) (t3:∀ e∈s.sub,TS e.1.1∧TS e.1.2) (t4:∀ x∈s.tmb,TS x.1) :Den Tryz.prog 20 [.agg (aO s)]  (·=.s (.bool (gC s))):=by
 refine aS Tryz.func20 rfl (Nat.le_of_ble_eq_true rfl) (fun w0 A hf=>(aC (fun K1 hK1=>(aB (aJ hf rfl (cI rfl rfl (lf rfl)) (aE aA 1 rfl (aD (hK1 _ (aC (fun K2 hK2=>(aB (aG rfl (eW rfl) (aE aA 1 rfl (aD (hK2 _ ?_)))))))))))))))
 refine aC (fun K3 hK3=>(aB (aG rfl (eW rfl) (bV hf rfl aUt rfl aU3 rfl rfl rfl rfl (lf rfl) (aD (hK3 _ (aC (fun K4 hK4=>(aB (aG rfl (eW rfl) (aE aA 1 rfl (aD (hK4 _ (aC (fun K5 hK5=>?_)))))))))))))))
 refine aB (aG rfl (eW rfl) (aE aA 1 rfl (aD (hK5 _ (aC (fun K6 hK6=>(aB (aG rfl (eW rfl) (aE aA 1 rfl (aD (hK6 _ (aC (fun K7 hK7=>(aC (fun K8 hK8=>?_)))))))))))))))
 refine aB (aE aA 2 rfl (aJ hf rfl (aK rfl rfl pG rfl (lX _ _ _)) (aE aA 2 rfl (aW rfl rfl rfl (fun hg1=>?_) (fun hg1=>?_)))))
 ·
  simp only[bs] at hg1
  refine aG rfl (bF rfl aC8 bZ rfl) ?_
  refine aE aA 1 rfl (bI rfl rfl rfl (aJ hf rfl (aK rfl rfl pG rfl (lX _ _ _)) (aE aA 3 rfl (aW rfl rfl rfl (fun hg2=>?_) (fun hg2=>?_)))))
  ·
   simp only[bs] at hg2
   refine aG rfl (bF rfl qA jZ rfl) ?_
   refine aE aA 1 rfl (bI rfl rfl rfl (aJ hf rfl (aK rfl rfl aRq rfl (aJ4 s.opn (by omega) t1)) (aE aA 3 rfl (aW rfl rfl rfl (fun hg3=>?_) (fun hg3=>?_)))))
   ·
    simp only[bs] at hg3
    refine aG rfl (bF rfl qA jZ rfl) ?_
    refine aE aA 2 rfl (bI rfl rfl rfl (aJ hf rfl (aK rfl rfl aG5 rfl (yF aRy rfl (fun e=>decide (s.now<e.2.2)) s.opn h1 (fun e _=>aHr e s))) (aE aA 1 rfl (aD (hK8 _ (aL rfl (fun hc4=>?_) (fun hc4=>?_)))))))
    ·
     refine aC (fun K9 hK9=>(aB (aE aA 1 rfl (aD (hK9 _ (aI ?_))))))
     refine⟨_,rfl,?_⟩
     refine aP ?_
     unfold gC
     try simp only[mU,pN] at *
     generalize gI s.opn=b0 at *
     generalize s.opn.all (fun e=>decide (e.2.2≤s.now))=b1 at *
     generalize oU cK s.usr=b2 at *
     generalize s.usr.all (mN s)=b3 at *
     generalize sG s.sub=b4 at *
     generalize s.sub.all (kP s)=b5 at *
     generalize oU cW s.tmb=b6 at *
     generalize s.tmb.all (rO s)=b7 at *
     rw[Bool.eq_iff_iff]
     (simp_all; done)
    ·
     refine aM (hK7 _ (aC (fun K10 hK10=>(aC (fun K11 hK11=>(aB (aE aA 2 rfl (aJ hf rfl (aK rfl rfl aRp rfl (aLm s.usr h2 t2)) (aE aA 2 rfl (aW rfl rfl rfl (fun hg5=>?_) (fun hg5=>?_)))))))))))
     ·
      simp only[bs] at hg5
      refine aG rfl (bF rfl aC7 oT rfl) ?_
      refine aE aA 2 rfl (bI rfl rfl rfl (aJ hf rfl (aK rfl rfl aRo rfl (aHj aRv rfl (fun x=>!mN s x) s.usr h2 (fun x hx=>aHp x s h1 (h5 x hx)))) (aE aA 2 rfl (aW rfl rfl rfl (fun hg6=>?_) (fun hg6=>?_)))))
      ·
       refine aG rfl (bF rfl pZ kS rfl) ?_
       refine aE aA 1 rfl (bI rfl rfl rfl (aJ hf rfl (aK rfl rfl aRn rfl (aP7 s.sub h3 t3)) (aE aA 3 rfl (aW rfl rfl rfl (fun hg7=>?_) (fun hg7=>?_)))))
       ·
        simp only[bs] at hg7
        refine aG rfl (bF rfl pZ kS rfl) ?_
        refine aE aA 2 rfl (bI rfl rfl rfl (aJ hf rfl (aK rfl rfl aRm rfl (aIe aRs rfl (fun e=>!kP s e) s.sub h3 (fun e _=>aJ5 e s))) (aE aA 1 rfl (aD (hK11 _ (aL rfl (fun hc8=>?_) (fun hc8=>?_)))))))
        ·
         refine aC (fun K12 hK12=>(aB (aE aA 1 rfl (aD (hK12 _ (aI ?_))))))
         refine⟨_,rfl,?_⟩
         refine aP ?_
         unfold gC
         try simp only[mU,pN] at *
         generalize gI s.opn=b0 at *
         generalize s.opn.all (fun e=>decide (e.2.2≤s.now))=b1 at *
         generalize oU cK s.usr=b2 at *
         generalize s.usr.all (mN s)=b3 at *
         generalize sG s.sub=b4 at *
         generalize s.sub.all (kP s)=b5 at *
         generalize oU cW s.tmb=b6 at *
         generalize s.tmb.all (rO s)=b7 at *
         rw[Bool.eq_iff_iff]
         (simp_all; done)
        ·
         refine aM (hK10 _ (aC (fun K13 hK13=>(aB (aE aA 2 rfl (aJ hf rfl (aK rfl rfl aRl rfl (aLt s.tmb h4 t4)) (aE aA 1 rfl (aW rfl rfl rfl (fun hg9=>?_) (fun hg9=>?_)))))))))
         ·
          refine aG rfl (bF rfl wT sD rfl) ?_
          refine aE aA 2 rfl (bI rfl rfl rfl (aJ hf rfl (aK rfl rfl aRk rfl (aHk aRr rfl (fun x=>!rO s x) s.tmb h4 (fun x _=>aHq x s))) (aE aA 3 rfl (aD (hK13 _ (aI ?_))))))
          refine⟨_,rfl,?_⟩
          refine aP ?_
          unfold gC
          try simp only[mU,pN] at *
          generalize gI s.opn=b0 at *
          generalize s.opn.all (fun e=>decide (e.2.2≤s.now))=b1 at *
          generalize oU cK s.usr=b2 at *
          generalize s.usr.all (mN s)=b3 at *
          generalize sG s.sub=b4 at *
          generalize s.sub.all (kP s)=b5 at *
          generalize oU cW s.tmb=b6 at *
          generalize s.tmb.all (rO s)=b7 at *
          rw[Bool.eq_iff_iff]
          (cases b7 <;> simp_all <;> omega)
         ·
          simp only[bs] at hg9
          refine aE aA 6 rfl (aD (hK13 _ (aI ?_)))
          refine⟨_,rfl,?_⟩
          refine aP ?_
          unfold gC
          try simp only[mU,pN] at *
          generalize gI s.opn=b0 at *
          generalize s.opn.all (fun e=>decide (e.2.2≤s.now))=b1 at *
          generalize oU cK s.usr=b2 at *
          generalize s.usr.all (mN s)=b3 at *
          generalize sG s.sub=b4 at *
          generalize s.sub.all (kP s)=b5 at *
          generalize oU cW s.tmb=b6 at *
          generalize s.tmb.all (rO s)=b7 at *
          rw[Bool.eq_iff_iff]
          (simp_all; done)
       ·
        simp only[bs] at hg7
        refine aE aA 4 rfl (aD (hK11 _ (bM rfl (aC (fun K14 hK14=>(aB (aE aA 1 rfl (aD (hK14 _ (aI ?_))))))))))
        refine⟨_,rfl,?_⟩
        refine aP ?_
        unfold gC
        try simp only[mU,pN] at *
        generalize gI s.opn=b0 at *
        generalize s.opn.all (fun e=>decide (e.2.2≤s.now))=b1 at *
        generalize oU cK s.usr=b2 at *
        generalize s.usr.all (mN s)=b3 at *
        generalize sG s.sub=b4 at *
        generalize s.sub.all (kP s)=b5 at *
        generalize oU cW s.tmb=b6 at *
        generalize s.tmb.all (rO s)=b7 at *
        rw[Bool.eq_iff_iff]
        (simp_all; done)
      ·
       simp only[bs] at hg6
       refine aE aA 10 rfl (aD (hK11 _ (bM rfl (aC (fun K15 hK15=>(aB (aE aA 1 rfl (aD (hK15 _ (aI ?_))))))))))
       refine⟨_,rfl,?_⟩
       refine aP ?_
       unfold gC
       try simp only[mU,pN] at *
       generalize gI s.opn=b0 at *
       generalize s.opn.all (fun e=>decide (e.2.2≤s.now))=b1 at *
       generalize oU cK s.usr=b2 at *
       generalize s.usr.all (mN s)=b3 at *
       generalize sG s.sub=b4 at *
       generalize s.sub.all (kP s)=b5 at *
       generalize oU cW s.tmb=b6 at *
       generalize s.tmb.all (rO s)=b7 at *
       rw[Bool.eq_iff_iff]
       (simp_all; done)
     ·
      simp only[bs] at hg5
      refine aE aA 16 rfl (aD (hK11 _ (bM rfl (aC (fun K16 hK16=>(aB (aE aA 1 rfl (aD (hK16 _ (aI ?_))))))))))
      refine⟨_,rfl,?_⟩
      refine aP ?_
      unfold gC
      try simp only[mU,pN] at *
      generalize gI s.opn=b0 at *
      generalize s.opn.all (fun e=>decide (e.2.2≤s.now))=b1 at *
      generalize oU cK s.usr=b2 at *
      generalize s.usr.all (mN s)=b3 at *
      generalize sG s.sub=b4 at *
      generalize s.sub.all (kP s)=b5 at *
      generalize oU cW s.tmb=b6 at *
      generalize s.tmb.all (rO s)=b7 at *
      rw[Bool.eq_iff_iff]
      (simp_all; done)
   ·
    simp only[bs] at hg3
    refine aE aA 4 rfl (aD (hK8 _ (bM rfl (aC (fun K17 hK17=>(aB (aE aA 1 rfl (aD (hK17 _ (aI ?_))))))))))
    refine⟨_,rfl,?_⟩
    refine aP ?_
    unfold gC
    try simp only[mU,pN] at *
    generalize gI s.opn=b0 at *
    generalize s.opn.all (fun e=>decide (e.2.2≤s.now))=b1 at *
    generalize oU cK s.usr=b2 at *
    generalize s.usr.all (mN s)=b3 at *
    generalize sG s.sub=b4 at *
    generalize s.sub.all (kP s)=b5 at *
    generalize oU cW s.tmb=b6 at *
    generalize s.tmb.all (rO s)=b7 at *
    rw[Bool.eq_iff_iff]
    (simp_all; done)
  ·
   simp only[bs] at hg2
   refine aE aA 10 rfl (aD (hK8 _ (bM rfl (aC (fun K18 hK18=>(aB (aE aA 1 rfl (aD (hK18 _ (aI ?_))))))))))
   refine⟨_,rfl,?_⟩
   refine aP ?_
   unfold gC
   try simp only[mU,pN] at *
   generalize gI s.opn=b0 at *
   generalize s.opn.all (fun e=>decide (e.2.2≤s.now))=b1 at *
   generalize oU cK s.usr=b2 at *
   generalize s.usr.all (mN s)=b3 at *
   generalize sG s.sub=b4 at *
   generalize s.sub.all (kP s)=b5 at *
   generalize oU cW s.tmb=b6 at *
   generalize s.tmb.all (rO s)=b7 at *
   rw[Bool.eq_iff_iff]
   (simp_all; omega)
 ·
  simp only[bs] at hg1
  refine aE aA 16 rfl (aD (hK8 _ (bM rfl (aC (fun K19 hK19=>(aB (aE aA 1 rfl (aD (hK19 _ (aI ?_))))))))))
  refine⟨_,rfl,?_⟩
  refine aP ?_
  unfold gC
  try simp only[mU,pN] at *
  generalize gI s.opn=b0 at *
  generalize s.opn.all (fun e=>decide (e.2.2≤s.now))=b1 at *
  generalize oU cK s.usr=b2 at *
  generalize s.usr.all (mN s)=b3 at *
  generalize sG s.sub=b4 at *
  generalize s.sub.all (kP s)=b5 at *
  generalize oU cW s.tmb=b6 at *
  generalize s.tmb.all (rO s)=b7 at *
  rw[Bool.eq_iff_iff]
  (simp_all; omega)
end Go.Proofs.YtckjaledibkghaaGreat
set_option linter.unusedVariables false
set_option linter.unusedSimpArgs false
namespace Go.Proofs.YtckjaledibkghaaGreat
open Go Go.Abs
theorem aIu (s:Sta) (u:ByteArray) (hl:s.usr.length≤9223372036854775807) :Den Tryz.prog 95 [.agg (aO s),.s (.string u)]  (·=.sl 4 ((ofU s.usr u).map stC)):=by
 refine aS Tryz.func95 rfl (Nat.le_of_ble_eq_true rfl) (fun w0 A hf=>(aC (fun K1 hK1=>(aB (aJ hf rfl (cI rfl rfl (lf rfl)) (aG rfl (bQ) (aD (hK1 _ (aC (fun K2 hK2=>(aC (fun K3 hK3=>(aB (aE aA 1 rfl (aD (hK3 _ ?_))))))))))))))))
 refine aQ (bR (ι:=Nat) (fun k=>⟨27,[(1,.s (.string u)),(2,.adr (aO s)),(5,.s (.int .i64 (k:Nat)))],[]⟩) (fun k=>k≤s.usr.length∧∀ (j:Nat) (hj:j<s.usr.length),j<k→isK cK u s.usr[j]=false) (fun k=>s.usr.length - k) 0 ?_ ?_ ?_)
 · exact⟨Nat.zero_le _,by omega⟩
 · exact cN rfl
 ·
  rintro k hC
  obtain ⟨h1,h2⟩:=hC
  refine aC (fun K4 hK4=>(aC (fun K5 hK5=>(aB (aE aA 5 rfl (aD (hK5 _ (aL rfl (fun hc1=>?_) (fun hc1=>?_)))))))))
  ·
   simp only[bs] at hc1
   refine aM (hK4 _ (aC (fun K6 hK6=>(aQ (aC (fun K7 hK7=>(aB (aE aA 3 rfl ?_))))))))
   refine aG rfl (aY rfl rfl dW dO (by first | exact ixm (by omega) | assumption | exact⟨by decide,rfl⟩)) ?_
   refine aE aA 4 rfl (aD (hK7 _ (aL rfl (fun hc2=>?_) (fun hc2=>?_))))
   ·
    simp only[bs] at hc2
    refine aC (fun K8 hK8=>(aB (aE aA 3 rfl ?_)))
    refine aG rfl (aY rfl rfl dW dO (by first | exact ixm (by omega) | assumption | exact⟨by decide,rfl⟩)) ?_
    refine aE aA 3 rfl (aD (hK8 _ (aI ?_)))
    refine⟨_,rfl,?_⟩
    rw[aTw (by omega) h2 (by simp_all[toList_inj])]; rfl
   ·
    simp only[bs] at hc2
    refine aM (hK6 _ (aB (aE aA 1 rfl ?_)))
    refine aG rfl (bN rfl rfl (by omega) (by omega)) ?_
    refine aE aA 1 rfl (aD ?_)
    exact⟨k+1,⟨by omega,kT h2 (by omega) (by simp_all[isK,toList_inj])⟩,by omega,cN rfl⟩
  ·
   simp only[bs] at hc1
   refine bB (hK2 _ (aC (fun K9 hK9=>(aB (aG rfl (rL (k:=4)) (aD (hK9 _ (aI ?_))))))))
   refine⟨_,rfl,?_⟩
   rw[ofU_no fun j hj=>h2 j hj (by omega)]; rfl
theorem aQb (l:List Us) (u:ByteArray) (ys:List bS) (hl:l.length*40+40≤140737488355328) (hu:TS u) (ht:∀ x∈l,TS x.1) :Den Tryz.prog 52 [.sl 2 (l.map usC),.s (.string u),.sl 4 (ys.map stC)]  (·=.sl 2 ((kB cK u (u,ys) (decide (ys=[])) l).map usC)):=by
 refine aS Tryz.func52 rfl (Nat.le_of_ble_eq_true rfl) (fun w0 A hf=>(aC (fun K1 hK1=>(aB (aG rfl (bQ) (aD (hK1 _ (aC (fun K2 hK2=>(aB (lD hf 2 rfl rfl rfl (aD (hK2 _ (aC (fun K3 hK3=>(aB ?_))))))))))))))))
 refine aE aA 4 rfl (aD (hK3 _ (aC (fun K4 hK4=>(aC (fun K5 hK5=>(aB (aE aA 1 rfl (aD (hK5 _ (aQ (bR (ι:=Nat×Bool×List Us) (fun(⟨k,d,out⟩:Nat×Bool×List Us)=>⟨77,[(0,.sl 2 (l.map usC)),(1,.s (.string u)),(2,.sl 4 (ys.map stC)),(7,.own 7 2 0 out.length),(8,.s (.bool d)),(9,.s (.int .i64 (k:Nat)))],[(7,.buf 2 (out.map usC))]⟩) (fun(⟨k,d,out⟩:Nat×Bool×List Us)=>k≤l.length∧kB cK u (u,ys) (decide (ys=[])) l=out++kB cK u (u,ys) d (l.drop k)∧out.length≤k+d.toNat) (fun(⟨k,d,out⟩:Nat×Bool×List Us)=>l.length - k) (0,(decide (ys=[])),[]) ?_ ?_ ?_))))))))))))
 · exact⟨Nat.zero_le _,rfl,Nat.zero_le _⟩
 · exact cJ ⟨rfl,rfl,rfl,rfl,(by show some (AV.s (.bool ((((ys.map stC).length:Nat):Int) == 0)))=_; rw[len_nil]),rfl,trivial⟩ rfl
 ·
  rintro ⟨k,d,out⟩ hC
  obtain ⟨h1,h2,h3⟩:=hC
  have hdn:d.toNat≤1:=Bool.toNat_le d
  refine aC (fun K6 hK6=>(aC (fun K7 hK7=>(aB (aE aA 4 rfl (aD (hK7 _ (aL rfl (fun hc1=>?_) (fun hc1=>?_)))))))))
  ·
   simp only[bs] at hc1
   refine aM (hK6 _ (aC (fun K8 hK8=>(aQ (aC (fun K9 hK9=>(aC (fun K10 hK10=>(aB (aE aA 3 rfl (aW rfl rfl rfl (fun hg2=>?_) (fun hg2=>?_))))))))))))
   ·
    simp only[bs] at hg2
    refine aG rfl (gJ rfl) (aE aA 2 rfl (bI rfl rfl rfl ?_))
    refine aG rfl (aY rfl rfl dW dO (by first | exact ixm (by omega) | assumption | exact⟨by decide,rfl⟩)) ?_
    refine aE aA 2 rfl (bI rfl rfl rfl (aJ hf rfl (aK rfl rfl pI rfl (Nm.refCmp_den u _ hu (ht _ (List.getElem_mem (by omega))))) (aE aA 2 rfl (aD (hK10 _ (aL rfl (fun hc3=>?_) (fun hc3=>?_)))))))
    ·
     simp only[bs] at hc3
     try (have hd:d=false:=by simp_all)
     try subst hd
     simp only[Bool.toNat_false,Nat.add_zero] at h3
     refine aC (fun K11 hK11=>(aB (aE aA 3 rfl (aG rfl (cB rfl pY qV (l3 rfl) rfl) (aJ hf rfl (bD eB rfl rfl rfl rfl (l2 rfl)) (cA hf rfl eB rfl rfl rfl (.inl rfl) (by simp only[List.length_append,List.length_map,List.length_cons,List.length_nil]) rfl (by first | rfl | simp [eV,bU]) (by first | (simp only[maxLen,List.length_map,List.length_append,List.length_cons,List.length_nil]; omega) | (simp [maxLen] <;> omega)) (by first | (simp only[List.length_map,List.length_append,List.length_cons,List.length_nil]; omega) | (simp <;> omega)) ?_))))))
     refine bO (eR [0,1,2,9,36] rfl) (aE aA 1 rfl (aD (hK11 _ (aB (aE aA 1 rfl (aD (hK9 _ (aC (fun K12 hK12=>(aB (aE aA 2 rfl ?_)))))))))))
     refine aG rfl (aY rfl rfl dW dO (by first | exact ixm (by omega) | assumption | exact⟨by decide,rfl⟩)) ?_
     refine aE aA 5 rfl (aW rfl rfl rfl (fun hg4=>?_) (fun hg4=>?_))
     ·
      simp only[bs] at hg4
      refine aG rfl (gJ rfl) (aE aA 2 rfl (aD (hK12 _ (bG rfl (aC (fun K13 hK13=>(aB (aE aA 2 rfl ?_))))))))
      refine aG rfl (aY rfl rfl dW dO (by first | exact ixm (by omega) | assumption | exact⟨by decide,rfl⟩)) ?_
      refine aE aA 4 rfl (aD (hK13 _ (aL rfl (fun hc6=>?_) (fun hc6=>?_))))
      ·
       simp only[bs] at hc6
       refine aB (aE aA 3 rfl ?_)
       refine aG rfl (aY rfl rfl dW dO (by first | exact ixm (by omega) | assumption | exact⟨by decide,rfl⟩)) ?_
       refine aE aA 1 rfl (aJ hf rfl (bD eB rfl rfl rfl rfl (l2 rfl)) (cA hf rfl eB rfl rfl rfl (.inl rfl) (by simp only[List.length_append,List.length_map,List.length_cons,List.length_nil]) rfl (by first | rfl | simp [eV,bU]) (by first | (simp only[maxLen,List.length_map,List.length_append,List.length_cons,List.length_nil]; omega) | (simp [maxLen] <;> omega)) (by first | (simp only[List.length_map,List.length_append,List.length_cons,List.length_nil]; omega) | (simp <;> omega)) ?_))
       refine bO (eR [0,1,2,8,9,67] rfl) (aE aA 1 rfl ?_)
       refine bK ?_
       refine hK8 _ (aB (aE aA 1 rfl ?_))
       refine aG rfl (bN rfl rfl (by omega) (by omega)) ?_
       refine aE aA 1 rfl (aD ?_)
       contradiction
      ·
       simp only[bs] at hc6
       refine aM (hK8 _ (aB (aE aA 1 rfl ?_)))
       refine aG rfl (bN rfl rfl (by omega) (by omega)) ?_
       refine aE aA 1 rfl (aD ?_)
       exact⟨(k+1,true,out++[(u,ys)]),⟨by omega,aQo h2 (by assumption) (toList_inj.1 (by assumption)),by simp only[List.length_append,List.length_cons,List.length_nil,Bool.toNat_true,Bool.toNat_false]; omega⟩,by simp only; omega,cJ ⟨rfl,rfl,rfl,(by first | rfl | (simp only[List.length_append]; rfl)),rfl,rfl,trivial⟩ (by simp only[List.map_append]; rfl)⟩
     ·
      simp only[bs] at hg4
      refine aE aA 2 rfl (aD (hK12 _ (bG rfl (aC (fun K14 hK14=>(aB (aE aA 2 rfl ?_)))))))
      refine aG rfl (aY rfl rfl dW dO (by first | exact ixm (by omega) | assumption | exact⟨by decide,rfl⟩)) ?_
      refine aE aA 4 rfl (aD (hK14 _ (aL rfl (fun hc8=>?_) (fun hc8=>?_))))
      ·
       simp only[bs] at hc8
       refine aB (aE aA 3 rfl ?_)
       refine aG rfl (aY rfl rfl dW dO (by first | exact ixm (by omega) | assumption | exact⟨by decide,rfl⟩)) ?_
       refine aE aA 1 rfl (aJ hf rfl (bD eB rfl rfl rfl rfl (l2 rfl)) (cA hf rfl eB rfl rfl rfl (.inl rfl) (by simp only[List.length_append,List.length_map,List.length_cons,List.length_nil]) rfl (by first | rfl | simp [eV,bU]) (by first | (simp only[maxLen,List.length_map,List.length_append,List.length_cons,List.length_nil]; omega) | (simp [maxLen] <;> omega)) (by first | (simp only[List.length_map,List.length_append,List.length_cons,List.length_nil]; omega) | (simp <;> omega)) ?_))
       refine bO (eR [0,1,2,8,9,67] rfl) (aE aA 1 rfl ?_)
       refine bK ?_
       refine hK8 _ (aB (aE aA 1 rfl ?_))
       refine aG rfl (bN rfl rfl (by omega) (by omega)) ?_
       refine aE aA 1 rfl (aD ?_)
       exact⟨(k+1,true,out++[(u,ys)]++[l[k]]),⟨by omega,aVw h2 (by assumption) (by first | assumption | (have hne:u≠l[k].1:=fun e=>(by assumption:¬ _=_) (by rw[e]); have hq:dN u l[k].1≠0:=(fun e=>hne ((mD _ _).1 e)); show dN u l[k].1<0; omega)),by simp only[List.length_append,List.length_cons,List.length_nil,Bool.toNat_true,Bool.toNat_false]; omega⟩,by simp only; omega,cJ ⟨rfl,rfl,rfl,(by first | rfl | (simp only[List.length_append]; rfl)),rfl,rfl,trivial⟩ (by simp only[List.map_append]; rfl)⟩
      ·
       simp only[bs] at hc8
       refine aM (hK8 _ (aB (aE aA 1 rfl ?_)))
       refine aG rfl (bN rfl rfl (by omega) (by omega)) ?_
       refine aE aA 1 rfl (aD ?_)
       contradiction
    ·
     simp only[bs] at hc3
     try (have hd:d=false:=by simp_all)
     try subst hd
     simp only[Bool.toNat_false,Nat.add_zero] at h3
     refine aM (hK9 _ (aC (fun K15 hK15=>(aB (aE aA 2 rfl ?_)))))
     refine aG rfl (aY rfl rfl dW dO (by first | exact ixm (by omega) | assumption | exact⟨by decide,rfl⟩)) ?_
     refine aE aA 5 rfl (aW rfl rfl rfl (fun hg9=>?_) (fun hg9=>?_))
     ·
      simp only[bs] at hg9
      refine aG rfl (gJ rfl) (aE aA 2 rfl (aD (hK15 _ (aL rfl (fun hc10=>?_) (fun hc10=>?_)))))
      ·
       simp only[bs] at hc10
       try (have hd:d=false:=by simp_all)
       try subst hd
       refine aC (fun K16 hK16=>(aB (aE aA 3 rfl (aG rfl (cB rfl pY qV (l3 rfl) rfl) (aJ hf rfl (bD eB rfl rfl rfl rfl (l2 rfl)) (cA hf rfl eB rfl rfl rfl (.inl rfl) (by simp only[List.length_append,List.length_map,List.length_cons,List.length_nil]) rfl (by first | rfl | simp [eV,bU]) (by first | (simp only[maxLen,List.length_map,List.length_append,List.length_cons,List.length_nil]; omega) | (simp [maxLen] <;> omega)) (by first | (simp only[List.length_map,List.length_append,List.length_cons,List.length_nil]; omega) | (simp <;> omega)) ?_))))))
       refine bO (eR [0,1,2,9,53] rfl) (aE aA 1 rfl (aD (hK16 _ (aB (aE aA 1 rfl ?_)))))
       refine bK ?_
       refine hK8 _ (aB (aE aA 1 rfl ?_))
       refine aG rfl (bN rfl rfl (by omega) (by omega)) ?_
       refine aE aA 1 rfl (aD ?_)
       exact⟨(k+1,true,out++[(u,ys)]),⟨by omega,aQo h2 (by assumption) (toList_inj.1 (by assumption)),by simp only[List.length_append,List.length_cons,List.length_nil,Bool.toNat_true,Bool.toNat_false]; omega⟩,by simp only; omega,cJ ⟨rfl,rfl,rfl,(by first | rfl | (simp only[List.length_append]; rfl)),rfl,rfl,trivial⟩ (by simp only[List.map_append]; rfl)⟩
      ·
       simp only[bs] at hc10
       refine aC (fun K17 hK17=>(aB (aE aA 2 rfl ?_)))
       refine aG rfl (aY rfl rfl dW dO (by first | exact ixm (by omega) | assumption | exact⟨by decide,rfl⟩)) ?_
       refine aE aA 4 rfl (aD (hK17 _ (aL rfl (fun hc11=>?_) (fun hc11=>?_))))
       ·
        simp only[bs] at hc11
        refine aB (aE aA 3 rfl ?_)
        refine aG rfl (aY rfl rfl dW dO (by first | exact ixm (by omega) | assumption | exact⟨by decide,rfl⟩)) ?_
        refine aE aA 1 rfl (aJ hf rfl (bD eB rfl rfl rfl rfl (l2 rfl)) (cA hf rfl eB rfl rfl rfl (.inl rfl) (by simp only[List.length_append,List.length_map,List.length_cons,List.length_nil]) rfl (by first | rfl | simp [eV,bU]) (by first | (simp only[maxLen,List.length_map,List.length_append,List.length_cons,List.length_nil]; omega) | (simp [maxLen] <;> omega)) (by first | (simp only[List.length_map,List.length_append,List.length_cons,List.length_nil]; omega) | (simp <;> omega)) ?_))
        refine bO (eR [0,1,2,8,9,67] rfl) (aE aA 1 rfl ?_)
        refine bK ?_
        refine hK8 _ (aB (aE aA 1 rfl ?_))
        refine aG rfl (bN rfl rfl (by omega) (by omega)) ?_
        refine aE aA 1 rfl (aD ?_)
        contradiction
       ·
        simp only[bs] at hc11
        refine aM (hK8 _ (aB (aE aA 1 rfl ?_)))
        refine aG rfl (bN rfl rfl (by omega) (by omega)) ?_
        refine aE aA 1 rfl (aD ?_)
        contradiction
     ·
      simp only[bs] at hg9
      refine aE aA 2 rfl (aD (hK15 _ (bG rfl (aC (fun K18 hK18=>(aB (aE aA 2 rfl ?_)))))))
      refine aG rfl (aY rfl rfl dW dO (by first | exact ixm (by omega) | assumption | exact⟨by decide,rfl⟩)) ?_
      refine aE aA 4 rfl (aD (hK18 _ (aL rfl (fun hc13=>?_) (fun hc13=>?_))))
      ·
       simp only[bs] at hc13
       refine aB (aE aA 3 rfl ?_)
       refine aG rfl (aY rfl rfl dW dO (by first | exact ixm (by omega) | assumption | exact⟨by decide,rfl⟩)) ?_
       refine aE aA 1 rfl (aJ hf rfl (bD eB rfl rfl rfl rfl (l2 rfl)) (cA hf rfl eB rfl rfl rfl (.inl rfl) (by simp only[List.length_append,List.length_map,List.length_cons,List.length_nil]) rfl (by first | rfl | simp [eV,bU]) (by first | (simp only[maxLen,List.length_map,List.length_append,List.length_cons,List.length_nil]; omega) | (simp [maxLen] <;> omega)) (by first | (simp only[List.length_map,List.length_append,List.length_cons,List.length_nil]; omega) | (simp <;> omega)) ?_))
       refine bO (eR [0,1,2,8,9,67] rfl) (aE aA 1 rfl ?_)
       refine bK ?_
       refine hK8 _ (aB (aE aA 1 rfl ?_))
       refine aG rfl (bN rfl rfl (by omega) (by omega)) ?_
       refine aE aA 1 rfl (aD ?_)
       exact⟨(k+1,false,out++[l[k]]),⟨by omega,aAy h2 (by assumption) (fun e=>(by assumption:¬ _=_) (by show l[k].1.toList=_; rw[show l[k].1=u from e])) (fun e=>by show ¬ dN u l[k].1<0; omega),by simp only[List.length_append,List.length_cons,List.length_nil,Bool.toNat_true,Bool.toNat_false]; omega⟩,by simp only; omega,cJ ⟨rfl,rfl,rfl,(by first | rfl | (simp only[List.length_append]; rfl)),rfl,rfl,trivial⟩ (by simp only[List.map_append]; rfl)⟩
      ·
       simp only[bs] at hc13
       refine aM (hK8 _ (aB (aE aA 1 rfl ?_)))
       refine aG rfl (bN rfl rfl (by omega) (by omega)) ?_
       refine aE aA 1 rfl (aD ?_)
       contradiction
   ·
    simp only[bs] at hg2
    refine aE aA 8 rfl (aD (hK10 _ (bG rfl (aM (hK9 _ (aC (fun K19 hK19=>(aB (aE aA 2 rfl ?_)))))))))
    refine aG rfl (aY rfl rfl dW dO (by first | exact ixm (by omega) | assumption | exact⟨by decide,rfl⟩)) ?_
    refine aE aA 5 rfl (aW rfl rfl rfl (fun hg15=>?_) (fun hg15=>?_))
    ·
     simp only[bs] at hg15
     refine aG rfl (gJ rfl) (aE aA 2 rfl (aD (hK19 _ (aL rfl (fun hc16=>?_) (fun hc16=>?_)))))
     ·
      simp only[bs] at hc16
      try (have hd:d=false:=by simp_all)
      try subst hd
      simp only[Bool.toNat_false,Nat.add_zero] at h3
      refine aC (fun K20 hK20=>(aB (aE aA 3 rfl (aG rfl (cB rfl pY qV (l3 rfl) rfl) (aJ hf rfl (bD eB rfl rfl rfl rfl (l2 rfl)) (cA hf rfl eB rfl rfl rfl (.inl rfl) (by simp only[List.length_append,List.length_map,List.length_cons,List.length_nil]) rfl (by first | rfl | simp [eV,bU]) (by first | (simp only[maxLen,List.length_map,List.length_append,List.length_cons,List.length_nil]; omega) | (simp [maxLen] <;> omega)) (by first | (simp only[List.length_map,List.length_append,List.length_cons,List.length_nil]; omega) | (simp <;> omega)) ?_))))))
      refine bO (eR [0,1,2,9,53] rfl) (aE aA 1 rfl (aD (hK20 _ (aB (aE aA 1 rfl ?_)))))
      refine bK ?_
      refine hK8 _ (aB (aE aA 1 rfl ?_))
      refine aG rfl (bN rfl rfl (by omega) (by omega)) ?_
      refine aE aA 1 rfl (aD ?_)
      contradiction
     ·
      simp only[bs] at hc16
      refine aC (fun K21 hK21=>(aB (aE aA 2 rfl ?_)))
      refine aG rfl (aY rfl rfl dW dO (by first | exact ixm (by omega) | assumption | exact⟨by decide,rfl⟩)) ?_
      refine aE aA 4 rfl (aD (hK21 _ (aL rfl (fun hc17=>?_) (fun hc17=>?_))))
      ·
       simp only[bs] at hc17
       refine aB (aE aA 3 rfl ?_)
       refine aG rfl (aY rfl rfl dW dO (by first | exact ixm (by omega) | assumption | exact⟨by decide,rfl⟩)) ?_
       refine aE aA 1 rfl (aJ hf rfl (bD eB rfl rfl rfl rfl (l2 rfl)) (cA hf rfl eB rfl rfl rfl (.inl rfl) (by simp only[List.length_append,List.length_map,List.length_cons,List.length_nil]) rfl (by first | rfl | simp [eV,bU]) (by first | (simp only[maxLen,List.length_map,List.length_append,List.length_cons,List.length_nil]; omega) | (simp [maxLen] <;> omega)) (by first | (simp only[List.length_map,List.length_append,List.length_cons,List.length_nil]; omega) | (simp <;> omega)) ?_))
       refine bO (eR [0,1,2,8,9,67] rfl) (aE aA 1 rfl ?_)
       refine bK ?_
       refine hK8 _ (aB (aE aA 1 rfl ?_))
       refine aG rfl (bN rfl rfl (by omega) (by omega)) ?_
       refine aE aA 1 rfl (aD ?_)
       contradiction
      ·
       simp only[bs] at hc17
       refine aM (hK8 _ (aB (aE aA 1 rfl ?_)))
       refine aG rfl (bN rfl rfl (by omega) (by omega)) ?_
       refine aE aA 1 rfl (aD ?_)
       (  have hd:d=true:=by simp_all
          subst hd
          exact⟨(k+1,true,out),⟨by omega,aM0 h2 (by assumption) (toList_inj.1 (by assumption)),by omega⟩,by simp only; omega,cJ ⟨rfl,rfl,rfl,(by first | rfl | (simp only[List.length_append]; rfl)),rfl,rfl,trivial⟩ rfl⟩)
    ·
     simp only[bs] at hg15
     refine aE aA 2 rfl (aD (hK19 _ (bG rfl (aC (fun K22 hK22=>(aB (aE aA 2 rfl ?_)))))))
     refine aG rfl (aY rfl rfl dW dO (by first | exact ixm (by omega) | assumption | exact⟨by decide,rfl⟩)) ?_
     refine aE aA 4 rfl (aD (hK22 _ (aL rfl (fun hc19=>?_) (fun hc19=>?_))))
     ·
      simp only[bs] at hc19
      refine aB (aE aA 3 rfl ?_)
      refine aG rfl (aY rfl rfl dW dO (by first | exact ixm (by omega) | assumption | exact⟨by decide,rfl⟩)) ?_
      refine aE aA 1 rfl (aJ hf rfl (bD eB rfl rfl rfl rfl (l2 rfl)) (cA hf rfl eB rfl rfl rfl (.inl rfl) (by simp only[List.length_append,List.length_map,List.length_cons,List.length_nil]) rfl (by first | rfl | simp [eV,bU]) (by first | (simp only[maxLen,List.length_map,List.length_append,List.length_cons,List.length_nil]; omega) | (simp [maxLen] <;> omega)) (by first | (simp only[List.length_map,List.length_append,List.length_cons,List.length_nil]; omega) | (simp <;> omega)) ?_))
      refine bO (eR [0,1,2,8,9,67] rfl) (aE aA 1 rfl ?_)
      refine bK ?_
      refine hK8 _ (aB (aE aA 1 rfl ?_))
      refine aG rfl (bN rfl rfl (by omega) (by omega)) ?_
      refine aE aA 1 rfl (aD ?_)
      exact⟨(k+1,d,out++[l[k]]),⟨by omega,aAy h2 (by assumption) (fun e=>(by assumption:¬ _=_) (by show l[k].1.toList=_; rw[show l[k].1=u from e])) (fun e=>by first | exact absurd (e.symm.trans (by assumption:d=true)) (by decide) | (show ¬ dN u l[k].1<0; omega)),by simp only[List.length_append,List.length_cons,List.length_nil,Bool.toNat_true,Bool.toNat_false]; omega⟩,by simp only; omega,cJ ⟨rfl,rfl,rfl,(by first | rfl | (simp only[List.length_append]; rfl)),rfl,rfl,trivial⟩ (by simp only[List.map_append]; rfl)⟩
     ·
      simp only[bs] at hc19
      refine aM (hK8 _ (aB (aE aA 1 rfl ?_)))
      refine aG rfl (bN rfl rfl (by omega) (by omega)) ?_
      refine aE aA 1 rfl (aD ?_)
      contradiction
  ·
   simp only[bs] at hc1
   refine bB (hK4 _ (aC (fun K23 hK23=>(aC (fun K24 hK24=>(aB (aE aA 2 rfl (aD (hK24 _ (aL rfl (fun hc20=>?_) (fun hc20=>?_)))))))))))
   ·
    simp only[bs] at hc20
    try (have hd:d=false:=by simp_all)
    try subst hd
    simp only[Bool.toNat_false,Nat.add_zero] at h3
    refine aB (aE aA 3 rfl (aG rfl (cB rfl pY qV (l3 rfl) rfl) (aJ hf rfl (bD eB rfl rfl rfl rfl (l2 rfl)) (cA hf rfl eB rfl rfl rfl (.inl rfl) (by simp only[List.length_append,List.length_map,List.length_cons,List.length_nil]) rfl (by first | rfl | simp [eV,bU]) (by first | (simp only[maxLen,List.length_map,List.length_append,List.length_cons,List.length_nil]; omega) | (simp [maxLen] <;> omega)) (by first | (simp only[List.length_map,List.length_append,List.length_cons,List.length_nil]; omega) | (simp <;> omega)) ?_))))
    refine bO (eR [75] rfl) (aE aA 1 rfl (aD (hK23 _ (aC (fun K25 hK25=>(aB (aE aA 2 rfl (aD (hK25 _ (aI ?_))))))))))
    refine⟨_,rfl,?_⟩
    refine(bX (g:=7) rfl (by simp only[List.length_append,List.length_map]; try rfl)).trans ?_
    rw[aEk h2 (by assumption)]
    (rw[if_neg (by decide),List.map_append]; rfl)
   ·
    simp only[bs] at hc20
    refine aM (hK23 _ (aC (fun K26 hK26=>(aB (aE aA 2 rfl (aD (hK26 _ (aI ?_))))))))
    refine⟨_,rfl,?_⟩
    refine(bX (g:=7) rfl (by simp only[List.length_append,List.length_map]; try rfl)).trans ?_
    rw[aEk h2 (by assumption)]
    (rw[if_pos (by assumption),List.append_nil])
theorem aJ8 (l:List Tm) (u:ByteArray) (t:Int) (hl:l.length*24+24≤140737488355328) (hu:TS u) (ht:∀ x∈l,TS x.1) :Den Tryz.prog 53 [.sl 2 (l.map tmC),.s (.string u),.s (.int .i64 t)]  (·=.sl 2 ((kB cW u (u,t) false l).map tmC)):=by
 refine aS Tryz.func53 rfl (Nat.le_of_ble_eq_true rfl) (fun w0 A hf=>(aC (fun K1 hK1=>(aB (aG rfl (bQ) (aD (hK1 _ (aC (fun K2 hK2=>(aB (lD hf 2 rfl rfl rfl (aD (hK2 _ (aC (fun K3 hK3=>(aB ?_))))))))))))))))
 refine aE aA 1 rfl (aD (hK3 _ (aC (fun K4 hK4=>(aC (fun K5 hK5=>(aB (aE aA 1 rfl (aD (hK5 _ (aQ (bR (ι:=Nat×Bool×List Tm) (fun(⟨k,d,out⟩:Nat×Bool×List Tm)=>⟨57,[(0,.sl 2 (l.map tmC)),(1,.s (.string u)),(2,.s (.int .i64 t)),(7,.own 7 2 0 out.length),(8,.s (.bool d)),(9,.s (.int .i64 (k:Nat)))],[(7,.buf 2 (out.map tmC))]⟩) (fun(⟨k,d,out⟩:Nat×Bool×List Tm)=>k≤l.length∧kB cW u (u,t) false l=out++kB cW u (u,t) d (l.drop k)∧out.length≤k+d.toNat) (fun(⟨k,d,out⟩:Nat×Bool×List Tm)=>l.length - k) (0,false,[]) ?_ ?_ ?_))))))))))))
 · exact⟨Nat.zero_le _,rfl,Nat.zero_le _⟩
 · exact cJ ⟨rfl,rfl,rfl,rfl,rfl,rfl,trivial⟩ rfl
 ·
  rintro ⟨k,d,out⟩ hC
  obtain ⟨h1,h2,h3⟩:=hC
  have hdn:d.toNat≤1:=Bool.toNat_le d
  refine aC (fun K6 hK6=>(aC (fun K7 hK7=>(aB (aE aA 4 rfl (aD (hK7 _ (aL rfl (fun hc1=>?_) (fun hc1=>?_)))))))))
  ·
   simp only[bs] at hc1
   refine aM (hK6 _ (aC (fun K8 hK8=>(aQ (aC (fun K9 hK9=>(aC (fun K10 hK10=>(aB (aE aA 3 rfl (aW rfl rfl rfl (fun hg2=>?_) (fun hg2=>?_))))))))))))
   ·
    simp only[bs] at hg2
    refine aG rfl (gJ rfl) (aE aA 2 rfl (bI rfl rfl rfl ?_))
    refine aG rfl (aY rfl rfl jF gX (by first | exact ixm (by omega) | assumption | exact⟨by decide,rfl⟩)) ?_
    refine aE aA 2 rfl (bI rfl rfl rfl (aJ hf rfl (aK rfl rfl pI rfl (Nm.refCmp_den u _ hu (ht _ (List.getElem_mem (by omega))))) (aE aA 2 rfl (aD (hK10 _ (aL rfl (fun hc3=>?_) (fun hc3=>?_)))))))
    ·
     simp only[bs] at hc3
     try (have hd:d=false:=by simp_all)
     try subst hd
     simp only[Bool.toNat_false,Nat.add_zero] at h3
     refine aC (fun K11 hK11=>(aB (aE aA 3 rfl (aG rfl (cB rfl wR aJk (l3 rfl) rfl) (aJ hf rfl (bD iW rfl rfl rfl rfl (l2 rfl)) (cA hf rfl iW rfl rfl rfl (.inl rfl) (by simp only[List.length_append,List.length_map,List.length_cons,List.length_nil]) rfl (by first | rfl | simp [eV,bU]) (by first | (simp only[maxLen,List.length_map,List.length_append,List.length_cons,List.length_nil]; omega) | (simp [maxLen] <;> omega)) (by first | (simp only[List.length_map,List.length_append,List.length_cons,List.length_nil]; omega) | (simp <;> omega)) ?_))))))
     refine bO (eR [0,1,2,9,33] rfl) (aE aA 1 rfl (aD (hK11 _ (aB (aE aA 1 rfl (aD (hK9 _ (aC (fun K12 hK12=>(aB (aE aA 2 rfl ?_)))))))))))
     refine aG rfl (aY rfl rfl jF gX (by first | exact ixm (by omega) | assumption | exact⟨by decide,rfl⟩)) ?_
     refine aE aA 4 rfl (aD (hK12 _ (aL rfl (fun hc4=>?_) (fun hc4=>?_))))
     ·
      simp only[bs] at hc4
      try (have hd:d=false:=by simp_all)
      try subst hd
      refine aB (aE aA 3 rfl ?_)
      refine aG rfl (aY rfl rfl jF gX (by first | exact ixm (by omega) | assumption | exact⟨by decide,rfl⟩)) ?_
      refine aE aA 1 rfl (aJ hf rfl (bD iW rfl rfl rfl rfl (l2 rfl)) (cA hf rfl iW rfl rfl rfl (.inl rfl) (by simp only[List.length_append,List.length_map,List.length_cons,List.length_nil]) rfl (by first | rfl | simp [eV,bU]) (by first | (simp only[maxLen,List.length_map,List.length_append,List.length_cons,List.length_nil]; omega) | (simp [maxLen] <;> omega)) (by first | (simp only[List.length_map,List.length_append,List.length_cons,List.length_nil]; omega) | (simp <;> omega)) ?_))
      refine bO (eR [0,1,2,8,9,47] rfl) (aE aA 1 rfl ?_)
      refine bK ?_
      refine hK8 _ (aB (aE aA 1 rfl ?_))
      refine aG rfl (bN rfl rfl (by omega) (by omega)) ?_
      refine aE aA 1 rfl (aD ?_)
      exact⟨(k+1,true,out++[(u,t)]++[l[k]]),⟨by omega,aVw h2 (by assumption) (by first | assumption | (have hne:u≠l[k].1:=fun e=>(by assumption:¬ _=_) (by rw[e]); have hq:dN u l[k].1≠0:=(fun e=>hne ((mD _ _).1 e)); show dN u l[k].1<0; omega)),by simp only[List.length_append,List.length_cons,List.length_nil,Bool.toNat_true,Bool.toNat_false]; omega⟩,by simp only; omega,cJ ⟨rfl,rfl,rfl,(by first | rfl | (simp only[List.length_append]; rfl)),rfl,rfl,trivial⟩ (by simp only[List.map_append]; rfl)⟩
     ·
      simp only[bs] at hc4
      refine aM (hK8 _ (aB (aE aA 1 rfl ?_)))
      refine aG rfl (bN rfl rfl (by omega) (by omega)) ?_
      refine aE aA 1 rfl (aD ?_)
      exact⟨(k+1,true,out++[(u,t)]),⟨by omega,aQo h2 (by assumption) (toList_inj.1 (by assumption)),by simp only[List.length_append,List.length_cons,List.length_nil,Bool.toNat_true,Bool.toNat_false]; omega⟩,by simp only; omega,cJ ⟨rfl,rfl,rfl,(by first | rfl | (simp only[List.length_append]; rfl)),rfl,rfl,trivial⟩ (by simp only[List.map_append]; rfl)⟩
    ·
     simp only[bs] at hc3
     try (have hd:d=false:=by simp_all)
     try subst hd
     simp only[Bool.toNat_false,Nat.add_zero] at h3
     refine aM (hK9 _ (aC (fun K13 hK13=>(aB (aE aA 2 rfl ?_)))))
     refine aG rfl (aY rfl rfl jF gX (by first | exact ixm (by omega) | assumption | exact⟨by decide,rfl⟩)) ?_
     refine aE aA 4 rfl (aD (hK13 _ (aL rfl (fun hc5=>?_) (fun hc5=>?_))))
     ·
      simp only[bs] at hc5
      try (have hd:d=false:=by simp_all)
      try subst hd
      refine aB (aE aA 3 rfl ?_)
      refine aG rfl (aY rfl rfl jF gX (by first | exact ixm (by omega) | assumption | exact⟨by decide,rfl⟩)) ?_
      refine aE aA 1 rfl (aJ hf rfl (bD iW rfl rfl rfl rfl (l2 rfl)) (cA hf rfl iW rfl rfl rfl (.inl rfl) (by simp only[List.length_append,List.length_map,List.length_cons,List.length_nil]) rfl (by first | rfl | simp [eV,bU]) (by first | (simp only[maxLen,List.length_map,List.length_append,List.length_cons,List.length_nil]; omega) | (simp [maxLen] <;> omega)) (by first | (simp only[List.length_map,List.length_append,List.length_cons,List.length_nil]; omega) | (simp <;> omega)) ?_))
      refine bO (eR [0,1,2,8,9,47] rfl) (aE aA 1 rfl ?_)
      refine bK ?_
      refine hK8 _ (aB (aE aA 1 rfl ?_))
      refine aG rfl (bN rfl rfl (by omega) (by omega)) ?_
      refine aE aA 1 rfl (aD ?_)
      exact⟨(k+1,false,out++[l[k]]),⟨by omega,aAy h2 (by assumption) (fun e=>(by assumption:¬ _=_) (by show l[k].1.toList=_; rw[show l[k].1=u from e])) (fun e=>by show ¬ dN u l[k].1<0; omega),by simp only[List.length_append,List.length_cons,List.length_nil,Bool.toNat_true,Bool.toNat_false]; omega⟩,by simp only; omega,cJ ⟨rfl,rfl,rfl,(by first | rfl | (simp only[List.length_append]; rfl)),rfl,rfl,trivial⟩ (by simp only[List.map_append]; rfl)⟩
     ·
      simp only[bs] at hc5
      refine aM (hK8 _ (aB (aE aA 1 rfl ?_)))
      refine aG rfl (bN rfl rfl (by omega) (by omega)) ?_
      refine aE aA 1 rfl (aD ?_)
      (exfalso; have e8:dN u l[k].1=0:=(mD _ _).2 (toList_inj.1 (by assumption)).symm; omega)
   ·
    simp only[bs] at hg2
    refine aE aA 8 rfl (aD (hK10 _ (bG rfl (aM (hK9 _ (aC (fun K14 hK14=>(aB (aE aA 2 rfl ?_)))))))))
    refine aG rfl (aY rfl rfl jF gX (by first | exact ixm (by omega) | assumption | exact⟨by decide,rfl⟩)) ?_
    refine aE aA 4 rfl (aD (hK14 _ (aL rfl (fun hc7=>?_) (fun hc7=>?_))))
    ·
     simp only[bs] at hc7
     try (have hd:d=false:=by simp_all)
     try subst hd
     refine aB (aE aA 3 rfl ?_)
     refine aG rfl (aY rfl rfl jF gX (by first | exact ixm (by omega) | assumption | exact⟨by decide,rfl⟩)) ?_
     refine aE aA 1 rfl (aJ hf rfl (bD iW rfl rfl rfl rfl (l2 rfl)) (cA hf rfl iW rfl rfl rfl (.inl rfl) (by simp only[List.length_append,List.length_map,List.length_cons,List.length_nil]) rfl (by first | rfl | simp [eV,bU]) (by first | (simp only[maxLen,List.length_map,List.length_append,List.length_cons,List.length_nil]; omega) | (simp [maxLen] <;> omega)) (by first | (simp only[List.length_map,List.length_append,List.length_cons,List.length_nil]; omega) | (simp <;> omega)) ?_))
     refine bO (eR [0,1,2,8,9,47] rfl) (aE aA 1 rfl ?_)
     refine bK ?_
     refine hK8 _ (aB (aE aA 1 rfl ?_))
     refine aG rfl (bN rfl rfl (by omega) (by omega)) ?_
     refine aE aA 1 rfl (aD ?_)
     exact⟨(k+1,d,out++[l[k]]),⟨by omega,aAy h2 (by assumption) (fun e=>(by assumption:¬ _=_) (by show l[k].1.toList=_; rw[show l[k].1=u from e])) (fun e=>by first | exact absurd (e.symm.trans (by assumption:d=true)) (by decide) | (show ¬ dN u l[k].1<0; omega)),by simp only[List.length_append,List.length_cons,List.length_nil,Bool.toNat_true,Bool.toNat_false]; omega⟩,by simp only; omega,cJ ⟨rfl,rfl,rfl,(by first | rfl | (simp only[List.length_append]; rfl)),rfl,rfl,trivial⟩ (by simp only[List.map_append]; rfl)⟩
    ·
     simp only[bs] at hc7
     refine aM (hK8 _ (aB (aE aA 1 rfl ?_)))
     refine aG rfl (bN rfl rfl (by omega) (by omega)) ?_
     refine aE aA 1 rfl (aD ?_)
     (  have hd:d=true:=by simp_all
        subst hd
        exact⟨(k+1,true,out),⟨by omega,aM0 h2 (by assumption) (toList_inj.1 (by assumption)),by omega⟩,by simp only; omega,cJ ⟨rfl,rfl,rfl,(by first | rfl | (simp only[List.length_append]; rfl)),rfl,rfl,trivial⟩ rfl⟩)
  ·
   simp only[bs] at hc1
   refine bB (hK4 _ (aC (fun K15 hK15=>(aC (fun K16 hK16=>(aB (aE aA 2 rfl (aD (hK16 _ (aL rfl (fun hc8=>?_) (fun hc8=>?_)))))))))))
   ·
    simp only[bs] at hc8
    try (have hd:d=false:=by simp_all)
    try subst hd
    simp only[Bool.toNat_false,Nat.add_zero] at h3
    refine aB (aE aA 3 rfl (aG rfl (cB rfl wR aJk (l3 rfl) rfl) (aJ hf rfl (bD iW rfl rfl rfl rfl (l2 rfl)) (cA hf rfl iW rfl rfl rfl (.inl rfl) (by simp only[List.length_append,List.length_map,List.length_cons,List.length_nil]) rfl (by first | rfl | simp [eV,bU]) (by first | (simp only[maxLen,List.length_map,List.length_append,List.length_cons,List.length_nil]; omega) | (simp [maxLen] <;> omega)) (by first | (simp only[List.length_map,List.length_append,List.length_cons,List.length_nil]; omega) | (simp <;> omega)) ?_))))
    refine bO (eR [55] rfl) (aE aA 1 rfl (aD (hK15 _ (aC (fun K17 hK17=>(aB (aE aA 2 rfl (aD (hK17 _ (aI ?_))))))))))
    refine⟨_,rfl,?_⟩
    refine(bX (g:=7) rfl (by simp only[List.length_append,List.length_map]; try rfl)).trans ?_
    rw[aEk h2 (by assumption)]
    (rw[if_neg (by decide),List.map_append]; rfl)
   ·
    simp only[bs] at hc8
    refine aM (hK15 _ (aC (fun K18 hK18=>(aB (aE aA 2 rfl (aD (hK18 _ (aI ?_))))))))
    refine⟨_,rfl,?_⟩
    refine(bX (g:=7) rfl (by simp only[List.length_append,List.length_map]; try rfl)).trans ?_
    rw[aEk h2 (by assumption)]
    (rw[if_pos (by assumption),List.append_nil])
end Go.Proofs.YtckjaledibkghaaGreat
set_option linter.unusedVariables false
set_option linter.unusedSimpArgs false
namespace Go.Proofs.YtckjaledibkghaaGreat
open Go Go.Abs
theorem aCh (l:List Us) (u:ByteArray) (ys:List bS) (hl:l.length*40+40≤140737488355328) (hu:TS u) (ht:∀ x∈l,TS x.1) (hr:cQ cK l):Den Tryz.prog 52 [.sl 2 (l.map usC),.s (.string u),.sl 4 (ys.map stC)] (·=.sl 2 ((oF l u ys).map usC)) :=
  eL (aQb l u ys hl hu ht) (by rw[put_set hr])
theorem aHt (l:List Tm) (u:ByteArray) (t:Int) (hl:l.length*24+24≤140737488355328) (hu:TS u) (ht:∀ x∈l,TS x.1) (hr:cQ cW l):Den Tryz.prog 53 [.sl 2 (l.map tmC),.s (.string u),.s (.int .i64 t)] (·=.sl 2 ((nH l u t).map tmC)) :=
  eL (aJ8 l u t hl hu ht) (by rw[aS7 hr])
theorem zF (s:Sta) (u:ByteArray) (x:bS) (hz:SzS 140737488355200 s) (hr:cQ cK s.usr) (hu:TS u) (ht:∀ x∈s.usr,TS x.1) :Den Tryz.prog 81 [.agg (aO s),.s (.string u),.agg (stC x)]  (·=.agg (aO (dU s u x))):=by
 have z2:=hz.u
 have hou:(ofU s.usr u).length*32≤140737488355200:=xS (p:=fun x=>x.2.length*32≤140737488355200) hr hz.y (by simp)
 refine aS Tryz.func81 rfl (Nat.le_of_ble_eq_true rfl) (fun w0 A hf=>(aC (fun K1 hK1=>(aB (jN hf rfl rfl rfl rfl (l1 rfl) ?_)))))
 refine aJ hf rfl (cI rfl rfl (lf rfl)) (aX hf rfl rfl rfl bY (aD (hK1 _ (aC (fun K2 hK2=>(aC (fun K3 hK3=>(aB (aE aA 5 rfl (aD (hK3 _ (aL rfl (fun hc1=>?_) (fun hc1=>?_)))))))))))))
 ·
  simp only[bs] at hc1
  refine iE hf (L:=#[true,true,true,true,true,true,true,true,true,true,false]) 10 1 bE (by kernel_rfl) rfl (by kernel_rfl) rfl ?_
  refine aT aA 5 rfl (aZ [(15,_),(16,_)] rfl rfl ⟨⟨rfl,rfl⟩,⟨rfl,rfl⟩,trivial⟩ rfl (aK rfl rfl aG2 rfl (aIu s u (by omega))) (aT aA 1 rfl (aZ [(17,_),(18,_)] rfl rfl ⟨⟨rfl,rfl⟩,⟨rfl,rfl⟩,trivial⟩ rfl (aK rfl rfl zO rfl (wA (ofU s.usr u) x (by omega))) (aZ [(13,_),(14,_),(19,_)] rfl rfl ⟨⟨rfl,rfl⟩,⟨rfl,rfl⟩,⟨rfl,rfl⟩,trivial⟩ rfl (aK rfl rfl aG6 rfl (aCh s.usr u (fZ (ofU s.usr u) x) (by omega) hu ht hr)) (aT aA 1 rfl (uP [3,6,20,21] rfl rfl rfl ?_))))))
  refine aH 10 [] (by kernel_rfl) ⟨?_,trivial⟩
  ·
   refine⟨_,rfl,rfl,(ao rfl (aU hf rfl rfl xF rfl rfl (l1 rfl) (l4 rfl) rfl (aF (dF (by kernel_rfl) ?_))))⟩
   refine hK2 _ (aC (fun K4 hK4=>(aB (aG rfl ((by first | exact bW (cs':=aO s) rfl dJ cG rfl rfl rfl | exact bW (cs':=[.s (.int .i64 s.now),.s (.int .i64 s.hor),.sl 4 (s.opn.map seC),.sl 2 ((oF s.usr u (fZ (ofU s.usr u) x)).map usC),.sl 4 (s.sub.map enC),.sl 2 (s.tmb.map tmC)]) rfl dJ cG rfl rfl rfl)) ?_))))
   refine aU hf rfl rfl cG rfl rfl (l1 rfl) (l4 rfl) rfl (aD (hK4 _ (aI ?_)))
   refine⟨_,rfl,?_⟩
   (unfold dU kR; rw[if_neg (by omega)]; rfl)
 ·
  simp only[bs] at hc1
  refine aM (hK2 _ (aC (fun K5 hK5=>(aB (aG rfl ((by first | exact bW (cs':=aO s) rfl dJ cG rfl rfl rfl | exact bW (cs':=[.s (.int .i64 s.now),.s (.int .i64 s.hor),.sl 4 (s.opn.map seC),.sl 2 ((oF s.usr u (fZ (ofU s.usr u) x)).map usC),.sl 4 (s.sub.map enC),.sl 2 (s.tmb.map tmC)]) rfl dJ cG rfl rfl rfl)) ?_)))))
  refine aU hf rfl rfl cG rfl rfl (l1 rfl) (l4 rfl) rfl (aD (hK5 _ (aI ?_)))
  refine⟨_,rfl,?_⟩
  (rw[jA (by omega)]; rfl)
theorem aD6 (s:Sta) (e:Ev) (hz:SzS 140737488355100 s) (hr:cQ cK s.usr) (hr2:cQ cW s.tmb) (ts:TsS s) (hu:TS e.user) (ho:TS e.other) (hk:e.kind=1) :Den Tryz.prog 47 [.agg (aO s),.agg (evC e)]  (·=.tup [.agg (aO (bP s e).1),.s (.int .i64 (bP s e).2)]):=by
 have z1:=hz.o
 have z2:=hz.u
 have z3:=hz.b
 have z4:=hz.t
 have q:=aF6 s.opn ((e.n,e.user),(e.st,e.at'))
 have hd:bP s e=(dU ({ s with opn:=mM s.opn ((e.n,e.user),(e.st,e.at')) }) e.user (st0),pR s.opn ((e.n,e.user),(e.st,e.at'))):=by
  rw[bP,if_pos hk]
  rw[jA (show st0.1.2≤st0.1.1 from Int.le_refl _)]
 have hz2:SzS 140737488355200 ({ s with opn:=mM s.opn ((e.n,e.user),(e.st,e.at')) }):=⟨by show (mM s.opn ((e.n,e.user),(e.st,e.at'))).length*40≤_; omega,by show s.usr.length*40≤_; omega,by show s.sub.length*48≤_; omega,by show s.tmb.length*24≤_; omega,fun x hx=>by have:=hz.y x hx; omega⟩
 rw[hd]
 rw[jA (show st0.1.2≤st0.1.1 from Int.le_refl _)]
 refine aS Tryz.func47 rfl (Nat.le_of_ble_eq_true rfl) (fun w0 A hf=>(aC (fun K1 hK1=>(aB (jN hf rfl rfl rfl rfl (l1 rfl) ?_)))))
 refine aJ hf rfl (cI rfl rfl (lf rfl)) (aX hf rfl rfl rfl bY (aE aA 1 rfl (aD (hK1 _ (aC (fun K2 hK2=>(aC (fun K3 hK3=>(aB (aE aA 2 rfl (aG rfl (cU rfl rfl (gK (by omega))) (aD (hK3 _ (bM rfl ?_))))))))))))))
 refine aC (fun K4 hK4=>(aB (aE aA 10 rfl (aG rfl (cB rfl oR xX (l3 rfl) rfl) (aJ hf rfl (aK rfl rfl aPk rfl (aHy s.opn ((e.n,e.user),(e.st,e.at')) (by omega))) (aE aA 5 rfl (aD (hK4 _ (aC (fun K5 hK5=>(aB (aE aA 2 rfl (aU hf rfl rfl sF rfl rfl (l1 rfl) (l4 rfl) rfl (aD ?_))))))))))))))
 refine hK5 _ (aC (fun K6 hK6=>(aB (aG rfl (bW (cs':=[.s (.int .i64 s.now),.s (.int .i64 s.hor),.sl 4 ((mM s.opn ((e.n,e.user),(e.st,e.at'))).map seC),.sl 2 (s.usr.map usC),.sl 4 (s.sub.map enC),.sl 2 (s.tmb.map tmC)]) rfl dJ cG rfl rfl rfl) (aE aA 1 rfl (aU hf rfl rfl cG rfl rfl (l1 rfl) (l4 rfl) rfl (aE aA 1 rfl (aD (hK6 _ (aI ?_))))))))))
 refine⟨_,rfl,?_⟩
 rfl
theorem aD5 (s:Sta) (e:Ev) (hz:SzS 140737488355100 s) (hr:cQ cK s.usr) (hr2:cQ cW s.tmb) (ts:TsS s) (hu:TS e.user) (ho:TS e.other) (hk:e.kind=2) :Den Tryz.prog 47 [.agg (aO s),.agg (evC e)]  (·=.tup [.agg (aO (bP s e).1),.s (.int .i64 (bP s e).2)]):=by
 have z1:=hz.o
 have z2:=hz.u
 have z3:=hz.b
 have z4:=hz.t
 have q:=aGn s.opn e.n e.user e.st e.at'
 have hd:bP s e=(dU ({ s with opn:=mT s.opn e.n e.user e.st e.at' }) e.user (stR s.opn e.n e.user e.at'),fR s.opn e.n e.user):=by
  rw[bP,if_neg (by omega),if_pos hk]
  rfl
 have hz2:SzS 140737488355200 ({ s with opn:=mT s.opn e.n e.user e.st e.at' }):=⟨by show (mT s.opn e.n e.user e.st e.at').length*40≤_; omega,by show s.usr.length*40≤_; omega,by show s.sub.length*48≤_; omega,by show s.tmb.length*24≤_; omega,fun x hx=>by have:=hz.y x hx; omega⟩
 rw[hd]
 refine aS Tryz.func47 rfl (Nat.le_of_ble_eq_true rfl) (fun w0 A hf=>(aC (fun K1 hK1=>(aB (jN hf rfl rfl rfl rfl (l1 rfl) ?_)))))
 refine aJ hf rfl (cI rfl rfl (lf rfl)) (aX hf rfl rfl rfl bY (aE aA 1 rfl (aD (hK1 _ (aC (fun K2 hK2=>(aC (fun K3 hK3=>(aB (aE aA 2 rfl (aG rfl (cU rfl rfl (dA (by omega))) (aD (hK3 _ (bG rfl ?_))))))))))))))
 refine aM (hK2 _ (aC (fun K4 hK4=>(aB (aE aA 8 rfl (aJ hf rfl (aK rfl rfl aDq rfl (vZ s.opn e.n e.user e.at' (by omega))) (aE aA 4 rfl (aX hf rfl rfl rfl iJ (aE aA 1 rfl (aU hf rfl rfl dV rfl rfl (l1 rfl) (l4 rfl) rfl (aE aA 1 rfl (aD (hK4 _ ?_)))))))))))))
 refine aC (fun K5 hK5=>(aC (fun K6 hK6=>(aB (aE aA 2 rfl (aG rfl (cU rfl rfl (gK (by omega))) (aD (hK6 _ (bM rfl (aB (aE aA 10 rfl (aJ hf rfl (aK rfl rfl aPj rfl (aD8 s.opn e.n e.user e.st e.at' (by omega))) (aE aA 5 rfl (aU hf rfl rfl dV rfl rfl (l1 rfl) (l4 rfl) rfl ?_))))))))))))))
 refine aE aA 1 rfl (aD (hK5 _ (aC (fun K7 hK7=>(aB (aE aA 2 rfl (aU hf rfl rfl sF rfl rfl (l1 rfl) (l4 rfl) rfl (aD (hK7 _ (aC (fun K8 hK8=>(aB (aG rfl (bW (cs':=[.s (.int .i64 s.now),.s (.int .i64 s.hor),.sl 4 ((mT s.opn e.n e.user e.st e.at').map seC),.sl 2 (s.usr.map usC),.sl 4 (s.sub.map enC),.sl 2 (s.tmb.map tmC)]) rfl dJ cG rfl rfl rfl) (aE aA 3 rfl ?_))))))))))))))
 refine aJ hf rfl (aK rfl rfl zR rfl (zF ({ s with opn:=mT s.opn e.n e.user e.st e.at' }) e.user (stR s.opn e.n e.user e.at') hz2 hr hu ts.u)) (aE aA 1 rfl (aU hf rfl rfl cG rfl rfl (l1 rfl) (l4 rfl) rfl (aE aA 1 rfl (aD (hK8 _ (aI ?_))))))
 refine⟨_,rfl,?_⟩
 rfl
theorem aD4 (s:Sta) (e:Ev) (hz:SzS 140737488355100 s) (hr:cQ cK s.usr) (hr2:cQ cW s.tmb) (ts:TsS s) (hu:TS e.user) (ho:TS e.other) (hk:e.kind=3) :Den Tryz.prog 47 [.agg (aO s),.agg (evC e)]  (·=.tup [.agg (aO (bP s e).1),.s (.int .i64 (bP s e).2)]):=by
 have z1:=hz.o
 have z2:=hz.u
 have z3:=hz.b
 have z4:=hz.t
 have q:=aGm s.opn e.n e.user
 have hd:bP s e=(dU ({ s with opn:=mE s.opn e.n e.user }) e.user (stR s.opn e.n e.user e.at'),fR s.opn e.n e.user):=by
  rw[bP,if_neg (by omega),if_neg (by omega),if_pos hk]
  rfl
 have hz2:SzS 140737488355200 ({ s with opn:=mE s.opn e.n e.user }):=⟨by show (mE s.opn e.n e.user).length*40≤_; omega,by show s.usr.length*40≤_; omega,by show s.sub.length*48≤_; omega,by show s.tmb.length*24≤_; omega,fun x hx=>by have:=hz.y x hx; omega⟩
 rw[hd]
 refine aS Tryz.func47 rfl (Nat.le_of_ble_eq_true rfl) (fun w0 A hf=>(aC (fun K1 hK1=>(aB (jN hf rfl rfl rfl rfl (l1 rfl) ?_)))))
 refine aJ hf rfl (cI rfl rfl (lf rfl)) (aX hf rfl rfl rfl bY (aE aA 1 rfl (aD (hK1 _ (aC (fun K2 hK2=>(aC (fun K3 hK3=>(aB (aE aA 2 rfl (aG rfl (cU rfl rfl (dA (by omega))) (aD (hK3 _ (bG rfl ?_))))))))))))))
 refine aM (hK2 _ (aC (fun K4 hK4=>(aB (aE aA 8 rfl (aJ hf rfl (aK rfl rfl aDq rfl (vZ s.opn e.n e.user e.at' (by omega))) (aE aA 4 rfl (aX hf rfl rfl rfl iJ (aE aA 1 rfl (aU hf rfl rfl dV rfl rfl (l1 rfl) (l4 rfl) rfl (aE aA 1 rfl (aD (hK4 _ ?_)))))))))))))
 refine aC (fun K5 hK5=>(aC (fun K6 hK6=>(aB (aE aA 2 rfl (aG rfl (cU rfl rfl (dA (by omega))) (aD (hK6 _ (bG rfl (aM (hK5 _ (aC (fun K7 hK7=>(aB (aE aA 2 rfl ?_)))))))))))))))
 refine aU hf rfl rfl sF rfl rfl (l1 rfl) (l4 rfl) rfl (aD (hK7 _ (aC (fun K8 hK8=>(aB (aG rfl (bW (cs':=[.s (.int .i64 s.now),.s (.int .i64 s.hor),.sl 4 ((mE s.opn e.n e.user).map seC),.sl 2 (s.usr.map usC),.sl 4 (s.sub.map enC),.sl 2 (s.tmb.map tmC)]) rfl dJ cG rfl rfl rfl) (aE aA 3 rfl (aJ hf rfl (aK rfl rfl zR rfl (zF ({ s with opn:=mE s.opn e.n e.user }) e.user (stR s.opn e.n e.user e.at') hz2 hr hu ts.u)) (aE aA 1 rfl (aU hf rfl rfl cG rfl rfl (l1 rfl) (l4 rfl) rfl (aE aA 1 rfl ?_)))))))))))
 refine aD (hK8 _ (aI ?_))
 refine⟨_,rfl,?_⟩
 rfl
end Go.Proofs.YtckjaledibkghaaGreat
set_option linter.unusedVariables false
set_option linter.unusedSimpArgs false
namespace Go.Proofs.YtckjaledibkghaaGreat
open Go Go.Abs
theorem aH7 (s:Sta) (e:Ev) (hz:SzS 140737488355100 s) (hr:cQ cK s.usr) (hr2:cQ cW s.tmb) (ts:TsS s) (hu:TS e.user) (ho:TS e.other) (hk:e.kind=1) (he:bT e=true) (ht:s.now≤e.at') :Den Tryz.prog 17 [.agg (aO s),.agg (evC e)]  (·=.tup [.agg (aO (aR s e).1),.s (.int .i64 (aR s e).2)]):=by
 have z1:=hz.o
 have z2:=hz.u
 have z3:=hz.b
 have z4:=hz.t
 have hd2:∃ D N,bP s e=(D,N):=⟨_,_,rfl⟩
 obtain ⟨D,N,hd⟩:=hd2
 refine aS Tryz.func17 rfl (Nat.le_of_ble_eq_true rfl) (fun w0 A hf=>(aC (fun K1 hK1=>(aB (jN hf rfl rfl rfl rfl (l1 rfl) ?_)))))
 refine aJ hf rfl (cI rfl rfl (lf rfl)) (aX hf rfl rfl rfl bY (aE aA 1 rfl (aD (hK1 _ (aC (fun K2 hK2=>(aC (fun K3 hK3=>(aB (aE aA 1 rfl (aJ hf rfl (aK rfl rfl kL rfl ((show Den Tryz.prog _ _ (·=.s (.bool true)) from eL (gD e hu ho) (by rw[he])))) ?_)))))))))))
 refine aE aA 1 rfl (aD (hK3 _ (bG rfl (aM (hK2 _ (aC (fun K4 hK4=>(aC (fun K5 hK5=>(aB (aE aA 5 rfl (aD (hK5 _ (cD rfl rfl (fun hc2=>?_) (fun hc2=>?_)))))))))))))))
 ·
  simp only[bs] at hc2
  omega
 ·
  simp only[bs] at hc2
  refine aM (hK4 _ (aC (fun K6 hK6=>(aB (aE aA 4 rfl (aG rfl (cB rfl jB pD (l3 rfl) rfl) (bV hf rfl jB rfl sB rfl rfl rfl rfl (lf rfl) (aD (hK6 _ (aC (fun K7 hK7=>(aB (aE aA 1 rfl (aD ?_))))))))))))))
  refine hK7 _ (aC (fun K8 hK8=>(aC (fun K9 hK9=>(aB (aE aA 2 rfl (aD (hK9 _ (aQ (aC (fun K10 hK10=>(aC (fun K11 hK11=>(aB (aG rfl (cU rfl rfl (gK (by omega))) (aE aA 1 rfl ?_))))))))))))))))
  refine aD (hK11 _ (bM rfl (aM (hK10 _ (bM rfl (aB (aE aA 2 rfl (aJ hf rfl (aK rfl rfl zS rfl (eL (aD6 s e hz hr hr2 ts hu ho hk) (show _=AV.tup [.agg (aO D),.s (.int .i64 N)] from by rw[hd]))) ?_))))))))
  refine aE aA 3 rfl (aU hf rfl rfl cG rfl rfl (l1 rfl) (l4 rfl) rfl (aE aA 1 rfl ?_))
  refine bK ?_
  refine hK8 _ (aC (fun K12 hK12=>(aC (fun K13 hK13=>(aB (aE aA 2 rfl (aD (hK13 _ (cD rfl rfl (fun hc5=>?_) (fun hc5=>?_))))))))))
  ·
   simp only[bs] at hc5
   refine aC (fun K14 hK14=>(aB (aG rfl (cB rfl bY jX (l3 rfl) rfl) (bO (iX hJ) (aE aA 1 rfl (aU hf rfl rfl cG rfl rfl (l1 rfl) (l4 rfl) rfl (aE aA 1 rfl (aD (hK14 _ (aI ?_))))))))))
   refine⟨_,rfl,?_⟩
   rw[aR,if_pos he,if_neg (by omega),hd,if_neg (by first | assumption | omega | (simp_all; done) | (intro hq; simp only at hq; split at hq <;> simp_all))]; rfl
  ·
   simp only[bs] at hc5
   refine aM (hK12 _ (aC (fun K15 hK15=>(aB (aE aA 3 rfl (aU hf rfl rfl bZ rfl rfl (l1 rfl) (l4 rfl) rfl (aD (hK15 _ (aC (fun K16 hK16=>(aB (aG rfl (bW (cs':=[.s (.int .i64 e.at'),.s (.int .i64 D.hor),.sl 4 (D.opn.map seC),.sl 2 (D.usr.map usC),.sl 4 (D.sub.map enC),.sl 2 (D.tmb.map tmC)]) rfl dJ cG rfl rfl rfl) (aU hf rfl rfl cG rfl rfl (l1 rfl) (l4 rfl) rfl (aE aA 1 rfl ?_))))))))))))))
   refine aD (hK16 _ (aI ?_))
   refine⟨_,rfl,?_⟩
   rw[aR,if_pos he,if_neg (by omega),hd,if_pos (by first | assumption | omega)]; rfl
theorem aH6 (s:Sta) (e:Ev) (hz:SzS 140737488355100 s) (hr:cQ cK s.usr) (hr2:cQ cW s.tmb) (ts:TsS s) (hu:TS e.user) (ho:TS e.other) (hk:e.kind=2) (he:bT e=true) (ht:s.now≤e.at') :Den Tryz.prog 17 [.agg (aO s),.agg (evC e)]  (·=.tup [.agg (aO (aR s e).1),.s (.int .i64 (aR s e).2)]):=by
 have z1:=hz.o
 have z2:=hz.u
 have z3:=hz.b
 have z4:=hz.t
 have hd2:∃ D N,bP s e=(D,N):=⟨_,_,rfl⟩
 obtain ⟨D,N,hd⟩:=hd2
 refine aS Tryz.func17 rfl (Nat.le_of_ble_eq_true rfl) (fun w0 A hf=>(aC (fun K1 hK1=>(aB (jN hf rfl rfl rfl rfl (l1 rfl) ?_)))))
 refine aJ hf rfl (cI rfl rfl (lf rfl)) (aX hf rfl rfl rfl bY (aE aA 1 rfl (aD (hK1 _ (aC (fun K2 hK2=>(aC (fun K3 hK3=>(aB (aE aA 1 rfl (aJ hf rfl (aK rfl rfl kL rfl ((show Den Tryz.prog _ _ (·=.s (.bool true)) from eL (gD e hu ho) (by rw[he])))) ?_)))))))))))
 refine aE aA 1 rfl (aD (hK3 _ (bG rfl (aM (hK2 _ (aC (fun K4 hK4=>(aC (fun K5 hK5=>(aB (aE aA 5 rfl (aD (hK5 _ (cD rfl rfl (fun hc2=>?_) (fun hc2=>?_)))))))))))))))
 ·
  simp only[bs] at hc2
  omega
 ·
  simp only[bs] at hc2
  refine aM (hK4 _ (aC (fun K6 hK6=>(aB (aE aA 4 rfl (aG rfl (cB rfl jB pD (l3 rfl) rfl) (bV hf rfl jB rfl sB rfl rfl rfl rfl (lf rfl) (aD (hK6 _ (aC (fun K7 hK7=>(aB (aE aA 1 rfl (aD ?_))))))))))))))
  refine hK7 _ (aC (fun K8 hK8=>(aC (fun K9 hK9=>(aB (aE aA 2 rfl (aD (hK9 _ (aQ (aC (fun K10 hK10=>(aC (fun K11 hK11=>(aB (aG rfl (cU rfl rfl (dA (by omega))) (aE aA 1 rfl ?_))))))))))))))))
  refine aD (hK11 _ (bG rfl (aC (fun K12 hK12=>(aB (aG rfl (cU rfl rfl (gK (by omega))) (aE aA 1 rfl (aD (hK12 _ (bM rfl (aM (hK10 _ (bM rfl ?_)))))))))))))
  refine aB (aE aA 2 rfl (aJ hf rfl (aK rfl rfl zS rfl (eL (aD5 s e hz hr hr2 ts hu ho hk) (show _=AV.tup [.agg (aO D),.s (.int .i64 N)] from by rw[hd]))) ?_))
  refine aE aA 3 rfl (aU hf rfl rfl cG rfl rfl (l1 rfl) (l4 rfl) rfl (aE aA 1 rfl ?_))
  refine bK ?_
  refine hK8 _ (aC (fun K13 hK13=>(aC (fun K14 hK14=>(aB (aE aA 2 rfl (aD (hK14 _ (cD rfl rfl (fun hc6=>?_) (fun hc6=>?_))))))))))
  ·
   simp only[bs] at hc6
   refine aC (fun K15 hK15=>(aB (aG rfl (cB rfl bY jX (l3 rfl) rfl) (bO (iX hJ) (aE aA 1 rfl (aU hf rfl rfl cG rfl rfl (l1 rfl) (l4 rfl) rfl (aE aA 1 rfl (aD (hK15 _ (aI ?_))))))))))
   refine⟨_,rfl,?_⟩
   rw[aR,if_pos he,if_neg (by omega),hd,if_neg (by first | assumption | omega | (simp_all; done) | (intro hq; simp only at hq; split at hq <;> simp_all))]; rfl
  ·
   simp only[bs] at hc6
   refine aM (hK13 _ (aC (fun K16 hK16=>(aB (aE aA 3 rfl (aU hf rfl rfl bZ rfl rfl (l1 rfl) (l4 rfl) rfl (aD (hK16 _ (aC (fun K17 hK17=>(aB (aG rfl (bW (cs':=[.s (.int .i64 e.at'),.s (.int .i64 D.hor),.sl 4 (D.opn.map seC),.sl 2 (D.usr.map usC),.sl 4 (D.sub.map enC),.sl 2 (D.tmb.map tmC)]) rfl dJ cG rfl rfl rfl) (aU hf rfl rfl cG rfl rfl (l1 rfl) (l4 rfl) rfl (aE aA 1 rfl ?_))))))))))))))
   refine aD (hK17 _ (aI ?_))
   refine⟨_,rfl,?_⟩
   rw[aR,if_pos he,if_neg (by omega),hd,if_pos (by first | assumption | omega)]; rfl
theorem aH5 (s:Sta) (e:Ev) (hz:SzS 140737488355100 s) (hr:cQ cK s.usr) (hr2:cQ cW s.tmb) (ts:TsS s) (hu:TS e.user) (ho:TS e.other) (hk:e.kind=3) (he:bT e=true) (ht:s.now≤e.at') :Den Tryz.prog 17 [.agg (aO s),.agg (evC e)]  (·=.tup [.agg (aO (aR s e).1),.s (.int .i64 (aR s e).2)]):=by
 have z1:=hz.o
 have z2:=hz.u
 have z3:=hz.b
 have z4:=hz.t
 have hd2:∃ D N,bP s e=(D,N):=⟨_,_,rfl⟩
 obtain ⟨D,N,hd⟩:=hd2
 refine aS Tryz.func17 rfl (Nat.le_of_ble_eq_true rfl) (fun w0 A hf=>(aC (fun K1 hK1=>(aB (jN hf rfl rfl rfl rfl (l1 rfl) ?_)))))
 refine aJ hf rfl (cI rfl rfl (lf rfl)) (aX hf rfl rfl rfl bY (aE aA 1 rfl (aD (hK1 _ (aC (fun K2 hK2=>(aC (fun K3 hK3=>(aB (aE aA 1 rfl (aJ hf rfl (aK rfl rfl kL rfl ((show Den Tryz.prog _ _ (·=.s (.bool true)) from eL (gD e hu ho) (by rw[he])))) ?_)))))))))))
 refine aE aA 1 rfl (aD (hK3 _ (bG rfl (aM (hK2 _ (aC (fun K4 hK4=>(aC (fun K5 hK5=>(aB (aE aA 5 rfl (aD (hK5 _ (cD rfl rfl (fun hc2=>?_) (fun hc2=>?_)))))))))))))))
 ·
  simp only[bs] at hc2
  omega
 ·
  simp only[bs] at hc2
  refine aM (hK4 _ (aC (fun K6 hK6=>(aB (aE aA 4 rfl (aG rfl (cB rfl jB pD (l3 rfl) rfl) (bV hf rfl jB rfl sB rfl rfl rfl rfl (lf rfl) (aD (hK6 _ (aC (fun K7 hK7=>(aB (aE aA 1 rfl (aD ?_))))))))))))))
  refine hK7 _ (aC (fun K8 hK8=>(aC (fun K9 hK9=>(aB (aE aA 2 rfl (aD (hK9 _ (aQ (aC (fun K10 hK10=>(aC (fun K11 hK11=>(aB (aG rfl (cU rfl rfl (dA (by omega))) (aE aA 1 rfl ?_))))))))))))))))
  refine aD (hK11 _ (bG rfl (aC (fun K12 hK12=>(aB (aG rfl (cU rfl rfl (dA (by omega))) (aE aA 1 rfl (aD (hK12 _ (bG rfl (aB (aG rfl (cU rfl rfl (gK (by omega))) (aE aA 1 rfl ?_)))))))))))))
  refine aD (hK10 _ (bM rfl (aB (aE aA 2 rfl (aJ hf rfl (aK rfl rfl zS rfl (eL (aD4 s e hz hr hr2 ts hu ho hk) (show _=AV.tup [.agg (aO D),.s (.int .i64 N)] from by rw[hd]))) ?_)))))
  refine aE aA 3 rfl (aU hf rfl rfl cG rfl rfl (l1 rfl) (l4 rfl) rfl (aE aA 1 rfl ?_))
  refine bK ?_
  refine hK8 _ (aC (fun K13 hK13=>(aC (fun K14 hK14=>(aB (aE aA 2 rfl (aD (hK14 _ (cD rfl rfl (fun hc6=>?_) (fun hc6=>?_))))))))))
  ·
   simp only[bs] at hc6
   refine aC (fun K15 hK15=>(aB (aG rfl (cB rfl bY jX (l3 rfl) rfl) (bO (iX hJ) (aE aA 1 rfl (aU hf rfl rfl cG rfl rfl (l1 rfl) (l4 rfl) rfl (aE aA 1 rfl (aD (hK15 _ (aI ?_))))))))))
   refine⟨_,rfl,?_⟩
   rw[aR,if_pos he,if_neg (by omega),hd,if_neg (by first | assumption | omega | (simp_all; done) | (intro hq; simp only at hq; split at hq <;> simp_all))]; rfl
  ·
   simp only[bs] at hc6
   refine aM (hK13 _ (aC (fun K16 hK16=>(aB (aE aA 3 rfl (aU hf rfl rfl bZ rfl rfl (l1 rfl) (l4 rfl) rfl (aD (hK16 _ (aC (fun K17 hK17=>(aB (aG rfl (bW (cs':=[.s (.int .i64 e.at'),.s (.int .i64 D.hor),.sl 4 (D.opn.map seC),.sl 2 (D.usr.map usC),.sl 4 (D.sub.map enC),.sl 2 (D.tmb.map tmC)]) rfl dJ cG rfl rfl rfl) (aU hf rfl rfl cG rfl rfl (l1 rfl) (l4 rfl) rfl (aE aA 1 rfl ?_))))))))))))))
   refine aD (hK17 _ (aI ?_))
   refine⟨_,rfl,?_⟩
   rw[aR,if_pos he,if_neg (by omega),hd,if_pos (by first | assumption | omega)]; rfl
theorem aH4 (s:Sta) (e:Ev) (hz:SzS 140737488355100 s) (hr:cQ cK s.usr) (hr2:cQ cW s.tmb) (ts:TsS s) (hu:TS e.user) (ho:TS e.other) (hk:e.kind=4) (he:bT e=true) (ht:s.now≤e.at') :Den Tryz.prog 17 [.agg (aO s),.agg (evC e)]  (·=.tup [.agg (aO (aR s e).1),.s (.int .i64 (aR s e).2)]):=by
 have z1:=hz.o
 have z2:=hz.u
 have z3:=hz.b
 have z4:=hz.t
 have hd:bP s e=(({ s with sub:=if onB s.sub (e.user,e.other)=true then [] else iC s.sub (e.user,e.other) e.at' }),if onB s.sub (e.user,e.other)=true then 90 else 0):=by
  rw[bP,if_neg (by omega),if_neg (by omega),if_neg (by omega),if_pos hk]
 refine aS Tryz.func17 rfl (Nat.le_of_ble_eq_true rfl) (fun w0 A hf=>(aC (fun K1 hK1=>(aB (jN hf rfl rfl rfl rfl (l1 rfl) ?_)))))
 refine aJ hf rfl (cI rfl rfl (lf rfl)) (aX hf rfl rfl rfl bY (aE aA 1 rfl (aD (hK1 _ (aC (fun K2 hK2=>(aC (fun K3 hK3=>(aB (aE aA 1 rfl (aJ hf rfl (aK rfl rfl kL rfl ((show Den Tryz.prog _ _ (·=.s (.bool true)) from eL (gD e hu ho) (by rw[he])))) ?_)))))))))))
 refine aE aA 1 rfl (aD (hK3 _ (bG rfl (aM (hK2 _ (aC (fun K4 hK4=>(aC (fun K5 hK5=>(aB (aE aA 5 rfl (aD (hK5 _ (cD rfl rfl (fun hc2=>?_) (fun hc2=>?_)))))))))))))))
 ·
  simp only[bs] at hc2
  omega
 ·
  simp only[bs] at hc2
  refine aM (hK4 _ (aC (fun K6 hK6=>(aB (aE aA 4 rfl (aG rfl (cB rfl jB pD (l3 rfl) rfl) (bV hf rfl jB rfl sB rfl rfl rfl rfl (lf rfl) (aD (hK6 _ (aC (fun K7 hK7=>(aB (aE aA 1 rfl (aD ?_))))))))))))))
  refine hK7 _ (aC (fun K8 hK8=>(aC (fun K9 hK9=>(aB (aE aA 2 rfl (aD (hK9 _ (aQ (aC (fun K10 hK10=>(aC (fun K11 hK11=>(aB (aG rfl (cU rfl rfl (dA (by omega))) (aE aA 1 rfl ?_))))))))))))))))
  refine aD (hK11 _ (bG rfl (aC (fun K12 hK12=>(aB (aG rfl (cU rfl rfl (dA (by omega))) (aE aA 1 rfl (aD (hK12 _ (bG rfl (aB (aG rfl (cU rfl rfl (dA (by omega))) (aE aA 1 rfl ?_)))))))))))))
  refine aD (hK10 _ (bG rfl (aC (fun K13 hK13=>(aB (aG rfl (cU rfl rfl (gK (by omega))) (aE aA 1 rfl (aD (hK13 _ (bM rfl (aB (aE aA 5 rfl (aJ hf rfl (aK rfl rfl aR3 rfl (aKb s.sub (e.user,e.other) e.at' (by omega) ts.b hu ho)) ?_)))))))))))))
  refine aE aA 4 rfl (aU hf rfl rfl sE rfl rfl (l1 rfl) (l4 rfl) rfl (aE aA 1 rfl ?_))
  refine bK ?_
  refine hK8 _ (aC (fun K14 hK14=>(aC (fun K15 hK15=>(aB (aE aA 2 rfl (aD (hK15 _ (cD rfl rfl (fun hc7=>?_) (fun hc7=>?_))))))))))
  ·
   simp only[bs] at hc7
   refine aC (fun K16 hK16=>(aB (aG rfl (cB rfl bY jX (l3 rfl) rfl) (bO (iX hJ) (aE aA 1 rfl (aU hf rfl rfl cG rfl rfl (l1 rfl) (l4 rfl) rfl (aE aA 1 rfl (aD (hK16 _ (aI ?_))))))))))
   refine⟨_,rfl,?_⟩
   rw[aR,if_pos he,if_neg (by omega),hd,if_neg (by first | assumption | omega | (simp_all; done) | (intro hq; simp only at hq; split at hq <;> simp_all))]; rfl
  ·
   simp only[bs] at hc7
   refine aM (hK14 _ (aC (fun K17 hK17=>(aB (aE aA 3 rfl (aU hf rfl rfl bZ rfl rfl (l1 rfl) (l4 rfl) rfl (aD (hK17 _ (aC (fun K18 hK18=>(aB (aG rfl (bW (cs':=[.s (.int .i64 e.at'),.s (.int .i64 s.hor),.sl 4 (s.opn.map seC),.sl 2 (s.usr.map usC),.sl 4 ((if onB s.sub (e.user,e.other)=true then [] else iC s.sub (e.user,e.other) e.at').map enC),.sl 2 (s.tmb.map tmC)]) rfl dJ cG rfl rfl rfl) (aU hf rfl rfl cG rfl rfl (l1 rfl) (l4 rfl) rfl (aE aA 1 rfl ?_))))))))))))))
   refine aD (hK18 _ (aI ?_))
   refine⟨_,rfl,?_⟩
   rw[aR,if_pos he,if_neg (by omega),hd,if_pos (by first | assumption | omega)]; rfl
theorem aH3 (s:Sta) (e:Ev) (hz:SzS 140737488355100 s) (hr:cQ cK s.usr) (hr2:cQ cW s.tmb) (ts:TsS s) (hu:TS e.user) (ho:TS e.other) (hk:e.kind=5) (he:bT e=true) (ht:s.now≤e.at') :Den Tryz.prog 17 [.agg (aO s),.agg (evC e)]  (·=.tup [.agg (aO (aR s e).1),.s (.int .i64 (aR s e).2)]):=by
 have z1:=hz.o
 have z2:=hz.u
 have z3:=hz.b
 have z4:=hz.t
 have hd:bP s e=(({ s with sub:=if onB s.sub (e.user,e.other)=true then kA s.sub (e.user,e.other) e.at' else [] }),if onB s.sub (e.user,e.other)=true then 0 else 91):=by
  rw[bP,if_neg (by omega),if_neg (by omega),if_neg (by omega),if_neg (by omega),if_pos hk]
 refine aS Tryz.func17 rfl (Nat.le_of_ble_eq_true rfl) (fun w0 A hf=>(aC (fun K1 hK1=>(aB (jN hf rfl rfl rfl rfl (l1 rfl) ?_)))))
 refine aJ hf rfl (cI rfl rfl (lf rfl)) (aX hf rfl rfl rfl bY (aE aA 1 rfl (aD (hK1 _ (aC (fun K2 hK2=>(aC (fun K3 hK3=>(aB (aE aA 1 rfl (aJ hf rfl (aK rfl rfl kL rfl ((show Den Tryz.prog _ _ (·=.s (.bool true)) from eL (gD e hu ho) (by rw[he])))) ?_)))))))))))
 refine aE aA 1 rfl (aD (hK3 _ (bG rfl (aM (hK2 _ (aC (fun K4 hK4=>(aC (fun K5 hK5=>(aB (aE aA 5 rfl (aD (hK5 _ (cD rfl rfl (fun hc2=>?_) (fun hc2=>?_)))))))))))))))
 ·
  simp only[bs] at hc2
  omega
 ·
  simp only[bs] at hc2
  refine aM (hK4 _ (aC (fun K6 hK6=>(aB (aE aA 4 rfl (aG rfl (cB rfl jB pD (l3 rfl) rfl) (bV hf rfl jB rfl sB rfl rfl rfl rfl (lf rfl) (aD (hK6 _ (aC (fun K7 hK7=>(aB (aE aA 1 rfl (aD ?_))))))))))))))
  refine hK7 _ (aC (fun K8 hK8=>(aC (fun K9 hK9=>(aB (aE aA 2 rfl (aD (hK9 _ (aQ (aC (fun K10 hK10=>(aC (fun K11 hK11=>(aB (aG rfl (cU rfl rfl (dA (by omega))) (aE aA 1 rfl ?_))))))))))))))))
  refine aD (hK11 _ (bG rfl (aC (fun K12 hK12=>(aB (aG rfl (cU rfl rfl (dA (by omega))) (aE aA 1 rfl (aD (hK12 _ (bG rfl (aB (aG rfl (cU rfl rfl (dA (by omega))) (aE aA 1 rfl ?_)))))))))))))
  refine aD (hK10 _ (bG rfl (aC (fun K13 hK13=>(aB (aG rfl (cU rfl rfl (dA (by omega))) (aE aA 1 rfl (aD (hK13 _ (bG rfl (aC (fun K14 hK14=>(aB (aG rfl (cU rfl rfl (gK (by omega))) ?_))))))))))))))
  refine aE aA 1 rfl (aD (hK14 _ (bM rfl (aB (aE aA 5 rfl (aJ hf rfl (aK rfl rfl aR2 rfl (aHx s.sub (e.user,e.other) e.at' (by omega))) (aE aA 4 rfl (aU hf rfl rfl sE rfl rfl (l1 rfl) (l4 rfl) rfl (aE aA 1 rfl ?_)))))))))
  refine bK ?_
  refine hK8 _ (aC (fun K15 hK15=>(aC (fun K16 hK16=>(aB (aE aA 2 rfl (aD (hK16 _ (cD rfl rfl (fun hc8=>?_) (fun hc8=>?_))))))))))
  ·
   simp only[bs] at hc8
   refine aC (fun K17 hK17=>(aB (aG rfl (cB rfl bY jX (l3 rfl) rfl) (bO (iX hJ) (aE aA 1 rfl (aU hf rfl rfl cG rfl rfl (l1 rfl) (l4 rfl) rfl (aE aA 1 rfl (aD (hK17 _ (aI ?_))))))))))
   refine⟨_,rfl,?_⟩
   rw[aR,if_pos he,if_neg (by omega),hd,if_neg (by first | assumption | omega | (simp_all; done) | (intro hq; simp only at hq; split at hq <;> simp_all))]; rfl
  ·
   simp only[bs] at hc8
   refine aM (hK15 _ (aC (fun K18 hK18=>(aB (aE aA 3 rfl (aU hf rfl rfl bZ rfl rfl (l1 rfl) (l4 rfl) rfl (aD (hK18 _ (aC (fun K19 hK19=>(aB (aG rfl (bW (cs':=[.s (.int .i64 e.at'),.s (.int .i64 s.hor),.sl 4 (s.opn.map seC),.sl 2 (s.usr.map usC),.sl 4 ((if onB s.sub (e.user,e.other)=true then kA s.sub (e.user,e.other) e.at' else []).map enC),.sl 2 (s.tmb.map tmC)]) rfl dJ cG rfl rfl rfl) (aU hf rfl rfl cG rfl rfl (l1 rfl) (l4 rfl) rfl (aE aA 1 rfl ?_))))))))))))))
   refine aD (hK19 _ (aI ?_))
   refine⟨_,rfl,?_⟩
   rw[aR,if_pos he,if_neg (by omega),hd,if_pos (by first | assumption | omega)]; rfl
theorem aH2 (s:Sta) (e:Ev) (hz:SzS 140737488355100 s) (hr:cQ cK s.usr) (hr2:cQ cW s.tmb) (ts:TsS s) (hu:TS e.user) (ho:TS e.other) (hk:e.kind=6) (he:bT e=true) (ht:s.now≤e.at') :Den Tryz.prog 17 [.agg (aO s),.agg (evC e)]  (·=.tup [.agg (aO (aR s e).1),.s (.int .i64 (aR s e).2)]):=by
 have z1:=hz.o
 have z2:=hz.u
 have z3:=hz.b
 have z4:=hz.t
 have hd:bP s e=(({ s with hor:=max s.hor e.n }),0):=by
  rw[bP,if_neg (by omega),if_neg (by omega),if_neg (by omega),if_neg (by omega),if_neg (by omega),if_pos hk]
 refine aS Tryz.func17 rfl (Nat.le_of_ble_eq_true rfl) (fun w0 A hf=>(aC (fun K1 hK1=>(aB (jN hf rfl rfl rfl rfl (l1 rfl) ?_)))))
 refine aJ hf rfl (cI rfl rfl (lf rfl)) (aX hf rfl rfl rfl bY (aE aA 1 rfl (aD (hK1 _ (aC (fun K2 hK2=>(aC (fun K3 hK3=>(aB (aE aA 1 rfl (aJ hf rfl (aK rfl rfl kL rfl ((show Den Tryz.prog _ _ (·=.s (.bool true)) from eL (gD e hu ho) (by rw[he])))) ?_)))))))))))
 refine aE aA 1 rfl (aD (hK3 _ (bG rfl (aM (hK2 _ (aC (fun K4 hK4=>(aC (fun K5 hK5=>(aB (aE aA 5 rfl (aD (hK5 _ (cD rfl rfl (fun hc2=>?_) (fun hc2=>?_)))))))))))))))
 ·
  simp only[bs] at hc2
  omega
 ·
  simp only[bs] at hc2
  refine aM (hK4 _ (aC (fun K6 hK6=>(aB (aE aA 4 rfl (aG rfl (cB rfl jB pD (l3 rfl) rfl) (bV hf rfl jB rfl sB rfl rfl rfl rfl (lf rfl) (aD (hK6 _ (aC (fun K7 hK7=>(aB (aE aA 1 rfl (aD ?_))))))))))))))
  refine hK7 _ (aC (fun K8 hK8=>(aC (fun K9 hK9=>(aB (aE aA 2 rfl (aD (hK9 _ (aQ (aC (fun K10 hK10=>(aC (fun K11 hK11=>(aB (aG rfl (cU rfl rfl (dA (by omega))) (aE aA 1 rfl ?_))))))))))))))))
  refine aD (hK11 _ (bG rfl (aC (fun K12 hK12=>(aB (aG rfl (cU rfl rfl (dA (by omega))) (aE aA 1 rfl (aD (hK12 _ (bG rfl (aB (aG rfl (cU rfl rfl (dA (by omega))) (aE aA 1 rfl ?_)))))))))))))
  refine aD (hK10 _ (bG rfl (aC (fun K13 hK13=>(aB (aG rfl (cU rfl rfl (dA (by omega))) (aE aA 1 rfl (aD (hK13 _ (bG rfl (aC (fun K14 hK14=>(aB (aG rfl (cU rfl rfl (dA (by omega))) ?_))))))))))))))
  refine aE aA 1 rfl (aD (hK14 _ (bG rfl (aC (fun K15 hK15=>(aB (aG rfl (cU rfl rfl (gK (by omega))) (aE aA 1 rfl (aD (hK15 _ (bM rfl (aB (aE aA 4 rfl ?_)))))))))))))
  refine aG rfl (p_max rfl rfl) (aE aA 1 rfl (aU hf rfl rfl bZ rfl rfl (l1 rfl) (l4 rfl) rfl ?_))
  refine bK ?_
  refine hK8 _ (aC (fun K16 hK16=>(aC (fun K17 hK17=>(aB (aE aA 2 rfl (aD (hK17 _ (cD rfl rfl (fun hc9=>?_) (fun hc9=>?_))))))))))
  ·
   simp only[bs] at hc9
   refine aC (fun K18 hK18=>(aB (aG rfl (cB rfl bY jX (l3 rfl) rfl) (bO (iX hJ) (aE aA 1 rfl (aU hf rfl rfl cG rfl rfl (l1 rfl) (l4 rfl) rfl (aE aA 1 rfl (aD (hK18 _ (aI ?_))))))))))
   refine⟨_,rfl,?_⟩
   rw[aR,if_pos he,if_neg (by omega),hd,if_neg (by first | assumption | omega | (simp_all; done) | (intro hq; simp only at hq; split at hq <;> simp_all))]; rfl
  ·
   simp only[bs] at hc9
   refine aM (hK16 _ (aC (fun K19 hK19=>(aB (aE aA 3 rfl (aU hf rfl rfl bZ rfl rfl (l1 rfl) (l4 rfl) rfl (aD (hK19 _ (aC (fun K20 hK20=>(aB (aG rfl (bW (cs':=[.s (.int .i64 e.at'),.s (.int .i64 (max s.hor e.n)),.sl 4 (s.opn.map seC),.sl 2 (s.usr.map usC),.sl 4 (s.sub.map enC),.sl 2 (s.tmb.map tmC)]) rfl dJ cG rfl rfl rfl) (aU hf rfl rfl cG rfl rfl (l1 rfl) (l4 rfl) rfl (aE aA 1 rfl ?_))))))))))))))
   refine aD (hK20 _ (aI ?_))
   refine⟨_,rfl,?_⟩
   rw[aR,if_pos he,if_neg (by omega),hd,if_pos (by first | assumption | omega)]; rfl
theorem aH1 (s:Sta) (e:Ev) (hz:SzS 140737488355100 s) (hr:cQ cK s.usr) (hr2:cQ cW s.tmb) (ts:TsS s) (hu:TS e.user) (ho:TS e.other) (hk:e.kind=7) (he:bT e=true) (ht:s.now≤e.at') :Den Tryz.prog 17 [.agg (aO s),.agg (evC e)]  (·=.tup [.agg (aO (aR s e).1),.s (.int .i64 (aR s e).2)]):=by
 have z1:=hz.o
 have z2:=hz.u
 have z3:=hz.b
 have z4:=hz.t
 have hd:bP s e=((fQ s e.user e.at'),0):=by
  rw[bP,if_neg (by omega),if_neg (by omega),if_neg (by omega),if_neg (by omega),if_neg (by omega),if_neg (by omega)]
 refine aS Tryz.func17 rfl (Nat.le_of_ble_eq_true rfl) (fun w0 A hf=>(aC (fun K1 hK1=>(aB (jN hf rfl rfl rfl rfl (l1 rfl) ?_)))))
 refine aJ hf rfl (cI rfl rfl (lf rfl)) (aX hf rfl rfl rfl bY (aE aA 1 rfl (aD (hK1 _ (aC (fun K2 hK2=>(aC (fun K3 hK3=>(aB (aE aA 1 rfl (aJ hf rfl (aK rfl rfl kL rfl ((show Den Tryz.prog _ _ (·=.s (.bool true)) from eL (gD e hu ho) (by rw[he])))) ?_)))))))))))
 refine aE aA 1 rfl (aD (hK3 _ (bG rfl (aM (hK2 _ (aC (fun K4 hK4=>(aC (fun K5 hK5=>(aB (aE aA 5 rfl (aD (hK5 _ (cD rfl rfl (fun hc2=>?_) (fun hc2=>?_)))))))))))))))
 ·
  simp only[bs] at hc2
  omega
 ·
  simp only[bs] at hc2
  refine aM (hK4 _ (aC (fun K6 hK6=>(aB (aE aA 4 rfl (aG rfl (cB rfl jB pD (l3 rfl) rfl) (bV hf rfl jB rfl sB rfl rfl rfl rfl (lf rfl) (aD (hK6 _ (aC (fun K7 hK7=>(aB (aE aA 1 rfl (aD ?_))))))))))))))
  refine hK7 _ (aC (fun K8 hK8=>(aC (fun K9 hK9=>(aB (aE aA 2 rfl (aD (hK9 _ (aQ (aC (fun K10 hK10=>(aC (fun K11 hK11=>(aB (aG rfl (cU rfl rfl (dA (by omega))) (aE aA 1 rfl ?_))))))))))))))))
  refine aD (hK11 _ (bG rfl (aC (fun K12 hK12=>(aB (aG rfl (cU rfl rfl (dA (by omega))) (aE aA 1 rfl (aD (hK12 _ (bG rfl (aB (aG rfl (cU rfl rfl (dA (by omega))) (aE aA 1 rfl ?_)))))))))))))
  refine aD (hK10 _ (bG rfl (aC (fun K13 hK13=>(aB (aG rfl (cU rfl rfl (dA (by omega))) (aE aA 1 rfl (aD (hK13 _ (bG rfl (aC (fun K14 hK14=>(aB (aG rfl (cU rfl rfl (dA (by omega))) ?_))))))))))))))
  refine aE aA 1 rfl (aD (hK14 _ (bG rfl (aC (fun K15 hK15=>(aB (aG rfl (cU rfl rfl (dA (by omega))) (aE aA 1 rfl (aD (hK15 _ (bG rfl (aC (fun K16 hK16=>(aB ?_))))))))))))))
  refine aG rfl (cU rfl rfl (gK (by omega))) (aE aA 1 rfl (aD (hK16 _ (bM rfl (aC (fun K17 hK17=>(aB (aE aA 4 rfl (aJ hf rfl (aK rfl rfl aG8 rfl (tK s.opn e.user (by omega))) (aE aA 1 rfl (aU hf rfl rfl sF rfl rfl (l1 rfl) (l4 rfl) rfl (aD (hK17 _ ?_)))))))))))))
  refine aC (fun K18 hK18=>(aB (aE aA 4 rfl (aJ hf rfl (aK rfl rfl aG7 rfl (vX s.sub e.user (by omega))) (aE aA 1 rfl (aU hf rfl rfl sE rfl rfl (l1 rfl) (l4 rfl) rfl (aD (hK18 _ (aC (fun K19 hK19=>(aB (aE aA 4 rfl (aJ hf rfl (aK rfl rfl aG6 rfl (aQz (a:=[_,_]) (k:=4) (aCh s.usr e.user [] (by omega) hu ts.u hr))) (aE aA 1 rfl ?_))))))))))))))
  refine aU hf rfl rfl xF rfl rfl (l1 rfl) (l4 rfl) rfl (aD (hK19 _ (aB (aE aA 6 rfl (aJ hf rfl (aK rfl rfl aR1 rfl (aHt s.tmb e.user e.at' (by omega) hu ts.t hr2)) (aE aA 1 rfl (aU hf rfl rfl aBf rfl rfl (l1 rfl) (l4 rfl) rfl ?_)))))))
  refine bK ?_
  refine hK8 _ (aC (fun K20 hK20=>(aC (fun K21 hK21=>(aB (aE aA 2 rfl (aD (hK21 _ (cD rfl rfl (fun hc10=>?_) (fun hc10=>?_))))))))))
  ·
   simp only[bs] at hc10
   refine aC (fun K22 hK22=>(aB (aG rfl (cB rfl bY jX (l3 rfl) rfl) (bO (iX hJ) (aE aA 1 rfl (aU hf rfl rfl cG rfl rfl (l1 rfl) (l4 rfl) rfl (aE aA 1 rfl (aD (hK22 _ (aI ?_))))))))))
   refine⟨_,rfl,?_⟩
   rw[aR,if_pos he,if_neg (by omega),hd,if_neg (by first | assumption | omega | (simp_all; done) | (intro hq; simp only at hq; split at hq <;> simp_all))]; rfl
  ·
   simp only[bs] at hc10
   refine aM (hK20 _ (aC (fun K23 hK23=>(aB (aE aA 3 rfl (aU hf rfl rfl bZ rfl rfl (l1 rfl) (l4 rfl) rfl (aD (hK23 _ (aC (fun K24 hK24=>(aB (aG rfl (bW (cs':=[.s (.int .i64 e.at'),.s (.int .i64 s.hor),.sl 4 ((s.opn.filter fun e_1=>!jK e.user e_1).map seC),.sl 2 ((oF s.usr e.user []).map usC),.sl 4 ((s.sub.filter fun e_1=>!lC e.user e_1).map enC),.sl 2 ((nH s.tmb e.user e.at').map tmC)]) rfl dJ cG rfl rfl rfl) (aU hf rfl rfl cG rfl rfl (l1 rfl) (l4 rfl) rfl (aE aA 1 rfl ?_))))))))))))))
   refine aD (hK24 _ (aI ?_))
   refine⟨_,rfl,?_⟩
   rw[aR,if_pos he,if_neg (by omega),hd,if_pos (by first | assumption | omega)]; rfl
end Go.Proofs.YtckjaledibkghaaGreat
set_option linter.unusedVariables false
set_option linter.unusedSimpArgs false
namespace Go.Proofs.YtckjaledibkghaaGreat
open Go Go.Abs
theorem aH0 (s:Sta) (e:Ev) (hu:TS e.user) (ho:TS e.other) (he:bT e=false) :Den Tryz.prog 17 [.agg (aO s),.agg (evC e)]  (·=.tup [.agg (aO mY),.s (.int .i64 110)]):=by
 refine aS Tryz.func17 rfl (Nat.le_of_ble_eq_true rfl) (fun w0 A hf=>(aC (fun K1 hK1=>(aB (jN hf rfl rfl rfl rfl (l1 rfl) ?_)))))
 refine aJ hf rfl (cI rfl rfl (lf rfl)) (aX hf rfl rfl rfl bY (aE aA 1 rfl (aD (hK1 _ (aC (fun K2 hK2=>(aC (fun K3 hK3=>(aB (aE aA 1 rfl (aJ hf rfl (aK rfl rfl kL rfl ((show Den Tryz.prog _ _ (·=.s (.bool false)) from eL (gD e hu ho) (by rw[he])))) ?_)))))))))))
 refine aE aA 1 rfl (aD (hK3 _ (bM rfl (aC (fun K4 hK4=>(aB (aG rfl (cB rfl bY jX (l3 rfl) rfl) (bO (iX hJ) (aU hf rfl rfl cG rfl rfl (l1 rfl) (l4 rfl) rfl (aE aA 1 rfl (aD (hK4 _ (aI ?_)))))))))))))
 refine⟨_,rfl,?_⟩
 rfl
theorem aHz (s:Sta) (e:Ev) (hu:TS e.user) (ho:TS e.other) (he:bT e=true) (ht:e.at'<s.now) :Den Tryz.prog 17 [.agg (aO s),.agg (evC e)]  (·=.tup [.agg (aO mY),.s (.int .i64 111)]):=by
 refine aS Tryz.func17 rfl (Nat.le_of_ble_eq_true rfl) (fun w0 A hf=>(aC (fun K1 hK1=>(aB (jN hf rfl rfl rfl rfl (l1 rfl) ?_)))))
 refine aJ hf rfl (cI rfl rfl (lf rfl)) (aX hf rfl rfl rfl bY (aE aA 1 rfl (aD (hK1 _ (aC (fun K2 hK2=>(aC (fun K3 hK3=>(aB (aE aA 1 rfl (aJ hf rfl (aK rfl rfl kL rfl ((show Den Tryz.prog _ _ (·=.s (.bool true)) from eL (gD e hu ho) (by rw[he])))) ?_)))))))))))
 refine aE aA 1 rfl (aD (hK3 _ (bG rfl (aM (hK2 _ (aC (fun K4 hK4=>(aC (fun K5 hK5=>(aB (aE aA 5 rfl (aD (hK5 _ (cD rfl rfl (fun hc2=>?_) (fun hc2=>?_)))))))))))))))
 ·
  simp only[bs] at hc2
  refine aC (fun K6 hK6=>(aB (aG rfl (cB rfl bY jX (l3 rfl) rfl) (bO (iX hJ) (aU hf rfl rfl cG rfl rfl (l1 rfl) (l4 rfl) rfl (aE aA 1 rfl (aD (hK6 _ (aI ?_)))))))))
  refine⟨_,rfl,?_⟩
  rfl
 ·
  simp only[bs] at hc2
  omega
theorem aKc (s:Sta) (e:Ev) (hz:SzS 140737488355100 s) (hr:cQ cK s.usr) (hr2:cQ cW s.tmb) (ts:TsS s) (hu:TS e.user) (ho:TS e.other):Den Tryz.prog 17 [.agg (aO s),.agg (evC e)] (·=.tup [.agg (aO (aR s e).1),.s (.int .i64 (aR s e).2)]):=by
  cases he:bT e with
  | false=>exact eL (aH0 s e hu ho he) (by rw[show aR s e=(mY,110) from by rw[aR,if_neg (by rw[he]; decide)]])
  | true =>
    by_cases ht:e.at'<s.now
    · exact eL (aHz s e hu ho he ht) (by rw[show aR s e=(mY,111) from by rw[aR,if_pos he,if_pos ht]])
    · have ht:=Int.not_lt.1 ht
      rcases tU he with ⟨hk,_⟩ | ⟨hk,_⟩ | ⟨hk,_⟩ | ⟨hk,_⟩ | ⟨hk,_⟩ | ⟨hk,_⟩ | ⟨hk,_⟩
      · exact aH7 s e hz hr hr2 ts hu ho hk he ht
      · exact aH6 s e hz hr hr2 ts hu ho hk he ht
      · exact aH5 s e hz hr hr2 ts hu ho hk he ht
      · exact aH4 s e hz hr hr2 ts hu ho hk he ht
      · exact aH3 s e hz hr hr2 ts hu ho hk he ht
      · exact aH2 s e hz hr hr2 ts hu ho hk he ht
      · exact aH1 s e hz hr hr2 ts hu ho hk he ht
end Go.Proofs.YtckjaledibkghaaGreat
set_option linter.unusedVariables false
set_option linter.unusedSimpArgs false
namespace Go.Proofs.YtckjaledibkghaaGreat
open Go Go.Abs
theorem aFs (s:Sta) (hz:SzS 140737488353000 s) (ho:s.opn.length≤50) (hr:cQ cK s.usr) (ts:TsS s) :Den Tryz.prog 24 [.agg (aO s)]  (·=.agg (aO (dI s))):=by
 have z1:=hz.o
 have z2:=hz.u
 have z3:=hz.b
 have z4:=hz.t
 refine aS Tryz.func24 rfl (Nat.le_of_ble_eq_true rfl) (fun w0 A hf=>(aC (fun K1 hK1=>(aB (jN hf rfl rfl rfl rfl (l1 rfl) ?_)))))
 refine aX hf rfl rfl rfl bY (aD (hK1 _ (aC (fun K2 hK2=>(aB (aE aA 3 rfl (aD (hK2 _ (aC (fun K3 hK3=>(aC (fun K4 hK4=>(aB (aE aA 1 rfl (aD ?_)))))))))))))))
 refine hK4 _ (aQ (bR (ι:=Nat) (fun k=>⟨40,[(1,.ref 1 0 0 0),(2,.ref 2 0 0 0),(3,.sl 4 (s.opn.map seC)),(4,.s (.int .i64 (k:Nat)))],[(2,.box [.s (.int .i64 0),.s (.int .i64 0),.s (.slice none 0 0),.s (.slice none 0 0),.s (.slice none 0 0),.s (.slice none 0 0)]),(1,.box (aO (lZ s k)))]⟩) (fun k=>k≤s.opn.length) (fun k=>s.opn.length - k) 0 ?_ ?_ ?_))
 · exact Nat.zero_le _
 · exact cJ ⟨rfl,rfl,rfl,rfl,trivial⟩ rfl
 ·
  rintro k hC
  refine aC (fun K5 hK5=>(aC (fun K6 hK6=>(aB (aE aA 4 rfl (aD (hK6 _ (aL rfl (fun hc1=>?_) (fun hc1=>?_)))))))))
  ·
   simp only[bs] at hc1
   refine aM (hK5 _ (aC (fun K7 hK7=>(aQ (iE hf (L:=#[true,true,true,true,true,true,true,true,true,true,true,true,true,true,true,true,true,true,true,true,true,true,true,true,true,false]) 25 1 bE (by kernel_rfl) rfl (by kernel_rfl) rfl ?_)))))
   have hk:k<s.opn.length:=by omega
   refine bL [(1,_)] rfl rfl ⟨⟨rfl,rfl⟩,trivial⟩ rfl (bW (cs':=aO (lZ s k)) rfl dJ cG rfl rfl rfl) (aT aA 2 rfl ?_)
   refine bL [(14,_),(15,_)] rfl rfl ⟨⟨rfl,rfl⟩,⟨rfl,rfl⟩,trivial⟩ rfl (aY rfl rfl eJ dH (by first | exact ixm (by omega) | assumption | exact⟨by decide,rfl⟩)) ?_
   refine aT aA 4 rfl ?_
   refine bL [(19,_),(20,_)] rfl rfl ⟨⟨rfl,rfl⟩,⟨rfl,rfl⟩,trivial⟩ rfl (aY rfl rfl eJ dH (by first | exact ixm (by omega) | assumption | exact⟨by decide,rfl⟩)) ?_
   refine aT aA 6 rfl ?_
   refine bL [(26,_),(27,_)] rfl rfl ⟨⟨rfl,rfl⟩,⟨rfl,rfl⟩,trivial⟩ rfl (aY rfl rfl eJ dH (by first | exact ixm (by omega) | assumption | exact⟨by decide,rfl⟩)) ?_
   refine aT aA 4 rfl ?_
   refine bL [(31,_),(32,_)] rfl rfl ⟨⟨rfl,rfl⟩,⟨rfl,rfl⟩,trivial⟩ rfl (aY rfl rfl eJ dH (by first | exact ixm (by omega) | assumption | exact⟨by decide,rfl⟩)) ?_
   refine aT aA 2 rfl (bL [(23,_),(25,_),(30,_),(35,_)] rfl rfl ⟨⟨rfl,rfl⟩,⟨rfl,rfl⟩,⟨rfl,rfl⟩,⟨rfl,rfl⟩,trivial⟩ rfl (cB rfl iJ rZ (l3 rfl) rfl) (aZ [(13,_),(18,_),(36,_)] rfl rfl ⟨⟨rfl,rfl⟩,⟨rfl,rfl⟩,⟨rfl,rfl⟩,trivial⟩ rfl (aK rfl rfl zR rfl (eL (zF (lZ s k) s.opn[k].1.2 (dK s.opn[k] s.now) ((aEi hz hr k (by omega)).mono (by omega)) (aAl hr k (by omega)) (ts.o _ (List.getElem_mem hk)) (aSm ts k (by omega))) (by rw[← tJ hk]))) ?_))
   refine uP [1,2,3,4,37] rfl rfl rfl ?_
   refine aH 25 [] (by kernel_rfl) ⟨?_,trivial⟩
   ·
    refine⟨_,rfl,rfl,(ao rfl (aU hf rfl rfl cG rfl rfl (l1 rfl) (l4 rfl) rfl (aF (dF (by kernel_rfl) ?_))))⟩
    refine hK7 _ (aB (aE aA 1 rfl ?_))
    refine aG rfl (bN rfl rfl (by omega) (by omega)) ?_
    refine aE aA 1 rfl (aD ?_)
    exact⟨k+1,by omega,by omega,cJ ⟨rfl,rfl,rfl,rfl,trivial⟩ rfl⟩
  ·
   simp only[bs] at hc1
   refine bB (hK3 _ (aC (fun K8 hK8=>(aB (aE aA 1 rfl (aU hf rfl rfl sF rfl rfl (l1 rfl) (l4 rfl) rfl (aD (hK8 _ (aC (fun K9 hK9=>(aB (aG rfl (bW (cs':=[.s (.int .i64 s.now),.s (.int .i64 s.hor),.s (.slice none 0 0),.sl 2 ((lZ s k).usr.map usC),.sl 4 (s.sub.map enC),.sl 2 (s.tmb.map tmC)]) rfl dJ cG rfl rfl rfl) (bO (iX (fun w p v h=>aIs (k:=4) h)) (aU hf rfl rfl cG rfl rfl (l1 rfl) (l4 rfl) rfl ?_))))))))))))))
   refine aD (hK9 _ (aI ?_))
   refine⟨_,rfl,?_⟩
   show AV.agg [_,_,_,.sl 2 ((lZ s k).usr.map usC),_,_]=_
   rw[show (lZ s k).usr=oX s s.opn s.usr from by unfold lZ; rw[List.take_of_length_le (by omega)]]; rfl
theorem aFt (s:Sta) (hz:SzS 140737488353000 s) :Den Tryz.prog 25 [.agg (aO s)]  (·=.agg (aO (cF s))):=by
 have z1:=hz.o
 have z2:=hz.u
 have z3:=hz.b
 have z4:=hz.t
 have hlm:(s.usr.map usC).length=s.usr.length:=List.length_map _
 refine aS Tryz.func25 rfl (Nat.le_of_ble_eq_true rfl) (fun w0 A hf=>(aC (fun K1 hK1=>(aB (jN hf rfl rfl rfl rfl (l1 rfl) ?_)))))
 refine aX hf rfl rfl rfl bY (aD (hK1 _ (aC (fun K2 hK2=>(aB (lD hf 2 rfl rfl rfl (aD (hK2 _ (aC (fun K3 hK3=>(aC (fun K4 hK4=>(aB (aE aA 1 rfl (aD ?_)))))))))))))))
 refine hK4 _ (aQ (bR (ι:=Nat) (fun k=>⟨45,[(1,.ref 1 0 0 0),(2,.ref 2 0 0 0),(3,.own 3 2 0 (eH s.hor (s.usr.take k)).length),(4,.s (.int .i64 (k:Nat)))],[(3,.buf 2 ((eH s.hor (s.usr.take k)).map usC)),(2,.box [.s (.int .i64 0),.s (.int .i64 0),.s (.slice none 0 0),.s (.slice none 0 0),.s (.slice none 0 0),.s (.slice none 0 0)]),(1,.box (aO s))]⟩) (fun k=>k≤s.usr.length) (fun k=>s.usr.length - k) 0 ?_ ?_ ?_))
 · exact Nat.zero_le _
 · exact cJ ⟨rfl,rfl,rfl,rfl,trivial⟩ rfl
 ·
  rintro k hC
  refine aC (fun K5 hK5=>(aC (fun K6 hK6=>(aB (aE aA 5 rfl (aD (hK6 _ (aL rfl (fun hc1=>?_) (fun hc1=>?_)))))))))
  ·
   simp only[bs] at hc1
   refine aM (hK5 _ (aC (fun K7 hK7=>(aQ (aC (fun K8 hK8=>(cM hf bE (by kernel_rfl) rfl ?_)))))))
   have hk:k<s.usr.length:=by omega
   have hpl:=uM s.hor (s.usr.take k)
   have htl:(s.usr.take k).length=k:=by rw[List.length_take]; omega
   refine aT aA 3 rfl ?_
   refine bL [(14,_),(15,_)] rfl rfl ⟨⟨rfl,rfl⟩,⟨rfl,rfl⟩,trivial⟩ rfl (aY rfl rfl dW dO (by first | exact ixm (by omega) | assumption | exact⟨by decide,rfl⟩)) ?_
   refine aT aA 4 rfl (aZ [(18,_),(20,_)] rfl rfl ⟨⟨rfl,rfl⟩,⟨rfl,rfl⟩,trivial⟩ rfl (aK rfl rfl aRh rfl (aH8 s.usr[k].2 s.hor (by have:=hz.y _ (List.getElem_mem hk); omega))) ?_)
   refine aT aA 1 rfl (cP [1,2,3,4,5] rfl rfl rfl (hK8 _ (aC (fun K9 hK9=>(aB (aE aA 3 rfl (aD (hK9 _ (aL rfl (fun hc2=>?_) (fun hc2=>?_))))))))))
   ·
    simp only[bs] at hc2
    have hne:¬ fS s.hor s.usr[k].2=[]:=fun h=>by
     have h2:(fS s.hor s.usr[k].2).length=0:=by rw[h]; rfl
     simp only[fS,List.length_map] at *
     omega
    refine aB (aE aA 4 rfl ?_)
    refine aG rfl (aY rfl rfl dW dO (by first | exact ixm (by omega) | assumption | exact⟨by decide,rfl⟩)) ?_
    refine aE aA 3 rfl (aG rfl (cB rfl pY qV (l3 rfl) rfl) (aJ hf rfl (bD eB rfl rfl rfl rfl (l2 rfl)) (cA hf rfl eB rfl rfl rfl (.inl rfl) (by rw[List.length_map]) rfl (by first | rfl | simp [eV,bU]) (by first | (simp only[maxLen,List.length_map,List.length_append,List.length_cons,List.length_nil]; omega) | (simp [maxLen] <;> omega)) (by first | (simp only[List.length_map,List.length_append,List.length_cons,List.length_nil]; omega) | (simp <;> omega)) ?_)))
    refine bO (eR [1,2,4,35] rfl) (aE aA 1 rfl ?_)
    refine bK ?_
    refine hK7 _ (aB (aE aA 1 rfl ?_))
    refine aG rfl (bN rfl rfl (by omega) (by omega)) ?_
    refine aE aA 1 rfl (aD ?_)
    exact⟨k+1,by omega,by omega,cJ ⟨rfl,rfl,(by rw[kD hk,lY,if_neg hne,List.length_append]; rfl),rfl,trivial⟩ (by rw[kD hk,lY,if_neg hne,List.map_append]; rfl)⟩
   ·
    simp only[bs] at hc2
    have hem:fS s.hor s.usr[k].2=[]:=List.eq_nil_of_length_eq_zero (by simp only[fS,List.length_map] at *; omega)
    refine aM (hK7 _ (aB (aE aA 1 rfl ?_)))
    refine aG rfl (bN rfl rfl (by omega) (by omega)) ?_
    refine aE aA 1 rfl (aD ?_)
    exact⟨k+1,by omega,by omega,cJ ⟨rfl,rfl,(by rw[kD hk,lY,if_pos hem,List.append_nil]; rfl),rfl,trivial⟩ (by rw[kD hk,lY,if_pos hem,List.append_nil])⟩
  ·
   simp only[bs] at hc1
   refine bB (hK3 _ (aC (fun K10 hK10=>(aB (aE aA 2 rfl (aU hf rfl rfl xF rfl rfl (l1 rfl) (l4 rfl) rfl (aD (hK10 _ (aC (fun K11 hK11=>(aB (aE aA 4 rfl (aJ hf rfl (aK rfl rfl aRg rfl (aKd s.sub s.hor (by omega))) (aE aA 1 rfl ?_))))))))))))))
   refine aU hf rfl rfl sE rfl rfl (l1 rfl) (l4 rfl) rfl (aD (hK11 _ (aC (fun K12 hK12=>(aB (aG rfl (bW (cs':=[.s (.int .i64 s.now),.s (.int .i64 s.hor),.sl 4 (s.opn.map seC),.own 3 2 0 (eH s.hor (s.usr.take k)).length,.sl 4 ((s.sub.filter fun e=>!decide (e.2.2≤s.hor)).map enC),.sl 2 (s.tmb.map tmC)]) rfl dJ cG rfl rfl rfl) (aU hf rfl rfl cG rfl rfl (l1 rfl) (l4 rfl) rfl (aD (hK12 _ (aI ?_))))))))))
   refine⟨_,rfl,?_⟩
   show AV.agg [_,_,_,AV.conv _ (.own 3 2 0 (eH s.hor (s.usr.take k)).length),_,_]=_
   rw[bX (g:=3) rfl (by rw[List.length_map]),List.take_of_length_le (by omega)]; rfl
end Go.Proofs.YtckjaledibkghaaGreat
set_option linter.unusedVariables false
set_option linter.unusedSimpArgs false
namespace Go.Proofs.YtckjaledibkghaaGreat
open Go Go.Abs
theorem aFo (s:Sta) (u:ByteArray) (t:Int) (hz:SzS 140737488352000 s) (ho:s.opn.length≤50) (hr:cQ cK s.usr) :Den Tryz.prog 30 [.agg (aO s),.s (.string u),.s (.int .i64 t)]  (·=.sl 4 ((fN s u t).map stC)):=by
 have z1:=hz.o
 have z2:=hz.u
 have hsl:=aBk s.opn u t
 have hou:(ofU s.usr u).length*32≤140737488352000:=xS (p:=fun x=>x.2.length*32≤140737488352000) hr hz.y (by simp)
 refine aS Tryz.func30 rfl (Nat.le_of_ble_eq_true rfl) (fun w0 A hf=>(aC (fun K1 hK1=>(aB (aJ hf rfl (cI rfl rfl (lf rfl)) (aG rfl (bQ) (aD (hK1 _ (aC (fun K2 hK2=>(aB (aE aA 2 rfl (aJ hf rfl (aK rfl rfl aG2 rfl (aIu s u (by omega))) (aE aA 1 rfl (aD ?_)))))))))))))))
 refine hK2 _ (aC (fun K3 hK3=>(aB (aE aA 4 rfl (aJ hf rfl (aK rfl rfl aQ8 rfl (aFp s.opn u t (by omega))) (aE aA 1 rfl (aD (hK3 _ (aC (fun K4 hK4=>(aC (fun K5 hK5=>(aB (aE aA 1 rfl (aD ?_)))))))))))))))
 refine hK5 _ (aQ (bR (ι:=Nat×List bS) (fun(⟨k,out⟩:Nat×List bS)=>⟨31,[(7,.sl 4 (out.map stC)),(8,.sl 4 ((dM s.opn u t).map stC)),(9,.s (.int .i64 (k:Nat)))],[]⟩) (fun(⟨k,out⟩:Nat×List bS)=>k≤(dM s.opn u t).length∧out=((dM s.opn u t).take k).foldl fZ (ofU s.usr u)∧out.length≤(ofU s.usr u).length+k) (fun(⟨k,out⟩:Nat×List bS)=>(dM s.opn u t).length - k) (0,ofU s.usr u) ?_ ?_ ?_))
 · exact⟨Nat.zero_le _,rfl,Nat.le_refl _⟩
 · exact cN rfl
 ·
  rintro ⟨k,out⟩ hC
  obtain ⟨h1,h2,h3⟩:=hC
  refine aC (fun K6 hK6=>(aC (fun K7 hK7=>(aB (aE aA 4 rfl (aD (hK7 _ (aL rfl (fun hc1=>?_) (fun hc1=>?_)))))))))
  ·
   simp only[bs] at hc1
   refine aM (hK6 _ (aC (fun K8 hK8=>(aQ (aB (aE aA 3 rfl ?_))))))
   refine aG rfl (aY rfl rfl jE dV (by first | exact ixm (by omega) | assumption | exact⟨by decide,rfl⟩)) ?_
   refine aE aA 1 rfl (aJ hf rfl (aK rfl rfl zO rfl (wA out (dM s.opn u t)[k] (by omega))) (aE aA 1 rfl ?_))
   refine bK ?_
   refine hK8 _ (aB (aE aA 1 rfl ?_))
   refine aG rfl (bN rfl rfl (by omega) (by omega)) ?_
   refine aE aA 1 rfl (aD ?_)
   exact⟨(k+1,fZ out (dM s.opn u t)[k]),⟨by omega,by rw[oV (dM s.opn u t) fZ _ k (by omega),← h2],by have:=tZ out (dM s.opn u t)[k]; omega⟩,by simp only; omega,cN rfl⟩
  ·
   simp only[bs] at hc1
   refine bB (hK4 _ (aC (fun K9 hK9=>(aB (aE aA 2 rfl (aD (hK9 _ (aI ?_))))))))
   refine⟨_,rfl,?_⟩
   show AV.sl 4 (out.map stC)=_
   rw[h2,List.take_of_length_le (by omega)]; rfl
theorem aAp (s:Sta) (u:ByteArray) (hz:SzS 140737488352000 s) :Den Tryz.prog 32 [.agg (aO s),.s (.string u)]  (·=.s (.bool (mO s u))):=by
 have z1:=hz.o
 have z2:=hz.u
 have z3:=hz.b
 have z4:=hz.t
 refine aS Tryz.func32 rfl (Nat.le_of_ble_eq_true rfl) (fun w0 A hf=>(aC (fun K1 hK1=>(aB (aJ hf rfl (cI rfl rfl (lf rfl)) (aE aA 1 rfl (aD (hK1 _ (aC (fun K2 hK2=>(aC (fun K3 hK3=>(aB (aE aA 1 rfl (aD (hK3 _ ?_))))))))))))))))
 refine aQ (bR (ι:=Nat) (fun k=>⟨57,[(1,.s (.string u)),(2,.adr (aO s)),(5,.s (.int .i64 (k:Nat)))],[]⟩) (fun k=>k≤s.tmb.length∧∀ (j:Nat) (hj:j<s.tmb.length),j<k→isK cW u s.tmb[j]=false) (fun k=>s.tmb.length - k) 0 ?_ ?_ ?_)
 · exact⟨Nat.zero_le _,by omega⟩
 · exact cN rfl
 ·
  rintro k hC
  obtain ⟨h1,h2⟩:=hC
  refine aC (fun K4 hK4=>(aC (fun K5 hK5=>(aB (aE aA 5 rfl (aD (hK5 _ (aL rfl (fun hc1=>?_) (fun hc1=>?_)))))))))
  ·
   simp only[bs] at hc1
   refine aM (hK4 _ (aC (fun K6 hK6=>(aQ (aC (fun K7 hK7=>(aB (aE aA 3 rfl ?_))))))))
   refine aG rfl (aY rfl rfl jF gX (by first | exact ixm (by omega) | assumption | exact⟨by decide,rfl⟩)) ?_
   refine aE aA 4 rfl (aD (hK7 _ (aL rfl (fun hc2=>?_) (fun hc2=>?_))))
   ·
    simp only[bs] at hc2
    refine aC (fun K8 hK8=>(aB (aE aA 1 rfl (aD (hK8 _ (aI ?_))))))
    refine⟨_,rfl,?_⟩
    refine aP ?_
    rw[mO,aM8 (key:=cW) (show k<s.tmb.length by omega) (by simp_all[toList_inj])]; rfl
   ·
    simp only[bs] at hc2
    refine aM (hK6 _ (aB (aE aA 1 rfl ?_)))
    refine aG rfl (bN rfl rfl (by omega) (by omega)) ?_
    refine aE aA 1 rfl (aD ?_)
    exact⟨k+1,⟨by omega,kT h2 (by omega) (by simp_all[isK,toList_inj])⟩,by omega,cN rfl⟩
  ·
   simp only[bs] at hc1
   refine bB (hK2 _ (aC (fun K9 hK9=>(aC (fun K10 hK10=>(aB ?_))))))
   have hT:hP cW s.tmb u=false:=aSv (by omega) h2
   clear h2
   refine aE aA 1 rfl (aD (hK10 _ (aQ (bR (ι:=Nat) (fun q=>⟨57,[(1,.s (.string u)),(2,.adr (aO s)),(6,.s (.int .i64 (q:Nat)))],[]⟩) (fun q=>q≤s.usr.length∧∀ (j:Nat) (hj:j<s.usr.length),j<q→isK cK u s.usr[j]=false) (fun q=>s.usr.length - q) 0 ?_ ?_ ?_))))
   · exact⟨Nat.zero_le _,by omega⟩
   · exact cN rfl
   ·
    rintro q hC
    obtain ⟨h3,h4⟩:=hC
    refine aC (fun K11 hK11=>(aC (fun K12 hK12=>(aB (aE aA 5 rfl (aD (hK12 _ (aL rfl (fun hc3=>?_) (fun hc3=>?_)))))))))
    ·
     simp only[bs] at hc3
     refine aM (hK11 _ (aC (fun K13 hK13=>(aQ (aC (fun K14 hK14=>(aB (aE aA 3 rfl ?_))))))))
     refine aG rfl (aY rfl rfl dW dO (by first | exact ixm (by omega) | assumption | exact⟨by decide,rfl⟩)) ?_
     refine aE aA 4 rfl (aD (hK14 _ (aL rfl (fun hc4=>?_) (fun hc4=>?_))))
     ·
      simp only[bs] at hc4
      refine aC (fun K15 hK15=>(aB (aE aA 1 rfl (aD (hK15 _ (aI ?_))))))
      refine⟨_,rfl,?_⟩
      refine aP ?_
      rw[mO,hT,aM8 (key:=cK) (show q<s.usr.length by omega) (by simp_all[toList_inj])]; rfl
     ·
      simp only[bs] at hc4
      refine aM (hK13 _ (aB (aE aA 1 rfl ?_)))
      refine aG rfl (bN rfl rfl (by omega) (by omega)) ?_
      refine aE aA 1 rfl (aD ?_)
      exact⟨q+1,⟨by omega,kT h4 (by omega) (by simp_all[isK,toList_inj])⟩,by omega,cN rfl⟩
    ·
     simp only[bs] at hc3
     refine bB (hK9 _ (aC (fun K16 hK16=>(cM hf bE (by kernel_rfl) rfl ?_))))
     have hU:hP cK s.usr u=false:=aSv (by omega) h4
     clear h4
     refine aT aA 3 rfl (aZ [(38,_),(39,_)] rfl rfl ⟨⟨rfl,rfl⟩,⟨rfl,rfl⟩,trivial⟩ rfl (aK rfl rfl aG8 rfl (tK s.opn u (by omega))) (aT aA 4 rfl (bL [(41,_),(44,_)] rfl rfl ⟨⟨rfl,rfl⟩,⟨rfl,rfl⟩,trivial⟩ rfl (cU rfl rfl (show qJ _ _ _ _ _=some (.bool (s.opn.any (jK u))) from by rw[← aSs seC]; rfl)) ?_)))
     refine aT aA 1 rfl (dP 46 false rfl (fun hg5=>?_) (fun hg5=>?_))
     ·
      refine aT aA 3 rfl (aZ [(48,_),(49,_)] rfl rfl ⟨⟨rfl,rfl⟩,⟨rfl,rfl⟩,trivial⟩ rfl (aK rfl rfl aG7 rfl (vX s.sub u (by omega))) (aT aA 4 rfl (bL [(51,_),(54,_)] rfl rfl ⟨⟨rfl,rfl⟩,⟨rfl,rfl⟩,trivial⟩ rfl (cU rfl rfl (show qJ _ _ _ _ _=some (.bool (s.sub.any (lC u))) from by rw[← aSs enC]; rfl)) ?_)))
      refine aT aA 2 rfl (cP [4] rfl rfl rfl (hK16 _ (aI ?_)))
      refine⟨_,rfl,?_⟩
      refine aP ?_
      rw[mO,hT,hU]
      generalize s.opn.any (jK u)=b3 at *
      generalize s.sub.any (lC u)=b4 at *
      simp_all
     ·
      simp only[bs] at hg5
      refine aT aA 11 rfl (cP [4] rfl rfl rfl (hK16 _ (aI ?_)))
      refine⟨_,rfl,?_⟩
      refine aP ?_
      rw[mO,hT,hU]
      generalize s.opn.any (jK u)=b3 at *
      generalize s.sub.any (lC u)=b4 at *
      simp_all
end Go.Proofs.YtckjaledibkghaaGreat
set_option linter.unusedVariables false
set_option linter.unusedSimpArgs false
namespace Go.Proofs.YtckjaledibkghaaGreat
open Go Go.Abs
theorem aFn (s:Sta) (x:Us) (hx:x.2.length≤9223372036854775807) (ho:s.opn.length≤9223372036854775807) :Den Tryz.prog 38 [.sl 4 (x.2.map stC),.s (.int .i64 s.now),.sl 4 (s.opn.map seC)]  (·=.s (.bool (mN s x))):=by
 refine aS Tryz.func38 rfl (Nat.le_of_ble_eq_true rfl) (fun w0 A hf=>(aC (fun K1 hK1=>(aB (aE aA 1 rfl (aD (hK1 _ (aC (fun K2 hK2=>(aC (fun K3 hK3=>(aB (aE aA 1 rfl (aD (hK3 _ (aQ ?_))))))))))))))))
 refine bR (ι:=Nat) (fun k=>⟨80,[(0,.sl 4 (x.2.map stC)),(1,.s (.int .i64 s.now)),(2,.sl 4 (s.opn.map seC)),(7,.s (.int .i64 (k:Nat)))],[]⟩) (fun k=>k≤x.2.length∧∀ (j:Nat) (hj:j<x.2.length),j<k→eK s x.2[j]=true) (fun k=>x.2.length - k) 0 ?_ ?_ ?_
 · exact⟨Nat.zero_le _,by omega⟩
 · exact cN rfl
 ·
  rintro k hC
  obtain ⟨h1,h2⟩:=hC
  refine aC (fun K4 hK4=>(aC (fun K5 hK5=>(aB (aE aA 4 rfl (aD (hK5 _ (cD rfl rfl (fun hc1=>?_) (fun hc1=>?_)))))))))
  ·
   simp only[bs] at hc1
   refine aM (hK4 _ (aC (fun K6 hK6=>(aQ (aC (fun K7 hK7=>(aB ?_)))))))
   have hk:k<x.2.length:=by omega
   refine aE aA 2 rfl ?_
   refine aG rfl (aY rfl rfl jE dV (by first | exact ixm (by omega) | assumption | exact⟨by decide,rfl⟩)) ?_
   refine aE aA 1 rfl (bV hf rfl iJ rfl dV rfl rfl rfl rfl (lf rfl) (aD (hK7 _ (aC (fun K8 hK8=>(aC (fun K9 hK9=>(aB (aE aA 1 rfl (aD (hK9 _ (aQ (bR (ι:=Nat) (fun i=>⟨80,[(0,.sl 4 (x.2.map stC)),(1,.s (.int .i64 s.now)),(2,.sl 4 (s.opn.map seC)),(7,.s (.int .i64 (k:Nat))),(8,.adr (stC x.2[k])),(9,.s (.int .i64 (i:Nat)))],[]⟩) (fun i=>i≤s.opn.length∧∀ (j:Nat) (hj:j<s.opn.length),j<i→¬ (s.opn[j].1.1=x.2[k].2.1∧s.opn[j].2.2<x.2[k].1.2)) (fun i=>s.opn.length - i) 0 ?_ ?_ ?_)))))))))))))
   · exact⟨Nat.zero_le _,by omega⟩
   · exact cN rfl
   ·
    rintro i hC
    obtain ⟨h3,h4⟩:=hC
    refine aC (fun K10 hK10=>(aC (fun K11 hK11=>(aB (aE aA 4 rfl (aD (hK11 _ (cD rfl rfl (fun hc2=>?_) (fun hc2=>?_)))))))))
    ·
     simp only[bs] at hc2
     refine aM (hK10 _ (aC (fun K12 hK12=>(aQ (aC (fun K13 hK13=>(cM hf bE (by kernel_rfl) rfl ?_)))))))
     have hi:i<s.opn.length:=by omega
     refine aT aA 2 rfl ?_
     refine bL [(26,_),(27,_)] rfl rfl ⟨⟨rfl,rfl⟩,⟨rfl,rfl⟩,trivial⟩ rfl (aY rfl rfl eJ dH (by first | exact ixm (by omega) | assumption | exact⟨by decide,rfl⟩)) ?_
     refine aT aA 6 rfl (dP 34 true rfl (fun hg3=>?_) (fun hg3=>?_))
     ·
      simp only[bs] at hg3
      refine aT aA 4 rfl ?_
      refine bL [(37,_),(38,_)] rfl rfl ⟨⟨rfl,rfl⟩,⟨rfl,rfl⟩,trivial⟩ rfl (aY rfl rfl eJ dH (by first | exact ixm (by omega) | assumption | exact⟨by decide,rfl⟩)) ?_
      refine aT aA 4 rfl (cP [0,1,2,7,8,9,43] rfl rfl rfl (hK13 _ (cD rfl rfl (fun hc4=>?_) (fun hc4=>?_))))
      ·
       simp only[bs] at hc4
       refine aC (fun K14 hK14=>(aB (aE aA 1 rfl (aD (hK14 _ (aI ?_))))))
       refine⟨_,rfl,?_⟩
       refine aP ?_
       exact rN hk (aVp hi (by first | assumption | omega) (by first | assumption | omega))
      ·
       simp only[bs] at hc4
       refine aM (hK12 _ (aB (aE aA 1 rfl ?_)))
       refine aG rfl (bN rfl rfl (by omega) (by omega)) ?_
       refine aE aA 1 rfl (aD ?_)
       exact⟨i+1,⟨by omega,kT h4 (by omega) (by omega)⟩,by omega,cN rfl⟩
     ·
      simp only[bs] at hg3
      refine aT aA 9 rfl (cP [0,1,2,7,8,9,43] rfl rfl rfl (hK13 _ (bG rfl (aM (hK12 _ (aB (aE aA 1 rfl ?_)))))))
      refine aG rfl (bN rfl rfl (by omega) (by omega)) ?_
      refine aE aA 1 rfl (aD ?_)
      exact⟨i+1,⟨by omega,kT h4 (by omega) (by omega)⟩,by omega,cN rfl⟩
    ·
     simp only[bs] at hc2
     refine bB (hK8 _ (aC (fun K15 hK15=>(aB (aE aA 4 rfl (aW rfl rfl rfl (fun hg6=>?_) (fun hg6=>?_)))))))
     ·
      simp only[bs] at hg6
      refine aG rfl (bF rfl aLb bZ rfl) ?_
      refine aE aA 5 rfl (aW rfl rfl rfl (fun hg7=>?_) (fun hg7=>?_))
      ·
       simp only[bs] at hg7
       refine aG rfl (bF rfl aBe bZ rfl) ?_
       refine aE aA 4 rfl (aW rfl rfl rfl (fun hg8=>?_) (fun hg8=>?_))
       ·
        simp only[bs] at hg8
        refine aG rfl (bF rfl aBe bZ rfl) ?_
        refine aE aA 4 rfl (aW rfl rfl rfl (fun hg9=>?_) (fun hg9=>?_))
        ·
         simp only[bs] at hg9
         refine aG rfl (bF rfl aBd bZ rfl) ?_
         refine aE aA 4 rfl (aW rfl rfl rfl (fun hg10=>?_) (fun hg10=>?_))
         ·
          simp only[bs] at hg10
          refine aG rfl (bF rfl aBd bZ rfl) ?_
          refine aE aA 3 rfl (aD (hK15 _ (cD rfl rfl (fun hc11=>?_) (fun hc11=>?_))))
          ·
           simp only[bs] at hc11
           refine aC (fun K16 hK16=>(aB (aE aA 1 rfl (aD (hK16 _ (aI ?_))))))
           refine⟨_,rfl,?_⟩
           refine aP ?_
           exact rN hk (tP (by omega))
          ·
           simp only[bs] at hc11
           refine aM (hK6 _ (aB (aE aA 1 rfl ?_)))
           refine aG rfl (bN rfl rfl (by omega) (by omega)) ?_
           refine aE aA 1 rfl (aD ?_)
           exact⟨k+1,⟨by omega,kT h2 (by omega) (aTv (by omega) h4 (by refine⟨?_,?_,?_,?_,?_,?_⟩ <;> omega))⟩,by omega,cN rfl⟩
         ·
          simp only[bs] at hg10
          refine aE aA 3 rfl (aD (hK15 _ (bM rfl (aC (fun K17 hK17=>(aB (aE aA 1 rfl (aD (hK17 _ (aI ?_))))))))))
          refine⟨_,rfl,?_⟩
          refine aP ?_
          exact rN hk (tP (by omega))
        ·
         simp only[bs] at hg9
         refine aE aA 8 rfl (aD (hK15 _ (bM rfl (aC (fun K18 hK18=>(aB (aE aA 1 rfl (aD (hK18 _ (aI ?_))))))))))
         refine⟨_,rfl,?_⟩
         refine aP ?_
         exact rN hk (tP (by omega))
       ·
        simp only[bs] at hg8
        refine aE aA 13 rfl (aD (hK15 _ (bM rfl (aC (fun K19 hK19=>(aB (aE aA 1 rfl (aD (hK19 _ (aI ?_))))))))))
        refine⟨_,rfl,?_⟩
        refine aP ?_
        exact rN hk (tP (by omega))
      ·
       simp only[bs] at hg7
       refine aE aA 18 rfl (aD (hK15 _ (bM rfl (aC (fun K20 hK20=>(aB (aE aA 1 rfl (aD (hK20 _ (aI ?_))))))))))
       refine⟨_,rfl,?_⟩
       refine aP ?_
       exact rN hk (tP (by omega))
     ·
      simp only[bs] at hg6
      refine aE aA 24 rfl (aD (hK15 _ (bM rfl (aC (fun K21 hK21=>(aB (aE aA 1 rfl (aD (hK21 _ (aI ?_))))))))))
      refine⟨_,rfl,?_⟩
      refine aP ?_
      exact rN hk (tP (by omega))
  ·
   simp only[bs] at hc1
   refine bB (hK2 _ (aC (fun K22 hK22=>(aB (aE aA 4 rfl (aW rfl rfl rfl (fun hg17=>?_) (fun hg17=>?_)))))))
   ·
    simp only[bs] at hg17
    refine aG rfl (gJ rfl) (bI rfl rfl rfl (aJ hf rfl (aK rfl rfl aPs rfl (aFq x.2 hx)) (aE aA 2 rfl (aD (hK22 _ (aI ?_))))))
    refine⟨_,rfl,?_⟩
    refine aP ?_
    exact aMq (by omega) h2 (by simp_all)
   ·
    simp only[bs] at hg17
    refine aE aA 3 rfl (aD (hK22 _ (aI ?_)))
    refine⟨_,rfl,?_⟩
    refine aP ?_
    exact aMq (by omega) h2 (by simp_all)
end Go.Proofs.YtckjaledibkghaaGreat
set_option linter.unusedVariables false
set_option linter.unusedSimpArgs false
namespace Go.Proofs.YtckjaledibkghaaGreat
open Go Go.Abs
theorem aFr (s:Sta) (h1:s.opn.length≤9223372036854775807) (h2:s.usr.length≤9223372036854775807) (h3:s.sub.length≤9223372036854775807) (h4:s.tmb.length≤9223372036854775807) (h5:∀ x∈s.usr,x.2.length≤9223372036854775807) (t1:∀ e∈s.opn,TS e.1.2) (t2:∀ x∈s.usr,TS x.1) (t3:∀ e∈s.sub,TS e.1.1∧TS e.1.2) (t4:∀ x∈s.tmb,TS x.1) :Den Tryz.prog 13 [.agg (aO s)]  (·=.s (.bool (gC s))):=by
 refine aS Tryz.func13 rfl (Nat.le_of_ble_eq_true rfl) (fun w0 A hf=>(aC (fun K1 hK1=>(aB (aJ hf rfl (cI rfl rfl (lf rfl)) (aE aA 1 rfl (aD (hK1 _ (aC (fun K2 hK2=>(aC (fun K3 hK3=>(aB (aE aA 4 rfl (aW rfl rfl rfl (fun hg1=>?_) (fun hg1=>?_))))))))))))))))
 ·
  simp only[bs] at hg1
  refine aG rfl (bF rfl aDb bZ rfl) ?_
  refine aE aA 4 rfl (aW rfl rfl rfl (fun hg2=>?_) (fun hg2=>?_))
  ·
   simp only[bs] at hg2
   refine aG rfl (bF rfl sV bZ rfl) ?_
   refine aE aA 4 rfl (aW rfl rfl rfl (fun hg3=>?_) (fun hg3=>?_))
   ·
    simp only[bs] at hg3
    refine aG rfl (bF rfl sV bZ rfl) ?_
    refine aE aA 4 rfl (aW rfl rfl rfl (fun hg4=>?_) (fun hg4=>?_))
    ·
     simp only[bs] at hg4
     refine aG rfl (bF rfl aDa sF rfl) ?_
     refine aE aA 1 rfl (bI rfl rfl rfl (aJ hf rfl (aK rfl rfl aR8 rfl (aD7 s.opn (by omega) t1)) (aE aA 3 rfl (aW rfl rfl rfl (fun hg5=>?_) (fun hg5=>?_)))))
     ·
      simp only[bs] at hg5
      refine aG rfl (bF rfl wU sE rfl) ?_
      refine aE aA 1 rfl (bI rfl rfl rfl (aJ hf rfl (aK rfl rfl aR7 rfl (aHw s.sub h3 t3)) (aE aA 2 rfl (aD (hK3 _ (cD rfl rfl (fun hc6=>?_) (fun hc6=>?_)))))))
      ·
       simp only[bs] at hc6
       refine aC (fun K4 hK4=>(aB (aE aA 1 rfl (aD (hK4 _ (aI ?_))))))
       refine⟨_,rfl,?_⟩
       refine aP ?_
       refine fX fun h=>?_
       have n0:=h.n0
       have n1:=h.n1
       have n2:=h.h0
       have n3:=h.h1
       have n4:=h.opn
       have n5:=h.sub
       (simp_all; done)
      ·
       simp only[bs] at hc6
       refine aM (hK2 _ (aC (fun K5 hK5=>(aC (fun K6 hK6=>(aB (aE aA 1 rfl (aD (hK6 _ (aQ (bR (ι:=Nat) (fun k1=>⟨178,[(1,.adr (aO s)),(3,.s (.int .i64 (k1:Nat)))],[]⟩) (fun k1=>k1≤s.opn.length∧∀ (j:Nat) (hj:j<s.opn.length),j<k1→s.opn[j].2.2≤s.now) (fun k1=>s.opn.length - k1) 0 ?_ ?_ ?_)))))))))))
       · exact⟨Nat.zero_le _,by omega⟩
       · exact cN rfl
       ·
        rintro k1 hC
        obtain ⟨a1,a2⟩:=hC
        refine aC (fun K7 hK7=>(aC (fun K8 hK8=>(aB (aE aA 5 rfl (aD (hK8 _ (cD rfl rfl (fun hc7=>?_) (fun hc7=>?_)))))))))
        ·
         simp only[bs] at hc7
         refine aM (hK7 _ (aC (fun K9 hK9=>(aQ (aC (fun K10 hK10=>(cM hf bE (by kernel_rfl) rfl ?_)))))))
         have q1:k1<s.opn.length:=by omega
         refine aT aA 3 rfl ?_
         refine bL [(48,_),(49,_)] rfl rfl ⟨⟨rfl,rfl⟩,⟨rfl,rfl⟩,trivial⟩ rfl (aY rfl rfl eJ dH (by first | exact ixm (by omega) | assumption | exact⟨by decide,rfl⟩)) ?_
         refine aT aA 5 rfl (cP [1,3,55] rfl rfl rfl (hK10 _ (cD rfl rfl (fun hc8=>?_) (fun hc8=>?_))))
         ·
          simp only[bs] at hc8
          refine aC (fun K11 hK11=>(aB (aE aA 1 rfl (aD (hK11 _ (aI ?_))))))
          refine⟨_,rfl,?_⟩
          refine aP ?_
          refine fX fun h=>?_
          have:=h.late _ (List.getElem_mem q1)
          omega
         ·
          simp only[bs] at hc8
          refine aM (hK9 _ (aB (aE aA 1 rfl ?_)))
          refine aG rfl (bN rfl rfl (by omega) (by omega)) ?_
          refine aE aA 1 rfl (aD ?_)
          exact⟨k1+1,⟨by omega,kT a2 (by omega) (by omega)⟩,by omega,cN rfl⟩
        ·
         simp only[bs] at hc7
         refine bB (hK5 _ (aC (fun K12 hK12=>(aC (fun K13 hK13=>(aB (aE aA 1 rfl (aD (hK13 _ (aQ (bR (ι:=Nat) (fun k2=>⟨178,[(1,.adr (aO s)),(4,.s (.int .i64 (k2:Nat)))],[]⟩) (fun k2=>k2≤s.usr.length∧RisUp cK (fun x=>mN s x=true) s.usr k2) (fun k2=>s.usr.length - k2) 0 ?_ ?_ ?_)))))))))))
         · exact⟨Nat.zero_le _,RisUp.zero⟩
         · exact cN rfl
         ·
          rintro k2 hC
          obtain ⟨b1,b2⟩:=hC
          refine aC (fun K14 hK14=>(aC (fun K15 hK15=>(aB (aE aA 5 rfl (aD (hK15 _ (cD rfl rfl (fun hc9=>?_) (fun hc9=>?_)))))))))
          ·
           simp only[bs] at hc9
           refine aM (hK14 _ (aC (fun K16 hK16=>(aQ (aC (fun K17 hK17=>(aB ?_)))))))
           have q2:k2<s.usr.length:=by omega
           refine aE aA 3 rfl ?_
           refine aG rfl (aY rfl rfl dW dO (by first | exact ixm (by omega) | assumption | exact⟨by decide,rfl⟩)) ?_
           refine aE aA 1 rfl (bV hf rfl pY rfl dO rfl rfl rfl rfl (lf rfl) (aD (hK17 _ (aC (fun K18 hK18=>(cM hf bE (by kernel_rfl) rfl (aT aA 2 rfl (aZ [(69,_)] rfl rfl ⟨⟨rfl,rfl⟩,trivial⟩ rfl (aK rfl rfl iM rfl (Nm.refRight_den _ (t2 _ (List.getElem_mem _)))) (aT aA 2 rfl (dP 72 false rfl (fun hg10=>?_) (fun hg10=>?_)))))))))))
           ·
            simp only[bs] at hg10
            refine aT aA 6 rfl (aZ [(74,_),(76,_),(78,_)] rfl rfl ⟨⟨rfl,rfl⟩,⟨rfl,rfl⟩,⟨rfl,rfl⟩,trivial⟩ rfl (aK rfl rfl aR6 rfl (aFn s s.usr[k2] (h5 _ (List.getElem_mem q2)) h1)) (aT aA 3 rfl (dP 82 false rfl (fun hg11=>?_) (fun hg11=>?_))))
            ·
             simp only[bs] at hg11
             refine aT aA 3 rfl (dP 85 true rfl (fun hg12=>?_) (fun hg12=>?_))
             ·
              simp only[bs] at hg12
              refine aT aA 3 rfl ?_
              refine bL [(88,_)] rfl rfl ⟨⟨rfl,rfl⟩,trivial⟩ rfl (fB rfl rfl (by omega) (by omega)) ?_
              refine bL [(87,_),(89,_)] rfl rfl ⟨⟨rfl,rfl⟩,⟨rfl,rfl⟩,trivial⟩ rfl (aY rfl rfl dW dO (iB (k:=k2 - 1) (by omega) (by omega))) (aT aA 4 rfl (aZ [(92,_),(94,_)] rfl rfl ⟨⟨rfl,rfl⟩,⟨rfl,rfl⟩,trivial⟩ rfl (aK rfl rfl pI rfl (Nm.refCmp_den _ _ (t2 _ (List.getElem_mem _)) (t2 _ (List.getElem_mem _)))) (aT aA 3 rfl (cP [1,4,98] rfl rfl rfl (hK18 _ (cD rfl rfl (fun hc13=>?_) (fun hc13=>?_)))))))
              ·
               simp only[bs] at hc13
               refine aC (fun K19 hK19=>(aB (aE aA 1 rfl (aD (hK19 _ (aI ?_))))))
               refine⟨_,rfl,?_⟩
               refine aP ?_
               refine fX fun h=>?_
               have e1:=h.unm _ (List.getElem_mem q2)
               have e2:=h.uok _ (List.getElem_mem q2)
               (have e3:=aSl h.usr (k:=k2) (by omega) q2; simp only[cK] at e3; omega)
              ·
               simp only[bs] at hc13
               refine aM (hK16 _ (aB (aE aA 1 rfl ?_)))
               refine aG rfl (bN rfl rfl (by omega) (by omega)) ?_
               refine aE aA 1 rfl (aD ?_)
               exact⟨k2+1,⟨by omega,b2.next (by omega) (by first | assumption | (simp_all; done)) (by first | assumption | (simp_all; done)) (fun h0=>by first | omega | (show dN (s.usr[k2 - 1]).1 (s.usr[k2]).1<0; omega))⟩,by omega,cN rfl⟩
             ·
              simp only[bs] at hg12
              refine aT aA 13 rfl (cP [1,4,98] rfl rfl rfl (hK18 _ (bG rfl (aM (hK16 _ (aB (aE aA 1 rfl ?_)))))))
              refine aG rfl (bN rfl rfl (by omega) (by omega)) ?_
              refine aE aA 1 rfl (aD ?_)
              exact⟨k2+1,⟨by omega,b2.next (by omega) (by first | assumption | (simp_all; done)) (by first | assumption | (simp_all; done)) (fun h0=>by first | omega | (show dN (s.usr[k2 - 1]).1 (s.usr[k2]).1<0; omega))⟩,by omega,cN rfl⟩
            ·
             simp only[bs] at hg11
             refine aT aA 3 rfl (bC rfl rfl ?_)
             refine bC rfl rfl ?_
             refine bC rfl rfl ?_
             refine bC rfl rfl ?_
             refine bC rfl rfl ?_
             refine bC rfl rfl ?_
             refine bC rfl rfl ?_
             refine bC rfl rfl ?_
             refine bC rfl rfl ?_
             refine bC rfl rfl ?_
             refine bC rfl rfl ?_
             refine aT aA 2 rfl (cP [1,4,98] rfl rfl rfl (hK18 _ (bM rfl (aC (fun K20 hK20=>(aB (aE aA 1 rfl (aD (hK20 _ (aI ?_))))))))))
             refine⟨_,rfl,?_⟩
             refine aP ?_
             refine fX fun h=>?_
             have e1:=h.unm _ (List.getElem_mem q2)
             have e2:=h.uok _ (List.getElem_mem q2)
             (simp_all; done)
           ·
            simp only[bs] at hg10
            refine aT aA 13 rfl (bC rfl rfl ?_)
            refine bC rfl rfl ?_
            refine bC rfl rfl ?_
            refine bC rfl rfl ?_
            refine bC rfl rfl ?_
            refine bC rfl rfl ?_
            refine bC rfl rfl ?_
            refine bC rfl rfl ?_
            refine bC rfl rfl ?_
            refine bC rfl rfl ?_
            refine bC rfl rfl ?_
            refine aT aA 2 rfl (cP [1,4,98] rfl rfl rfl (hK18 _ (bM rfl (aC (fun K21 hK21=>(aB (aE aA 1 rfl (aD (hK21 _ (aI ?_))))))))))
            refine⟨_,rfl,?_⟩
            refine aP ?_
            refine fX fun h=>?_
            have e1:=h.unm _ (List.getElem_mem q2)
            have e2:=h.uok _ (List.getElem_mem q2)
            (simp_all; done)
          ·
           simp only[bs] at hc9
           refine bB (hK12 _ (aC (fun K22 hK22=>(aC (fun K23 hK23=>(aB (aE aA 1 rfl (aD (hK23 _ (aQ (bR (ι:=Nat) (fun k3=>⟨178,[(1,.adr (aO s)),(6,.s (.int .i64 (k3:Nat)))],[]⟩) (fun k3=>k3≤s.sub.length∧∀ (j:Nat) (hj:j<s.sub.length),j<k3→kP s s.sub[j]=true) (fun k3=>s.sub.length - k3) 0 ?_ ?_ ?_)))))))))))
           · exact⟨Nat.zero_le _,by omega⟩
           · exact cN rfl
           ·
            rintro k3 hC
            obtain ⟨c1,c2⟩:=hC
            refine aC (fun K24 hK24=>(aC (fun K25 hK25=>(aB (aE aA 5 rfl (aD (hK25 _ (cD rfl rfl (fun hc17=>?_) (fun hc17=>?_)))))))))
            ·
             simp only[bs] at hc17
             refine aM (hK24 _ (aC (fun K26 hK26=>(aQ (aC (fun K27 hK27=>(aB ?_)))))))
             have q3:k3<s.sub.length:=by omega
             refine aE aA 3 rfl ?_
             refine aG rfl (aY rfl rfl fC eG (by first | exact ixm (by omega) | assumption | exact⟨by decide,rfl⟩)) ?_
             refine aE aA 1 rfl (bV hf rfl rY rfl eG rfl rfl rfl rfl (lf rfl) (aD (hK27 _ (aC (fun K28 hK28=>(aB (aE aA 4 rfl (aW rfl rfl rfl (fun hg18=>?_) (fun hg18=>?_)))))))))
             ·
              simp only[bs] at hg18
              refine aG rfl (bF rfl aN7 bZ rfl) ?_
              refine aE aA 6 rfl (aW rfl rfl rfl (fun hg19=>?_) (fun hg19=>?_))
              ·
               simp only[bs] at hg19
               refine aG rfl (bF rfl sS bZ rfl) ?_
               refine aE aA 5 rfl (aW rfl rfl rfl (fun hg20=>?_) (fun hg20=>?_))
               ·
                simp only[bs] at hg20
                refine aG rfl (bF rfl sS bZ rfl) ?_
                refine aE aA 4 rfl (aD (hK28 _ (cD rfl rfl (fun hc21=>?_) (fun hc21=>?_))))
                ·
                 simp only[bs] at hc21
                 refine aC (fun K29 hK29=>(aB (aE aA 1 rfl (aD (hK29 _ (aI ?_))))))
                 refine⟨_,rfl,?_⟩
                 refine aP ?_
                 refine fX fun h=>?_
                 have e1:=gM.1 (h.sok _ (List.getElem_mem q3))
                 omega
                ·
                 simp only[bs] at hc21
                 refine aM (hK26 _ (aB (aE aA 1 rfl ?_)))
                 refine aG rfl (bN rfl rfl (by omega) (by omega)) ?_
                 refine aE aA 1 rfl (aD ?_)
                 exact⟨k3+1,⟨by omega,kT c2 (by omega) (gM.2 ⟨by omega,by omega,by omega⟩)⟩,by omega,cN rfl⟩
               ·
                simp only[bs] at hg20
                refine aE aA 4 rfl (aD (hK28 _ (bG rfl (aM (hK26 _ (aB (aE aA 1 rfl ?_)))))))
                refine aG rfl (bN rfl rfl (by omega) (by omega)) ?_
                refine aE aA 1 rfl (aD ?_)
                exact⟨k3+1,⟨by omega,kT c2 (by omega) (gM.2 ⟨by omega,by omega,by omega⟩)⟩,by omega,cN rfl⟩
              ·
               simp only[bs] at hg19
               refine aE aA 5 rfl (gY rfl rfl rfl ?_)
               refine gY rfl rfl rfl ?_
               refine gY rfl rfl rfl ?_
               refine aE aA 2 rfl (aD (hK28 _ (bM rfl (aC (fun K30 hK30=>(aB (aE aA 1 rfl (aD (hK30 _ (aI ?_))))))))))
               refine⟨_,rfl,?_⟩
               refine aP ?_
               refine fX fun h=>?_
               have e1:=gM.1 (h.sok _ (List.getElem_mem q3))
               omega
             ·
              simp only[bs] at hg18
              refine aE aA 12 rfl (gY rfl rfl rfl ?_)
              refine gY rfl rfl rfl ?_
              refine gY rfl rfl rfl ?_
              refine aE aA 2 rfl (aD (hK28 _ (bM rfl (aC (fun K31 hK31=>(aB (aE aA 1 rfl (aD (hK31 _ (aI ?_))))))))))
              refine⟨_,rfl,?_⟩
              refine aP ?_
              refine fX fun h=>?_
              have e1:=gM.1 (h.sok _ (List.getElem_mem q3))
              omega
            ·
             simp only[bs] at hc17
             refine bB (hK22 _ (aC (fun K32 hK32=>(aC (fun K33 hK33=>(aB (aE aA 1 rfl (aD (hK33 _ (aQ (bR (ι:=Nat) (fun k4=>⟨178,[(1,.adr (aO s)),(8,.s (.int .i64 (k4:Nat)))],[]⟩) (fun k4=>k4≤s.tmb.length∧RisUp cW (fun x=>rO s x=true) s.tmb k4) (fun k4=>s.tmb.length - k4) 0 ?_ ?_ ?_)))))))))))
             · exact⟨Nat.zero_le _,RisUp.zero⟩
             · exact cN rfl
             ·
              rintro k4 hC
              obtain ⟨d1,d2⟩:=hC
              refine aC (fun K34 hK34=>(aC (fun K35 hK35=>(aB (aE aA 5 rfl (aD (hK35 _ (cD rfl rfl (fun hc25=>?_) (fun hc25=>?_)))))))))
              ·
               simp only[bs] at hc25
               refine aM (hK34 _ (aC (fun K36 hK36=>(aQ (aC (fun K37 hK37=>(aB ?_)))))))
               have q4:k4<s.tmb.length:=by omega
               refine aE aA 3 rfl ?_
               refine aG rfl (aY rfl rfl jF gX (by first | exact ixm (by omega) | assumption | exact⟨by decide,rfl⟩)) ?_
               refine aE aA 1 rfl (bV hf rfl wR rfl gX rfl rfl rfl rfl (lf rfl) (aD (hK37 _ (aC (fun K38 hK38=>(cM hf bE (by kernel_rfl) rfl (aT aA 2 rfl (aZ [(146,_)] rfl rfl ⟨⟨rfl,rfl⟩,trivial⟩ rfl (aK rfl rfl iM rfl (Nm.refRight_den _ (t4 _ (List.getElem_mem _)))) (aT aA 2 rfl (dP 149 false rfl (fun hg26=>?_) (fun hg26=>?_)))))))))))
               ·
                simp only[bs] at hg26
                refine aT aA 5 rfl (dP 154 false rfl (fun hg27=>?_) (fun hg27=>?_))
                ·
                 simp only[bs] at hg27
                 refine aT aA 7 rfl (dP 161 false rfl (fun hg28=>?_) (fun hg28=>?_))
                 ·
                  simp only[bs] at hg28
                  refine aT aA 3 rfl (dP 164 true rfl (fun hg29=>?_) (fun hg29=>?_))
                  ·
                   simp only[bs] at hg29
                   refine aT aA 3 rfl ?_
                   refine bL [(167,_)] rfl rfl ⟨⟨rfl,rfl⟩,trivial⟩ rfl (fB rfl rfl (by omega) (by omega)) ?_
                   refine bL [(166,_),(168,_)] rfl rfl ⟨⟨rfl,rfl⟩,⟨rfl,rfl⟩,trivial⟩ rfl (aY rfl rfl jF gX (iB (k:=k4 - 1) (by omega) (by omega))) (aT aA 4 rfl (aZ [(171,_),(173,_)] rfl rfl ⟨⟨rfl,rfl⟩,⟨rfl,rfl⟩,trivial⟩ rfl (aK rfl rfl pI rfl (Nm.refCmp_den _ _ (t4 _ (List.getElem_mem _)) (t4 _ (List.getElem_mem _)))) (aT aA 3 rfl (cP [1,8,177] rfl rfl rfl (hK38 _ (cD rfl rfl (fun hc30=>?_) (fun hc30=>?_)))))))
                   ·
                    simp only[bs] at hc30
                    refine aC (fun K39 hK39=>(aB (aE aA 1 rfl (aD (hK39 _ (aI ?_))))))
                    refine⟨_,rfl,?_⟩
                    refine aP ?_
                    refine fX fun h=>?_
                    have e1:=h.tnm _ (List.getElem_mem q4)
                    have e2:=lI.1 (h.tok _ (List.getElem_mem q4))
                    (have e3:=aSl h.tmb (k:=k4) (by omega) q4; simp only[cW] at e3; omega)
                   ·
                    simp only[bs] at hc30
                    refine aM (hK36 _ (aB (aE aA 1 rfl ?_)))
                    refine aG rfl (bN rfl rfl (by omega) (by omega)) ?_
                    refine aE aA 1 rfl (aD ?_)
                    exact⟨k4+1,⟨by omega,d2.next (by omega) (by first | assumption | (simp_all; done)) (lI.2 ⟨by omega,by omega⟩) (fun h0=>by first | omega | (show dN (s.tmb[k4 - 1]).1 (s.tmb[k4]).1<0; omega))⟩,by omega,cN rfl⟩
                  ·
                   simp only[bs] at hg29
                   refine aT aA 13 rfl (cP [1,8,177] rfl rfl rfl (hK38 _ (bG rfl (aM (hK36 _ (aB (aE aA 1 rfl ?_)))))))
                   refine aG rfl (bN rfl rfl (by omega) (by omega)) ?_
                   refine aE aA 1 rfl (aD ?_)
                   exact⟨k4+1,⟨by omega,d2.next (by omega) (by first | assumption | (simp_all; done)) (lI.2 ⟨by omega,by omega⟩) (fun h0=>by first | omega | (show dN (s.tmb[k4 - 1]).1 (s.tmb[k4]).1<0; omega))⟩,by omega,cN rfl⟩
                 ·
                  simp only[bs] at hg28
                  refine aT aA 3 rfl (bC rfl rfl ?_)
                  refine bC rfl rfl ?_
                  refine bC rfl rfl ?_
                  refine bC rfl rfl ?_
                  refine bC rfl rfl ?_
                  refine bC rfl rfl ?_
                  refine bC rfl rfl ?_
                  refine bC rfl rfl ?_
                  refine bC rfl rfl ?_
                  refine bC rfl rfl ?_
                  refine bC rfl rfl ?_
                  refine aT aA 2 rfl (cP [1,8,177] rfl rfl rfl (hK38 _ (bM rfl (aC (fun K40 hK40=>(aB (aE aA 1 rfl (aD (hK40 _ (aI ?_))))))))))
                  refine⟨_,rfl,?_⟩
                  refine aP ?_
                  refine fX fun h=>?_
                  have e1:=h.tnm _ (List.getElem_mem q4)
                  have e2:=lI.1 (h.tok _ (List.getElem_mem q4))
                  omega
                ·
                 simp only[bs] at hg27
                 refine aT aA 10 rfl (bC rfl rfl ?_)
                 refine bC rfl rfl ?_
                 refine bC rfl rfl ?_
                 refine bC rfl rfl ?_
                 refine bC rfl rfl ?_
                 refine bC rfl rfl ?_
                 refine bC rfl rfl ?_
                 refine bC rfl rfl ?_
                 refine bC rfl rfl ?_
                 refine bC rfl rfl ?_
                 refine bC rfl rfl ?_
                 refine aT aA 2 rfl (cP [1,8,177] rfl rfl rfl (hK38 _ (bM rfl (aC (fun K41 hK41=>(aB (aE aA 1 rfl (aD (hK41 _ (aI ?_))))))))))
                 refine⟨_,rfl,?_⟩
                 refine aP ?_
                 refine fX fun h=>?_
                 have e1:=h.tnm _ (List.getElem_mem q4)
                 have e2:=lI.1 (h.tok _ (List.getElem_mem q4))
                 omega
               ·
                simp only[bs] at hg26
                refine aT aA 15 rfl (bC rfl rfl ?_)
                refine bC rfl rfl ?_
                refine bC rfl rfl ?_
                refine bC rfl rfl ?_
                refine bC rfl rfl ?_
                refine bC rfl rfl ?_
                refine bC rfl rfl ?_
                refine bC rfl rfl ?_
                refine bC rfl rfl ?_
                refine bC rfl rfl ?_
                refine bC rfl rfl ?_
                refine aT aA 2 rfl (cP [1,8,177] rfl rfl rfl (hK38 _ (bM rfl (aC (fun K42 hK42=>(aB (aE aA 1 rfl (aD (hK42 _ (aI ?_))))))))))
                refine⟨_,rfl,?_⟩
                refine aP ?_
                refine fX fun h=>?_
                have e1:=h.tnm _ (List.getElem_mem q4)
                have e2:=lI.1 (h.tok _ (List.getElem_mem q4))
                (simp_all; done)
              ·
               simp only[bs] at hc25
               refine bB (hK32 _ (aC (fun K43 hK43=>(aB (aE aA 1 rfl (aD (hK43 _ (aI ?_))))))))
               refine⟨_,rfl,?_⟩
               refine aP ?_
               exact aTk ⟨by omega,by omega,by omega,by omega,by first | assumption | (simp_all; done),aNy (by omega) a2,b2.n (by omega),b2.r (by omega),b2.q (by omega),by first | assumption | (simp_all; done),aNy (by omega) c2,d2.n (by omega),d2.r (by omega),d2.q (by omega)⟩
     ·
      simp only[bs] at hg5
      refine aE aA 4 rfl (aD (hK3 _ (bM rfl (aC (fun K44 hK44=>(aB (aE aA 1 rfl (aD (hK44 _ (aI ?_))))))))))
      refine⟨_,rfl,?_⟩
      refine aP ?_
      refine fX fun h=>?_
      have n0:=h.n0
      have n1:=h.n1
      have n2:=h.h0
      have n3:=h.h1
      have n4:=h.opn
      have n5:=h.sub
      (simp_all; done)
    ·
     simp only[bs] at hg4
     refine aE aA 10 rfl (aD (hK3 _ (bM rfl (aC (fun K45 hK45=>(aB (aE aA 1 rfl (aD (hK45 _ (aI ?_))))))))))
     refine⟨_,rfl,?_⟩
     refine aP ?_
     refine fX fun h=>?_
     have n0:=h.n0
     have n1:=h.n1
     have n2:=h.h0
     have n3:=h.h1
     have n4:=h.opn
     have n5:=h.sub
     omega
   ·
    simp only[bs] at hg3
    refine aE aA 15 rfl (aD (hK3 _ (bM rfl (aC (fun K46 hK46=>(aB (aE aA 1 rfl (aD (hK46 _ (aI ?_))))))))))
    refine⟨_,rfl,?_⟩
    refine aP ?_
    refine fX fun h=>?_
    have n0:=h.n0
    have n1:=h.n1
    have n2:=h.h0
    have n3:=h.h1
    have n4:=h.opn
    have n5:=h.sub
    omega
  ·
   simp only[bs] at hg2
   refine aE aA 20 rfl (aD (hK3 _ (bM rfl (aC (fun K47 hK47=>(aB (aE aA 1 rfl (aD (hK47 _ (aI ?_))))))))))
   refine⟨_,rfl,?_⟩
   refine aP ?_
   refine fX fun h=>?_
   have n0:=h.n0
   have n1:=h.n1
   have n2:=h.h0
   have n3:=h.h1
   have n4:=h.opn
   have n5:=h.sub
   omega
 ·
  simp only[bs] at hg1
  refine aE aA 25 rfl (aD (hK3 _ (bM rfl (aC (fun K48 hK48=>(aB (aE aA 1 rfl (aD (hK48 _ (aI ?_))))))))))
  refine⟨_,rfl,?_⟩
  refine aP ?_
  refine fX fun h=>?_
  have n0:=h.n0
  have n1:=h.n1
  have n2:=h.h0
  have n3:=h.h1
  have n4:=h.opn
  have n5:=h.sub
  omega
end Go.Proofs.YtckjaledibkghaaGreat
set_option linter.unusedVariables false
set_option linter.unusedSimpArgs false
namespace Go.Proofs.YtckjaledibkghaaGreat
open Go Go.Abs
theorem yI (a b:Sta) (ha:SzS 140737488355328 a) (hb:SzS 140737488355328 b) :Den Tryz.prog 18 [.agg (aO a),.agg (aO b)]  (·=.s (.bool (decide (a=b)))):=by
 have a1:=ha.o
 have a2:=ha.u
 have a3:=ha.b
 have a4:=ha.t
 have b1:=hb.o
 have b2:=hb.u
 have b3:=hb.b
 have b4:=hb.t
 refine aS Tryz.func18 rfl (Nat.le_of_ble_eq_true rfl) (fun w0 A hf=>(aC (fun K1 hK1=>(aB (aJ hf rfl (cI rfl rfl (lf rfl)) (aJ hf rfl (cI rfl rfl (lf rfl)) (aE aA 1 rfl (aD (hK1 _ (aC (fun K2 hK2=>(aC (fun K3 hK3=>(aB (aE aA 6 rfl (aW rfl rfl rfl (fun hg1=>?_) (fun hg1=>?_)))))))))))))))))
 ·
  simp only[bs] at hg1
  refine aG rfl (bF rfl sV bZ rfl) ?_
  refine aE aA 6 rfl (aW rfl rfl rfl (fun hg2=>?_) (fun hg2=>?_))
  ·
   simp only[bs] at hg2
   refine aG rfl (bF rfl aOd xF rfl) ?_
   refine aE aA 8 rfl (aW rfl rfl rfl (fun hg3=>?_) (fun hg3=>?_))
   ·
    simp only[bs] at hg3
    refine aG rfl (bF rfl aOc aBf rfl) ?_
    refine aE aA 7 rfl (aD (hK3 _ (cD rfl rfl (fun hc4=>?_) (fun hc4=>?_))))
    ·
     simp only[bs] at hc4
     refine aC (fun K4 hK4=>(aB (aE aA 1 rfl (aD (hK4 _ (aI ?_))))))
     refine⟨_,rfl,?_⟩
     refine aP ?_
     rw[Bool.eq_iff_iff]
     simp only[oE]
     first
     | (simp_all; done)
     | (simp only[Bool.false_eq_true,decide_eq_true_eq,false_iff]; rintro ⟨i1,i2,i3,i4,i5,i6⟩; first | omega | (simp_all; done) | (rw[i4] at *; omega) | (rw[i6] at *; omega))
    ·
     simp only[bs] at hc4
     refine aM (hK2 _ (aC (fun K5 hK5=>(aC (fun K6 hK6=>(aB (aE aA 1 rfl (aD (hK6 _ (aQ (bR (ι:=Nat) (fun k=>⟨103,[(2,.adr (aO a)),(3,.adr (aO b)),(5,.s (.int .i64 (k:Nat)))],[]⟩) (fun k=>k≤a.usr.length∧a.usr.take k=b.usr.take k) (fun k=>a.usr.length - k) 0 ?_ ?_ ?_)))))))))))
     · exact⟨Nat.zero_le _,rfl⟩
     · exact cN rfl
     ·
      rintro k hC
      obtain ⟨h1,h2⟩:=hC
      refine aC (fun K7 hK7=>(aC (fun K8 hK8=>(aB (aE aA 5 rfl (aD (hK8 _ (cD rfl rfl (fun hc5=>?_) (fun hc5=>?_)))))))))
      ·
       simp only[bs] at hc5
       refine aM (hK7 _ (aC (fun K9 hK9=>(aQ (aC (fun K10 hK10=>(cM hf bE (by kernel_rfl) rfl ?_)))))))
       have hk:k<a.usr.length:=by omega
       have hk2:k<b.usr.length:=by omega
       refine aT aA 3 rfl ?_
       refine bL [(45,_),(46,_)] rfl rfl ⟨⟨rfl,rfl⟩,⟨rfl,rfl⟩,trivial⟩ rfl (aY rfl rfl dW dO (by first | exact ixm (by omega) | assumption | exact⟨by decide,rfl⟩)) ?_
       refine aT aA 5 rfl ?_
       refine bL [(51,_),(52,_)] rfl rfl ⟨⟨rfl,rfl⟩,⟨rfl,rfl⟩,trivial⟩ rfl (aY rfl rfl dW dO (by first | exact ixm (by omega) | assumption | exact⟨by decide,rfl⟩)) ?_
       refine aT aA 4 rfl (dP 57 false rfl (fun hg6=>?_) (fun hg6=>?_))
       ·
        simp only[bs] at hg6
        refine aT aA 3 rfl ?_
        refine bL [(59,_),(60,_)] rfl rfl ⟨⟨rfl,rfl⟩,⟨rfl,rfl⟩,trivial⟩ rfl (aY rfl rfl dW dO (by first | exact ixm (by omega) | assumption | exact⟨by decide,rfl⟩)) ?_
        refine aT aA 5 rfl ?_
        refine bL [(65,_),(66,_)] rfl rfl ⟨⟨rfl,rfl⟩,⟨rfl,rfl⟩,trivial⟩ rfl (aY rfl rfl dW dO (by first | exact ixm (by omega) | assumption | exact⟨by decide,rfl⟩)) ?_
        refine aT aA 2 rfl (aZ [(63,_),(69,_)] rfl rfl ⟨⟨rfl,rfl⟩,⟨rfl,rfl⟩,trivial⟩ rfl (aK rfl rfl vB rfl (aAo a.usr[k].2 b.usr[k].2 (by have:=ha.y _ (List.getElem_mem hk); omega) (by have:=hb.y _ (List.getElem_mem hk2); omega))) ?_)
        refine aT aA 2 rfl (cP [2,3,5,72] rfl rfl rfl (hK10 _ (cD rfl rfl (fun hc7=>?_) (fun hc7=>?_))))
        ·
         simp only[bs] at hc7
         refine aC (fun K11 hK11=>(aB (aE aA 1 rfl (aD (hK11 _ (aI ?_))))))
         refine⟨_,rfl,?_⟩
         refine aP ?_
         symm
         rw[decide_eq_false_iff_not]
         intro e
         subst e
         simp_all
        ·
         simp only[bs] at hc7
         refine aM (hK9 _ (aB (aE aA 1 rfl ?_)))
         refine aG rfl (bN rfl rfl (by omega) (by omega)) ?_
         refine aE aA 1 rfl (aD ?_)
         exact⟨k+1,⟨by omega,jI (by omega) (by omega) h2 (Prod.ext (by simp_all[toList_inj]) (by simp_all))⟩,by omega,cN rfl⟩
       ·
        simp only[bs] at hg6
        refine aT aA 15 rfl (cP [2,3,5,72] rfl rfl rfl (hK10 _ (bM rfl (aC (fun K12 hK12=>(aB (aE aA 1 rfl (aD (hK12 _ (aI ?_))))))))))
        refine⟨_,rfl,?_⟩
        refine aP ?_
        symm
        rw[decide_eq_false_iff_not]
        intro e
        subst e
        simp_all
      ·
       simp only[bs] at hc5
       refine bB (hK5 _ (aC (fun K13 hK13=>(aC (fun K14 hK14=>(aB ?_))))))
       have hU:a.usr=b.usr:=by have:=kV (a:=a.usr) (b:=b.usr) (k:=k) (by omega) (by omega) h2; simpa using this
       refine aE aA 1 rfl (aD (hK14 _ (aQ (bR (ι:=Nat) (fun q=>⟨103,[(2,.adr (aO a)),(3,.adr (aO b)),(6,.s (.int .i64 (q:Nat)))],[]⟩) (fun q=>q≤a.tmb.length∧a.tmb.take q=b.tmb.take q) (fun q=>a.tmb.length - q) 0 ?_ ?_ ?_))))
       · exact⟨Nat.zero_le _,rfl⟩
       · exact cN rfl
       ·
        rintro q hC
        obtain ⟨h3,h4⟩:=hC
        refine aC (fun K15 hK15=>(aC (fun K16 hK16=>(aB (aE aA 5 rfl (aD (hK16 _ (cD rfl rfl (fun hc9=>?_) (fun hc9=>?_)))))))))
        ·
         simp only[bs] at hc9
         refine aM (hK15 _ (aC (fun K17 hK17=>(aQ (aC (fun K18 hK18=>(cM hf bE (by kernel_rfl) rfl ?_)))))))
         have hq:q<a.tmb.length:=by omega
         have hq2:q<b.tmb.length:=by omega
         refine aT aA 3 rfl ?_
         refine bL [(81,_),(82,_)] rfl rfl ⟨⟨rfl,rfl⟩,⟨rfl,rfl⟩,trivial⟩ rfl (aY rfl rfl jF gX (by first | exact ixm (by omega) | assumption | exact⟨by decide,rfl⟩)) ?_
         refine aT aA 4 rfl ?_
         refine bL [(86,_),(87,_)] rfl rfl ⟨⟨rfl,rfl⟩,⟨rfl,rfl⟩,trivial⟩ rfl (aY rfl rfl jF gX (by first | exact ixm (by omega) | assumption | exact⟨by decide,rfl⟩)) ?_
         refine aT aA 1 rfl (bL [(84,_),(89,_)] rfl rfl ⟨⟨rfl,rfl⟩,⟨rfl,rfl⟩,trivial⟩ rfl (sK rfl rfl aWo rfl) (cP [2,3,6,90] rfl rfl rfl (hK18 _ (cD rfl rfl (fun hc10=>?_) (fun hc10=>?_)))))
         ·
          simp only[bs] at hc10
          refine aC (fun K19 hK19=>(aB (aE aA 1 rfl (aD (hK19 _ (aI ?_))))))
          refine⟨_,rfl,?_⟩
          refine aP ?_
          symm
          rw[decide_eq_false_iff_not]
          intro e
          subst e
          simp_all
         ·
          simp only[bs] at hc10
          refine aM (hK17 _ (aB (aE aA 1 rfl ?_)))
          refine aG rfl (bN rfl rfl (by omega) (by omega)) ?_
          refine aE aA 1 rfl (aD ?_)
          exact⟨q+1,⟨by omega,jI (by omega) (by omega) h4 (Prod.ext (by simp_all[toList_inj]) (by simp_all))⟩,by omega,cN rfl⟩
        ·
         simp only[bs] at hc9
         refine bB (hK13 _ (aC (fun K20 hK20=>(aB ?_))))
         have hT:a.tmb=b.tmb:=by have:=kV (a:=a.tmb) (b:=b.tmb) (k:=q) (by omega) (by omega) h4; simpa using this
         refine aE aA 4 rfl (aJ hf rfl (aK rfl rfl aR0 rfl (aHv a.opn b.opn (by omega) (by omega))) (aE aA 1 rfl (aW rfl rfl rfl (fun hg11=>?_) (fun hg11=>?_))))
         ·
          simp only[bs] at hg11
          refine aG rfl (bF rfl wU sE rfl) ?_
          refine aE aA 3 rfl (bI rfl rfl rfl (aJ hf rfl (aK rfl rfl aRz rfl (aKa a.sub b.sub (by omega) (by omega))) (aE aA 2 rfl (aD (hK20 _ (aI ?_))))))
          refine⟨_,rfl,?_⟩
          refine aP ?_
          rw[Bool.eq_iff_iff]
          simp only[oE]
          simp_all
         ·
          simp only[bs] at hg11
          refine aE aA 6 rfl (aD (hK20 _ (aI ?_)))
          refine⟨_,rfl,?_⟩
          refine aP ?_
          rw[Bool.eq_iff_iff]
          simp only[oE]
          simp_all
   ·
    simp only[bs] at hg3
    refine aE aA 7 rfl (aD (hK3 _ (bM rfl (aC (fun K21 hK21=>(aB (aE aA 1 rfl (aD (hK21 _ (aI ?_))))))))))
    refine⟨_,rfl,?_⟩
    refine aP ?_
    rw[Bool.eq_iff_iff]
    simp only[oE]
    first
    | (simp_all; done)
    | (simp only[Bool.false_eq_true,decide_eq_true_eq,false_iff]; rintro ⟨i1,i2,i3,i4,i5,i6⟩; first | omega | (simp_all; done) | (rw[i4] at *; omega) | (rw[i6] at *; omega))
  ·
   simp only[bs] at hg2
   refine aE aA 16 rfl (aD (hK3 _ (bM rfl (aC (fun K22 hK22=>(aB (aE aA 1 rfl (aD (hK22 _ (aI ?_))))))))))
   refine⟨_,rfl,?_⟩
   refine aP ?_
   rw[Bool.eq_iff_iff]
   simp only[oE]
   (simp_all; done)
 ·
  simp only[bs] at hg1
  refine aE aA 23 rfl (aD (hK3 _ (bM rfl (aC (fun K23 hK23=>(aB (aE aA 1 rfl (aD (hK23 _ (aI ?_))))))))))
  refine⟨_,rfl,?_⟩
  refine aP ?_
  rw[Bool.eq_iff_iff]
  simp only[oE]
  (simp_all; done)
end Go.Proofs.YtckjaledibkghaaGreat
set_option linter.unusedVariables false
namespace Go.Abs
open Go
theorem wL:∀ (l a:List bS),(l.foldl fZ a).length≤a.length+l.length
  | [],a=>Nat.le_refl _
  | x::l,a=>by
    have:=wL l (fZ a x)
    have:=tZ a x
    simp only[List.foldl_cons,List.length_cons]
    omega
theorem aLx {n:Nat} {s:Sta} {u:ByteArray} {t:Int} (hz:SzS n s) (hr:cQ cK s.usr) (ho:s.opn.length≤16):(fN s u t).length*32≤n+512:=by
  have h1:(ofU s.usr u).length*32≤n:=xS (p:=fun x=>x.2.length*32≤n) hr hz.y (by simp)
  have h2:=wL (dM s.opn u t) (ofU s.usr u)
  have h3:=aBk s.opn u t
  unfold fN
  omega
theorem aTl {w:World} {p:Hp} {v:Value} {k:Nat} {a b c d e:AV} (h:RelV w p (.agg [a,b,c,d,e,.s (.slice none 0 0)]) v):RelV w p (.agg [a,b,c,d,e,.sl k []]) v:=by
  cases h with
  | agg _ vs hl h =>
    refine .agg _ _ hl fun i c' v hc hv=>?_
    match i,hc with
    | 0,hc=>exact h 0 _ v hc hv
    | 1,hc=>exact h 1 _ v hc hv
    | 2,hc=>exact h 2 _ v hc hv
    | 3,hc=>exact h 3 _ v hc hv
    | 4,hc=>exact h 4 _ v hc hv
    | 5,hc=>cases hc; have:=h 5 _ v rfl hv; cases this; exact .sln k none 0 (by simp [maxLen])
theorem aCw {α:Type} {p:α→Bool} {l:List α} {k:Nat} (hk:k<l.length):(l.take (k+1)).countP p=(l.take k).countP p+if p l[k]=true then 1 else 0:=by
  rw[List.take_succ_eq_append_getElem hk,List.countP_append,List.countP_singleton]
abbrev aB6:ByteArray:=⟨#[97,110,110]⟩
def alE1:Ev:=⟨1,3,aB6,bs0,1,1⟩
def alE2:Ev:=⟨2,7,aB6,bs0,1,2⟩
def alE3:Ev:=⟨7,6,aB6,bs0,0,0⟩
def alE4:Ev:=⟨7,8,bs0,bs0,0,0⟩
def alE5:Ev:=⟨7,9,aB6,bs0,0,0⟩
def alS:Sta:=⟨3,0,[((1,aB6),(1,3))],[],[],[]⟩
def alT:Sta:=⟨7,0,[((1,aB6),(2,7))],[(aB6,[((3,7),(1,1))])],[],[]⟩
def alU:Sta:=⟨9,0,[],[],[],[(aB6,9)]⟩
def alX:Sta:=⟨7,0,[],[(aB6,[((3,7),(1,1))])],[],[]⟩
theorem al_1:aR mY alE1=(alS,0):=by decide +kernel
theorem al_2:aR alS alE2=(alT,0):=by decide +kernel
theorem al_3:aR alT alE3=(mY,111):=by decide +kernel
theorem al_4:aR alT alE4=(mY,110):=by decide +kernel
theorem al_5:aR alT alE5=(alU,0):=by decide +kernel
theorem al_6:dI alT=alX:=by decide +kernel
theorem al_7:fN alT aB6 9=[((3,7),(1,1)),((7,9),(1,2))]:=by decide +kernel
theorem al_8:mO alU aB6=true:=by decide +kernel
theorem al_9:IntKind.i64.wrap ((tW alU:Nat):Int)=1:=by decide +kernel
theorem al_10:decide (alX=alU)=false:=by decide +kernel
theorem al_11:cF alX=alX:=by decide +kernel
theorem aJg:RightP alS:=gZ.1 (by decide +kernel)
theorem nU:RightP alT:=gZ.1 (by decide +kernel)
theorem aB7:RightP alU:=gZ.1 (by decide +kernel)
theorem aUq:RightP alX:=gZ.1 (by decide +kernel)
end Go.Abs
set_option linter.unusedVariables false
set_option linter.unusedSimpArgs false
namespace Go.Proofs.YtckjaledibkghaaGreat
open Go Go.Abs
theorem aFk (s:Sta) (hz:SzS 140737488355328 s) (ts:TsS s):Den Tryz.prog 20 [.agg (aO s)] (·=.s (.bool (gC s))) :=
  aL7 s (by have:=hz.o; omega) (by have:=hz.u; omega) (by have:=hz.b; omega) (by have:=hz.t; omega) (fun x hx=>by have:=hz.y x hx; omega) ts.o ts.u ts.b ts.t
theorem aFj (s:Sta) (hz:SzS 140737488355328 s) (h:RightP s):Den Tryz.prog 20 [.agg (aO s)] (·=.s (.bool true)):=eL (aFk s hz (aFg h)) (by rw[gZ.2 h])
theorem jH (s:Sta) (hz:SzS 140737488355328 s) (ts:TsS s):Den Tryz.prog 13 [.agg (aO s)] (·=.s (.bool (gC s))) :=
  aFr s (by have:=hz.o; omega) (by have:=hz.u; omega) (by have:=hz.b; omega) (by have:=hz.t; omega) (fun x hx=>by have:=hz.y x hx; omega) ts.o ts.u ts.b ts.t
theorem qQ (a b:Sta) (h:a=b) (hz:SzS 140737488355328 a):Den Tryz.prog 26 [.agg (aO a),.agg (aO b)] (·=.s (.bool true)):=by
  subst h; exact eL (zD a a hz hz) (by simp)
theorem aJ9 (a b:Sta) (h:a=b) (hz:SzS 140737488355328 a):Den Tryz.prog 18 [.agg (aO a),.agg (aO b)] (·=.s (.bool true)):=by
  subst h; exact eL (yI a a hz hz) (by simp)
theorem aHu (a b:List bS) (h:a=b) (ha:a.length≤9223372036854775807):Den Tryz.prog 27 [.sl 4 (a.map stC),.sl 4 (b.map stC)] (·=.s (.bool true)):=by
  subst h; exact eL (aAo a a ha ha) (by simp)
theorem aAv (s:Sta) (hz:SzS 140737488352000 s):Den Tryz.prog 15 [.agg (aO s)] (·=.agg (aO s)):=aTz s (hz.mono (by omega))
theorem aQh (s:Sta) (hz:SzS 140737488352000 s):Den Tryz.prog 19 [.agg (aO s)] (·=.agg (aO s)):=aTu s (hz.mono (by omega))
theorem wO (s:Sta) (e:Ev) (hz:SzS 140737488352000 s) (h:RightP s) (hu:TS e.user) (ho:TS e.other):Den Tryz.prog 16 [.agg (aO s),.agg (evC e)] (·=.tup [.agg (aO (aR s e).1),.s (.int .i64 (aR s e).2)]):=nT s e (hz.mono (by omega)) h.usr h.tmb hu ho
theorem aBs (s:Sta) (e:Ev) (hz:SzS 140737488352000 s) (h:RightP s) (hu:TS e.user) (ho:TS e.other):Den Tryz.prog 17 [.agg (aO s),.agg (evC e)] (·=.tup [.agg (aO (aR s e).1),.s (.int .i64 (aR s e).2)]):=aKc s e (hz.mono (by omega)) h.usr h.tmb (aFg h) hu ho
theorem aFi (s:Sta) (hz:SzS 140737488352000 s) (h:RightP s):Den Tryz.prog 20 [.agg (aO s)] (·=.s (.bool true)):=aFj s (hz.mono (by omega)) h
theorem tL (s:Sta) (hz:SzS 140737488352000 s):Den Tryz.prog 18 [.agg (aO s),.agg (aO s)] (·=.s (.bool true)):=aJ9 s s rfl (hz.mono (by omega))
theorem rE (s:Sta) (hz:SzS 140737488352000 s) (h:RightP s):Den Tryz.prog 22 [.agg (aO s)] (·=.agg (aO (dI s))):=vW s (hz.mono (by omega)) (Nat.le_trans (qL h) (by decide)) h.usr
theorem aTm (s:Sta) (hz:SzS 140737488352000 s) (h:RightP s):Den Tryz.prog 24 [.agg (aO s)] (·=.agg (aO (dI s))):=aFs s (hz.mono (by omega)) (Nat.le_trans (qL h) (by decide)) h.usr (aFg h)
theorem oH (s:Sta) (hz:SzS 140737488352000 s):Den Tryz.prog 23 [.agg (aO s)] (·=.agg (aO (cF s))):=aCn s (hz.mono (by omega))
theorem aTn (s:Sta) (hz:SzS 140737488352000 s):Den Tryz.prog 25 [.agg (aO s)] (·=.agg (aO (cF s))):=aFt s (hz.mono (by omega))
theorem aJ0 (s:Sta) (u:ByteArray) (t:Int) (hz:SzS 140737488352000 s) (h:RightP s):Den Tryz.prog 29 [.agg (aO s),.s (.string u),.s (.int .i64 t)] (·=.sl 4 ((fN s u t).map stC)):=aCc s u t hz (Nat.le_trans (qL h) (by decide)) h.usr
theorem aBr (s:Sta) (u:ByteArray) (t:Int) (hz:SzS 140737488352000 s) (h:RightP s):Den Tryz.prog 30 [.agg (aO s),.s (.string u),.s (.int .i64 t)] (·=.sl 4 ((fN s u t).map stC)):=aFo s u t hz (Nat.le_trans (qL h) (by decide)) h.usr
theorem hasW (s:Sta) (u:ByteArray) (hz:SzS 140737488352000 s) (h:RightP s):Den Tryz.prog 31 [.agg (aO s),.s (.string u)] (·=.s (.bool (mO s u))):=aI9 s u hz h.usr h.tmb
theorem zG (s:Sta) (u:ByteArray) (t:Int) (hz:SzS 140737488352000 s) (h:RightP s):Den Tryz.prog 28 [.sl 4 ((fN s u t).map stC)] (·=.sl 4 ((fN s u t).map stC)):=aI0 _ (by have:=aLx (u:=u) (t:=t) hz h.usr (qL h); omega)
theorem zC (s:Sta) (u:ByteArray) (t:Int) (hz:SzS 140737488352000 s) (h:RightP s):Den Tryz.prog 27 [.sl 4 ((fN s u t).map stC),.sl 4 ((fN s u t).map stC)] (·=.s (.bool true)):=aHu _ _ rfl (by have:=aLx (u:=u) (t:=t) hz h.usr (qL h); omega)
theorem cV  :Den Tryz.prog 14 []  (·=.s (.bool true)):=by
 refine aS Tryz.func14 rfl (Nat.le_of_ble_eq_true rfl) (fun w0 A hf=>(aC (fun K1 hK1=>(aB (aE aA 1 rfl (aD (hK1 _ (aC (fun K2 hK2=>(aB (aG rfl (cB rfl bA pF (l3 rfl) rfl) (bO (iX hJ) (aG rfl (cB rfl oS pE (l3 rfl) rfl) (aJ hf rfl (aK rfl rfl gR rfl ((show Den Tryz.prog _ _ (·=.tup [.agg (aO alS),.s (.int .i64 0)]) from eL (nT mY alE1 (⟨by decide,by decide,by decide,by decide,by decide⟩) (RightP.usr uE) (RightP.tmb uE) (by decide) (by decide)) (by rw[al_1])))) ?_))))))))))))))
 refine aE aA 3 rfl (bV hf rfl bA rfl cC rfl rfl rfl rfl (lf rfl) (aE aA 1 rfl (aD (hK2 _ (aC (fun K3 hK3=>(aB (aE aA 1 rfl (aG rfl (cB rfl oS pE (l3 rfl) rfl) (aJ hf rfl (aK rfl rfl gR rfl ((show Den Tryz.prog _ _ (·=.tup [.agg (aO alT),.s (.int .i64 0)]) from eL (nT alS alE2 (⟨by decide,by decide,by decide,by decide,by decide⟩) (RightP.usr aJg) (RightP.tmb aJg) (by decide) (by decide)) (by rw[al_2])))) ?_))))))))))
 refine aE aA 3 rfl (bV hf rfl bA rfl cC rfl rfl rfl rfl (lf rfl) (aE aA 1 rfl (aD (hK3 _ (aC (fun K4 hK4=>(aB (aE aA 1 rfl (aG rfl (cB rfl oS pE (l3 rfl) rfl) (aJ hf rfl (aK rfl rfl gR rfl ((show Den Tryz.prog _ _ (·=.tup [.agg (aO mY),.s (.int .i64 111)]) from eL (nT alT alE3 (⟨by decide,by decide,by decide,by decide,by decide⟩) (RightP.usr nU) (RightP.tmb nU) (by decide) (by decide)) (by rw[al_3])))) ?_))))))))))
 refine aE aA 3 rfl (bV hf rfl bA rfl cC rfl rfl rfl rfl (lf rfl) (aE aA 1 rfl (aD (hK4 _ (aC (fun K5 hK5=>(aB (aE aA 1 rfl (aG rfl (cB rfl oS pE (l3 rfl) rfl) (aJ hf rfl (aK rfl rfl gR rfl ((show Den Tryz.prog _ _ (·=.tup [.agg (aO mY),.s (.int .i64 110)]) from eL (nT alT alE4 (⟨by decide,by decide,by decide,by decide,by decide⟩) (RightP.usr nU) (RightP.tmb nU) (by decide) (by decide)) (by rw[al_4])))) ?_))))))))))
 refine aE aA 3 rfl (bV hf rfl bA rfl cC rfl rfl rfl rfl (lf rfl) (aE aA 1 rfl (aD (hK5 _ (aC (fun K6 hK6=>(aB (aE aA 1 rfl (aG rfl (cB rfl oS pE (l3 rfl) rfl) (aJ hf rfl (aK rfl rfl gR rfl ((show Den Tryz.prog _ _ (·=.tup [.agg (aO alU),.s (.int .i64 0)]) from eL (nT alT alE5 (⟨by decide,by decide,by decide,by decide,by decide⟩) (RightP.usr nU) (RightP.tmb nU) (by decide) (by decide)) (by rw[al_5])))) ?_))))))))))
 refine aE aA 3 rfl (bV hf rfl bA rfl cC rfl rfl rfl rfl (lf rfl) (aE aA 1 rfl (aD (hK6 _ (aC (fun K7 hK7=>(aB (aE aA 1 rfl (aJ hf rfl (aK rfl rfl gQ rfl ((show Den Tryz.prog _ _ (·=.agg (aO alX)) from eL (vW alT (⟨by decide,by decide,by decide,by decide,by decide⟩) (by decide) (RightP.usr nU)) (by rw[al_6])))) ?_)))))))))
 refine bV hf rfl bA rfl cC rfl rfl rfl rfl (lf rfl) (aD (hK7 _ (aC (fun K8 hK8=>(aB (aE aA 1 rfl (aJ hf rfl (aK rfl rfl sA rfl ((show Den Tryz.prog _ _ (·=.sl 4 (List.map stC [((3,7),(1,1)),((7,9),(1,2))])) from eL (aCc alT aB6 9 (⟨by decide,by decide,by decide,by decide,by decide⟩) (by decide) (RightP.usr nU)) (by rw[al_7])))) ?_)))))))
 refine aE aA 1 rfl (aD (hK8 _ (aC (fun K9 hK9=>(aC (fun K10 hK10=>(aB (aE aA 27 rfl (aD (hK10 _ (bG rfl (aM (hK9 _ (aC (fun K11 hK11=>?_)))))))))))))))
 refine cM hf bE (by kernel_rfl) rfl (aT aA 8 rfl ?_)
 refine bL [(81,_)] rfl rfl ⟨⟨rfl,rfl⟩,trivial⟩ rfl (aY rfl rfl cH bH (by first | exact ixm (by omega) | assumption | exact⟨by decide,rfl⟩)) ?_
 refine aT aA 7 rfl ?_
 refine bL [(89,_)] rfl rfl ⟨⟨rfl,rfl⟩,trivial⟩ rfl (aY rfl rfl cH bH (by first | exact ixm (by omega) | assumption | exact⟨by decide,rfl⟩)) ?_
 refine aT aA 7 rfl (aZ [(97,_)] rfl rfl ⟨⟨rfl,rfl⟩,trivial⟩ rfl (aK rfl rfl zT rfl ((show Den Tryz.prog _ _ (·=.s (.bool true)) from eL (aI9 alU aB6 (⟨by decide,by decide,by decide,by decide,by decide⟩) (RightP.usr aB7) (RightP.tmb aB7)) (by rw[al_8])))) ?_)
 refine aT aA 3 rfl (aZ [(101,_)] rfl rfl ⟨⟨rfl,rfl⟩,trivial⟩ rfl (aK rfl rfl aHb rfl ((show Den Tryz.prog _ _ (·=.s (.int .i64 1)) from eL (aCx alU (⟨by decide,by decide,by decide,by decide,by decide⟩)) (by rw[al_9])))) ?_)
 refine aT aA 5 rfl ?_
 refine bL [(107,_)] rfl rfl ⟨⟨rfl,rfl⟩,trivial⟩ rfl (aY rfl rfl gW fT (by first | exact ixm (by omega) | assumption | exact⟨by decide,rfl⟩)) ?_
 refine aT aA 6 rfl (aZ [(114,_)] rfl rfl ⟨⟨rfl,rfl⟩,trivial⟩ rfl (aK rfl rfl nC rfl (aFj alU (⟨by decide,by decide,by decide,by decide,by decide⟩) aB7)) (aT aA 10 rfl ?_))
 refine bL [(125,_)] rfl rfl ⟨⟨rfl,rfl⟩,trivial⟩ rfl (aY rfl rfl eF dG (by first | exact ixm (by omega) | assumption | exact⟨by decide,rfl⟩)) ?_
 refine aT aA 8 rfl (aZ [(134,_)] rfl rfl ⟨⟨rfl,rfl⟩,trivial⟩ rfl (aK rfl rfl gQ rfl ((show Den Tryz.prog _ _ (·=.agg (aO alX)) from eL (vW alX (⟨by decide,by decide,by decide,by decide,by decide⟩) (by decide) (RightP.usr aUq)) (by rw[← al_6,vV])))) ?_)
 refine aZ [(133,_),(135,_)] rfl rfl ⟨⟨rfl,rfl⟩,⟨rfl,rfl⟩,trivial⟩ rfl (aK rfl rfl lU rfl (qQ alX alX rfl (⟨by decide,by decide,by decide,by decide,by decide⟩))) (aT aA 4 rfl (aZ [(139,_),(140,_)] rfl rfl ⟨⟨rfl,rfl⟩,⟨rfl,rfl⟩,trivial⟩ rfl (aK rfl rfl lU rfl ((show Den Tryz.prog _ _ (·=.s (.bool false)) from eL (zD alX alU (⟨by decide,by decide,by decide,by decide,by decide⟩) (⟨by decide,by decide,by decide,by decide,by decide⟩)) (by rw[al_10])))) ?_))
 refine aT aA 4 rfl (aZ [(145,_)] rfl rfl ⟨⟨rfl,rfl⟩,trivial⟩ rfl (aK rfl rfl fW rfl ((show Den Tryz.prog _ _ (·=.agg (aO alX)) from eL (aCn alX (⟨by decide,by decide,by decide,by decide,by decide⟩)) (by rw[al_11])))) ?_)
 refine aT aA 5 rfl (cP [0] rfl rfl rfl (hK11 _ (aI ?_)))
 refine⟨_,rfl,?_⟩
 rfl
end Go.Proofs.YtckjaledibkghaaGreat
set_option linter.unusedVariables false
set_option linter.unusedSimpArgs false
namespace Go.Abs
open Go
def aKz (sp:List Sp) (f a:Int):Prop:=∀ τ:Int,aNb sp τ=(decide (f≤τ)&&decide (τ<a))
theorem aUg (f:Int):aKz [] f f:=by
  intro τ
  rw[aM9,Bool.eq_iff_iff]
  simp only[Bool.and_eq_true,decide_eq_true_eq,Bool.false_eq_true,false_iff]
  omega
theorem aQ0 {sp:List Sp} {f a t:Int} (h:aKz sp f a) (h1:f≤a) (h2:a≤t):aKz (sp++[(a,t)]) f t:=by
  intro τ
  rw[aNa,h τ,aT1,aM9,Bool.eq_iff_iff]
  simp only[Bool.and_eq_true,decide_eq_true_eq,Bool.or_eq_true,Bool.false_eq_true,or_false]
  omega
structure WholeI (e:Se) (k:Nat) (a:Int) (stays:List bS) (sp:List Sp) (n:Nat):Prop where
  le:k≤n
  ge:e.2.2≤a
  l1:stays.length=k
  l2:sp.length=k
  ends:∀ y∈stays,y.1.2≤a
  cov:aKz sp e.2.2 a
theorem WholeI.start (e:Se) (n:Nat):WholeI e 0 e.2.2 [] [] n:=⟨Nat.zero_le _,Int.le_refl _,rfl,rfl,by simp,aUg _⟩
theorem WholeI.next {e:Se} {k n:Nat} {a t s0:Int} {stays:List bS} {sp:List Sp} (h:WholeI e k a stays sp n) (hk:k<n) (ht:a≤t):WholeI e (k+1) t (stays++[((a,t),(e.1.1,s0))]) (sp++[(a,t)]) n:=by
  refine⟨hk,Int.le_trans h.ge ht,by rw[List.length_append,h.l1]; rfl,by rw[List.length_append,h.l2]; rfl,fun y hy=>?_,aQ0 h.cov h.ge ht⟩
  rcases List.mem_append.1 hy with hy | hy
  · exact Int.le_trans (h.ends y hy) ht
  · rw[List.mem_singleton.1 hy]; exact Int.le_refl _
variable {P:Program}
theorem aSq {t:TypeId} {k:IntKind} {a b:Int} (h:a=b):qJ P .neq t (.int k a) (.int k b)=some (.bool false):=by
  subst h; simp [qJ,aBb]
end Go.Abs
