import Derived.WalkKit
import Derived.WalkSpells
import Derived.WalkLawsBesides
import Derived.Deep.LoopGhost
import Derived.ChangeKeysEq
import Derived.Still
import Derived.Lib.AppendZeros
import Derived.Laws.StructEq
import Derived.OpenShut
import Derived.Scope
import Derived.Shelf.SlSortCmp.Kit1
import Derived.Shelf.SlSortCmp.InsertionK
import Derived.Lib.SlicesCompact
import Derived.ProofKit
import Derived.ChangeSame
import Derived.Carry
import Derived.SliceStrings
import Derived.ChangeMaps5
import Derived.Deep.Slices
import Derived.Test.YtpkanhklapfajaaGreatRows
import Derived.Shelf.Abstract
import Derived.Shelf.SlSortCmp.WholeK
import Derived.Shelf.SlSortCmp.Whole1
import Derived.Shelf.SlSortCmp.NoneTotal
import Derived.Deep.RegionLaw
import Derived.Lib.Walk
import Derived.Lib.Overlaps
import Derived.Lib.AppendZerosOnto
import Derived.Laws.CopyRow
import Derived.Test.YtpkanhklapfajaaGreatKQ1
import Derived.Test.YtpkanhklapfajaaGreatKQ2
import Derived.Test.YtpkanhklapfajaaGreatKQ3
import Derived.Test.YtpkanhklapfajaaGreatKQ4
import Derived.Test.YtpkanhklapfajaaGreatKQ5
set_option maxRecDepth 20000
set_option maxHeartbeats 16000000
set_option linter.unusedVariables false
set_option linter.unusedSimpArgs false
namespace Go.Proofs.YtpkanhklapfajaaGreat
open Go Go.Abs
theorem aFu (s:Sta) (h1:s.opn.length≤9223372036854775807) (h2:s.usr.length≤9223372036854775807) (h3:s.sub.length≤9223372036854775807) (h4:s.tmb.length≤9223372036854775807) (h5:∀ x∈s.usr,x.2.length≤9223372036854775807) (t1:∀ e∈s.opn,TS e.1.2) (t2:∀ x∈s.usr,TS x.1) (t3:∀ e∈s.sub,TS e.1.1∧TS e.1.2) (t4:∀ x∈s.tmb,TS x.1) :Den Tryz.prog 12 [.agg (aT s)]  (·=.s (.bool (gY s))):=by
 refine aR Tryz.func12 rfl (Nat.le_of_ble_eq_true rfl) (fun w0 A hf=>(aC (fun K1 hK1=>(aB (aI hf rfl (cE rfl rfl (lf rfl)) (aE aA 1 rfl (aD (hK1 _ (aC (fun K2 hK2=>(aC (fun K3 hK3=>(aB (aE aA 4 rfl (aU rfl rfl rfl (fun hg1=>?_) (fun hg1=>?_))))))))))))))))
 ·
  simp only[bs] at hg1
  refine aH rfl (bM rfl sQ cA rfl) ?_
  refine aE aA 4 rfl (aU rfl rfl rfl (fun hg2=>?_) (fun hg2=>?_))
  ·
   simp only[bs] at hg2
   refine aH rfl (bM rfl xC cA rfl) ?_
   refine aE aA 4 rfl (aU rfl rfl rfl (fun hg3=>?_) (fun hg3=>?_))
   ·
    simp only[bs] at hg3
    refine aH rfl (bM rfl xC cA rfl) ?_
    refine aE aA 4 rfl (aU rfl rfl rfl (fun hg4=>?_) (fun hg4=>?_))
    ·
     simp only[bs] at hg4
     refine aH rfl (bM rfl aDo aQr rfl) ?_
     refine aE aA 1 rfl (aX rfl rfl rfl (aI hf rfl (aK rfl rfl aS5 rfl (aEc s.opn (by omega) t1)) (aE aA 3 rfl (aU rfl rfl rfl (fun hg5=>?_) (fun hg5=>?_)))))
     ·
      simp only[bs] at hg5
      refine aH rfl (bM rfl aDn aQq rfl) ?_
      refine aE aA 1 rfl (aX rfl rfl rfl (aI hf rfl (aK rfl rfl aS4 rfl (aH5 s.sub h3 t3)) (aE aA 2 rfl (aD (hK3 _ (dY rfl rfl (fun hc6=>?_) (fun hc6=>?_)))))))
      ·
       simp only[bs] at hc6
       refine aC (fun K4 hK4=>(aB (aE aA 1 rfl (aD (hK4 _ (aJ ?_))))))
       refine⟨_,rfl,?_⟩
       refine aO ?_
       refine gC fun h=>?_
       have n0:=h.n0
       have n1:=h.n1
       have n2:=h.h0
       have n3:=h.h1
       have n4:=h.opn
       have n5:=h.sub
       (simp_all; done)
      ·
       simp only[bs] at hc6
       refine aN (hK2 _ (aC (fun K5 hK5=>(aC (fun K6 hK6=>(aB (aE aA 1 rfl (aD (hK6 _ (aP (bT (ι:=Nat) (fun k1=>⟨178,[(1,.adr (aT s)),(3,.s (.int .i64 (k1:Nat)))],[]⟩) (fun k1=>k1≤s.opn.length∧∀ (j:Nat) (hj:j<s.opn.length),j<k1→s.opn[j].2.2≤s.now) (fun k1=>s.opn.length - k1) 0 ?_ ?_ ?_)))))))))))
       · exact⟨Nat.zero_le _,by omega⟩
       · exact cQ rfl
       ·
        rintro k1 hC
        obtain ⟨a1,a2⟩:=hC
        refine aC (fun K7 hK7=>(aC (fun K8 hK8=>(aB (aE aA 5 rfl (aD (hK8 _ (dY rfl rfl (fun hc7=>?_) (fun hc7=>?_)))))))))
        ·
         simp only[bs] at hc7
         refine aN (hK7 _ (aC (fun K9 hK9=>(aP (aC (fun K10 hK10=>(cP hf bE (by kernel_rfl) rfl ?_)))))))
         have q1:k1<s.opn.length:=by omega
         refine aV aA 3 rfl ?_
         refine bQ [(48,_),(49,_)] rfl rfl ⟨⟨rfl,rfl⟩,⟨rfl,rfl⟩,trivial⟩ rfl (bG rfl rfl tU qC (by first | exact ixm (by omega) | assumption | exact⟨by decide,rfl⟩)) ?_
         refine aV aA 5 rfl (cT [1,3,55] rfl rfl rfl (hK10 _ (dY rfl rfl (fun hc8=>?_) (fun hc8=>?_))))
         ·
          simp only[bs] at hc8
          refine aC (fun K11 hK11=>(aB (aE aA 1 rfl (aD (hK11 _ (aJ ?_))))))
          refine⟨_,rfl,?_⟩
          refine aO ?_
          refine gC fun h=>?_
          have:=h.late _ (List.getElem_mem q1)
          omega
         ·
          simp only[bs] at hc8
          refine aN (hK9 _ (aB (aE aA 1 rfl ?_)))
          refine aH rfl (bO rfl rfl (by omega) (by omega)) ?_
          refine aE aA 1 rfl (aD ?_)
          exact⟨k1+1,⟨by omega,oO a2 (by omega) (by omega)⟩,by omega,cQ rfl⟩
        ·
         simp only[bs] at hc7
         refine bF (hK5 _ (aC (fun K12 hK12=>(aC (fun K13 hK13=>(aB (aE aA 1 rfl (aD (hK13 _ (aP (bT (ι:=Nat) (fun k2=>⟨178,[(1,.adr (aT s)),(4,.s (.int .i64 (k2:Nat)))],[]⟩) (fun k2=>k2≤s.usr.length∧RisUp cM (fun x=>mG s x=true) s.usr k2) (fun k2=>s.usr.length - k2) 0 ?_ ?_ ?_)))))))))))
         · exact⟨Nat.zero_le _,RisUp.zero⟩
         · exact cQ rfl
         ·
          rintro k2 hC
          obtain ⟨b1,b2⟩:=hC
          refine aC (fun K14 hK14=>(aC (fun K15 hK15=>(aB (aE aA 5 rfl (aD (hK15 _ (dY rfl rfl (fun hc9=>?_) (fun hc9=>?_)))))))))
          ·
           simp only[bs] at hc9
           refine aN (hK14 _ (aC (fun K16 hK16=>(aP (aC (fun K17 hK17=>(aB ?_)))))))
           have q2:k2<s.usr.length:=by omega
           refine aE aA 3 rfl ?_
           refine aH rfl (bG rfl rfl aBi tV (by first | exact ixm (by omega) | assumption | exact⟨by decide,rfl⟩)) ?_
           refine aE aA 1 rfl (bY hf rfl aOx rfl tV rfl rfl rfl rfl (lf rfl) (aD (hK17 _ (aC (fun K18 hK18=>(cP hf bE (by kernel_rfl) rfl (aV aA 2 rfl (bJ [(69,_)] rfl rfl ⟨⟨rfl,rfl⟩,trivial⟩ rfl (aK rfl rfl lP rfl (Nm.refRight_den _ (t2 _ (List.getElem_mem _)))) (aV aA 2 rfl (fC 72 false rfl (fun hg10=>?_) (fun hg10=>?_)))))))))))
           ·
            simp only[bs] at hg10
            refine aV aA 6 rfl (bJ [(74,_),(76,_),(78,_)] rfl rfl ⟨⟨rfl,rfl⟩,⟨rfl,rfl⟩,⟨rfl,rfl⟩,trivial⟩ rfl (aK rfl rfl aS3 rfl (aFs s s.usr[k2] (h5 _ (List.getElem_mem q2)) h1)) (aV aA 3 rfl (fC 82 false rfl (fun hg11=>?_) (fun hg11=>?_))))
            ·
             simp only[bs] at hg11
             refine aV aA 3 rfl (fC 85 true rfl (fun hg12=>?_) (fun hg12=>?_))
             ·
              simp only[bs] at hg12
              refine aV aA 3 rfl ?_
              refine bQ [(88,_)] rfl rfl ⟨⟨rfl,rfl⟩,trivial⟩ rfl (eZ rfl rfl (by omega) (by omega)) ?_
              refine bQ [(87,_),(89,_)] rfl rfl ⟨⟨rfl,rfl⟩,⟨rfl,rfl⟩,trivial⟩ rfl (bG rfl rfl aBi tV (hY (k:=k2 - 1) (by omega) (by omega))) (aV aA 4 rfl (bJ [(92,_),(94,_)] rfl rfl ⟨⟨rfl,rfl⟩,⟨rfl,rfl⟩,trivial⟩ rfl (aK rfl rfl vD rfl (Nm.refCmp_den _ _ (t2 _ (List.getElem_mem _)) (t2 _ (List.getElem_mem _)))) (aV aA 3 rfl (cT [1,4,98] rfl rfl rfl (hK18 _ (dY rfl rfl (fun hc13=>?_) (fun hc13=>?_)))))))
              ·
               simp only[bs] at hc13
               refine aC (fun K19 hK19=>(aB (aE aA 1 rfl (aD (hK19 _ (aJ ?_))))))
               refine⟨_,rfl,?_⟩
               refine aO ?_
               refine gC fun h=>?_
               have e1:=h.unm _ (List.getElem_mem q2)
               have e2:=h.uok _ (List.getElem_mem q2)
               (have e3:=aTo h.usr (k:=k2) (by omega) q2; simp only[cM] at e3; omega)
              ·
               simp only[bs] at hc13
               refine aN (hK16 _ (aB (aE aA 1 rfl ?_)))
               refine aH rfl (bO rfl rfl (by omega) (by omega)) ?_
               refine aE aA 1 rfl (aD ?_)
               exact⟨k2+1,⟨by omega,b2.next (by omega) (by first | assumption | (simp_all; done)) (by first | assumption | (simp_all; done)) (fun h0=>by first | omega | (show eR (s.usr[k2 - 1]).1 (s.usr[k2]).1<0; omega))⟩,by omega,cQ rfl⟩
             ·
              simp only[bs] at hg12
              refine aV aA 13 rfl (cT [1,4,98] rfl rfl rfl (hK18 _ (bW rfl (aN (hK16 _ (aB (aE aA 1 rfl ?_)))))))
              refine aH rfl (bO rfl rfl (by omega) (by omega)) ?_
              refine aE aA 1 rfl (aD ?_)
              exact⟨k2+1,⟨by omega,b2.next (by omega) (by first | assumption | (simp_all; done)) (by first | assumption | (simp_all; done)) (fun h0=>by first | omega | (show eR (s.usr[k2 - 1]).1 (s.usr[k2]).1<0; omega))⟩,by omega,cQ rfl⟩
            ·
             simp only[bs] at hg11
             refine aV aA 3 rfl (aZ rfl rfl ?_)
             refine aZ rfl rfl ?_
             refine aZ rfl rfl ?_
             refine aZ rfl rfl ?_
             refine aZ rfl rfl ?_
             refine aZ rfl rfl ?_
             refine aZ rfl rfl ?_
             refine aZ rfl rfl ?_
             refine aZ rfl rfl ?_
             refine aZ rfl rfl ?_
             refine aZ rfl rfl ?_
             refine aV aA 2 rfl (cT [1,4,98] rfl rfl rfl (hK18 _ (bN rfl (aC (fun K20 hK20=>(aB (aE aA 1 rfl (aD (hK20 _ (aJ ?_))))))))))
             refine⟨_,rfl,?_⟩
             refine aO ?_
             refine gC fun h=>?_
             have e1:=h.unm _ (List.getElem_mem q2)
             have e2:=h.uok _ (List.getElem_mem q2)
             (simp_all; done)
           ·
            simp only[bs] at hg10
            refine aV aA 13 rfl (aZ rfl rfl ?_)
            refine aZ rfl rfl ?_
            refine aZ rfl rfl ?_
            refine aZ rfl rfl ?_
            refine aZ rfl rfl ?_
            refine aZ rfl rfl ?_
            refine aZ rfl rfl ?_
            refine aZ rfl rfl ?_
            refine aZ rfl rfl ?_
            refine aZ rfl rfl ?_
            refine aZ rfl rfl ?_
            refine aV aA 2 rfl (cT [1,4,98] rfl rfl rfl (hK18 _ (bN rfl (aC (fun K21 hK21=>(aB (aE aA 1 rfl (aD (hK21 _ (aJ ?_))))))))))
            refine⟨_,rfl,?_⟩
            refine aO ?_
            refine gC fun h=>?_
            have e1:=h.unm _ (List.getElem_mem q2)
            have e2:=h.uok _ (List.getElem_mem q2)
            (simp_all; done)
          ·
           simp only[bs] at hc9
           refine bF (hK12 _ (aC (fun K22 hK22=>(aC (fun K23 hK23=>(aB (aE aA 1 rfl (aD (hK23 _ (aP (bT (ι:=Nat) (fun k3=>⟨178,[(1,.adr (aT s)),(6,.s (.int .i64 (k3:Nat)))],[]⟩) (fun k3=>k3≤s.sub.length∧∀ (j:Nat) (hj:j<s.sub.length),j<k3→kT s s.sub[j]=true) (fun k3=>s.sub.length - k3) 0 ?_ ?_ ?_)))))))))))
           · exact⟨Nat.zero_le _,by omega⟩
           · exact cQ rfl
           ·
            rintro k3 hC
            obtain ⟨c1,c2⟩:=hC
            refine aC (fun K24 hK24=>(aC (fun K25 hK25=>(aB (aE aA 5 rfl (aD (hK25 _ (dY rfl rfl (fun hc17=>?_) (fun hc17=>?_)))))))))
            ·
             simp only[bs] at hc17
             refine aN (hK24 _ (aC (fun K26 hK26=>(aP (aC (fun K27 hK27=>(aB ?_)))))))
             have q3:k3<s.sub.length:=by omega
             refine aE aA 3 rfl ?_
             refine aH rfl (bG rfl rfl mP iU (by first | exact ixm (by omega) | assumption | exact⟨by decide,rfl⟩)) ?_
             refine aE aA 1 rfl (bY hf rfl aCj rfl iU rfl rfl rfl rfl (lf rfl) (aD (hK27 _ (aC (fun K28 hK28=>(aB (aE aA 4 rfl (aU rfl rfl rfl (fun hg18=>?_) (fun hg18=>?_)))))))))
             ·
              simp only[bs] at hg18
              refine aH rfl (bM rfl aL0 cA rfl) ?_
              refine aE aA 6 rfl (aU rfl rfl rfl (fun hg19=>?_) (fun hg19=>?_))
              ·
               simp only[bs] at hg19
               refine aH rfl (bM rfl aBg cA rfl) ?_
               refine aE aA 5 rfl (aU rfl rfl rfl (fun hg20=>?_) (fun hg20=>?_))
               ·
                simp only[bs] at hg20
                refine aH rfl (bM rfl aBg cA rfl) ?_
                refine aE aA 4 rfl (aD (hK28 _ (dY rfl rfl (fun hc21=>?_) (fun hc21=>?_))))
                ·
                 simp only[bs] at hc21
                 refine aC (fun K29 hK29=>(aB (aE aA 1 rfl (aD (hK29 _ (aJ ?_))))))
                 refine⟨_,rfl,?_⟩
                 refine aO ?_
                 refine gC fun h=>?_
                 have e1:=hJ.1 (h.sok _ (List.getElem_mem q3))
                 omega
                ·
                 simp only[bs] at hc21
                 refine aN (hK26 _ (aB (aE aA 1 rfl ?_)))
                 refine aH rfl (bO rfl rfl (by omega) (by omega)) ?_
                 refine aE aA 1 rfl (aD ?_)
                 exact⟨k3+1,⟨by omega,oO c2 (by omega) (hJ.2 ⟨by omega,by omega,by omega⟩)⟩,by omega,cQ rfl⟩
               ·
                simp only[bs] at hg20
                refine aE aA 4 rfl (aD (hK28 _ (bW rfl (aN (hK26 _ (aB (aE aA 1 rfl ?_)))))))
                refine aH rfl (bO rfl rfl (by omega) (by omega)) ?_
                refine aE aA 1 rfl (aD ?_)
                exact⟨k3+1,⟨by omega,oO c2 (by omega) (hJ.2 ⟨by omega,by omega,by omega⟩)⟩,by omega,cQ rfl⟩
              ·
               simp only[bs] at hg19
               refine aE aA 5 rfl (dI rfl rfl rfl ?_)
               refine dI rfl rfl rfl ?_
               refine dI rfl rfl rfl ?_
               refine aE aA 2 rfl (aD (hK28 _ (bN rfl (aC (fun K30 hK30=>(aB (aE aA 1 rfl (aD (hK30 _ (aJ ?_))))))))))
               refine⟨_,rfl,?_⟩
               refine aO ?_
               refine gC fun h=>?_
               have e1:=hJ.1 (h.sok _ (List.getElem_mem q3))
               omega
             ·
              simp only[bs] at hg18
              refine aE aA 12 rfl (dI rfl rfl rfl ?_)
              refine dI rfl rfl rfl ?_
              refine dI rfl rfl rfl ?_
              refine aE aA 2 rfl (aD (hK28 _ (bN rfl (aC (fun K31 hK31=>(aB (aE aA 1 rfl (aD (hK31 _ (aJ ?_))))))))))
              refine⟨_,rfl,?_⟩
              refine aO ?_
              refine gC fun h=>?_
              have e1:=hJ.1 (h.sok _ (List.getElem_mem q3))
              omega
            ·
             simp only[bs] at hc17
             refine bF (hK22 _ (aC (fun K32 hK32=>(aC (fun K33 hK33=>(aB (aE aA 1 rfl (aD (hK33 _ (aP (bT (ι:=Nat) (fun k4=>⟨178,[(1,.adr (aT s)),(8,.s (.int .i64 (k4:Nat)))],[]⟩) (fun k4=>k4≤s.tmb.length∧RisUp dV (fun x=>rJ s x=true) s.tmb k4) (fun k4=>s.tmb.length - k4) 0 ?_ ?_ ?_)))))))))))
             · exact⟨Nat.zero_le _,RisUp.zero⟩
             · exact cQ rfl
             ·
              rintro k4 hC
              obtain ⟨d1,d2⟩:=hC
              refine aC (fun K34 hK34=>(aC (fun K35 hK35=>(aB (aE aA 5 rfl (aD (hK35 _ (dY rfl rfl (fun hc25=>?_) (fun hc25=>?_)))))))))
              ·
               simp only[bs] at hc25
               refine aN (hK34 _ (aC (fun K36 hK36=>(aP (aC (fun K37 hK37=>(aB ?_)))))))
               have q4:k4<s.tmb.length:=by omega
               refine aE aA 3 rfl ?_
               refine aH rfl (bG rfl rfl aHq tY (by first | exact ixm (by omega) | assumption | exact⟨by decide,rfl⟩)) ?_
               refine aE aA 1 rfl (bY hf rfl aJ1 rfl tY rfl rfl rfl rfl (lf rfl) (aD (hK37 _ (aC (fun K38 hK38=>(cP hf bE (by kernel_rfl) rfl (aV aA 2 rfl (bJ [(146,_)] rfl rfl ⟨⟨rfl,rfl⟩,trivial⟩ rfl (aK rfl rfl lP rfl (Nm.refRight_den _ (t4 _ (List.getElem_mem _)))) (aV aA 2 rfl (fC 149 false rfl (fun hg26=>?_) (fun hg26=>?_)))))))))))
               ·
                simp only[bs] at hg26
                refine aV aA 5 rfl (fC 154 false rfl (fun hg27=>?_) (fun hg27=>?_))
                ·
                 simp only[bs] at hg27
                 refine aV aA 7 rfl (fC 161 false rfl (fun hg28=>?_) (fun hg28=>?_))
                 ·
                  simp only[bs] at hg28
                  refine aV aA 3 rfl (fC 164 true rfl (fun hg29=>?_) (fun hg29=>?_))
                  ·
                   simp only[bs] at hg29
                   refine aV aA 3 rfl ?_
                   refine bQ [(167,_)] rfl rfl ⟨⟨rfl,rfl⟩,trivial⟩ rfl (eZ rfl rfl (by omega) (by omega)) ?_
                   refine bQ [(166,_),(168,_)] rfl rfl ⟨⟨rfl,rfl⟩,⟨rfl,rfl⟩,trivial⟩ rfl (bG rfl rfl aHq tY (hY (k:=k4 - 1) (by omega) (by omega))) (aV aA 4 rfl (bJ [(171,_),(173,_)] rfl rfl ⟨⟨rfl,rfl⟩,⟨rfl,rfl⟩,trivial⟩ rfl (aK rfl rfl vD rfl (Nm.refCmp_den _ _ (t4 _ (List.getElem_mem _)) (t4 _ (List.getElem_mem _)))) (aV aA 3 rfl (cT [1,8,177] rfl rfl rfl (hK38 _ (dY rfl rfl (fun hc30=>?_) (fun hc30=>?_)))))))
                   ·
                    simp only[bs] at hc30
                    refine aC (fun K39 hK39=>(aB (aE aA 1 rfl (aD (hK39 _ (aJ ?_))))))
                    refine⟨_,rfl,?_⟩
                    refine aO ?_
                    refine gC fun h=>?_
                    have e1:=h.tnm _ (List.getElem_mem q4)
                    have e2:=lJ.1 (h.tok _ (List.getElem_mem q4))
                    (have e3:=aTo h.tmb (k:=k4) (by omega) q4; simp only[dV] at e3; omega)
                   ·
                    simp only[bs] at hc30
                    refine aN (hK36 _ (aB (aE aA 1 rfl ?_)))
                    refine aH rfl (bO rfl rfl (by omega) (by omega)) ?_
                    refine aE aA 1 rfl (aD ?_)
                    exact⟨k4+1,⟨by omega,d2.next (by omega) (by first | assumption | (simp_all; done)) (lJ.2 ⟨by omega,by omega⟩) (fun h0=>by first | omega | (show eR (s.tmb[k4 - 1]).1 (s.tmb[k4]).1<0; omega))⟩,by omega,cQ rfl⟩
                  ·
                   simp only[bs] at hg29
                   refine aV aA 13 rfl (cT [1,8,177] rfl rfl rfl (hK38 _ (bW rfl (aN (hK36 _ (aB (aE aA 1 rfl ?_)))))))
                   refine aH rfl (bO rfl rfl (by omega) (by omega)) ?_
                   refine aE aA 1 rfl (aD ?_)
                   exact⟨k4+1,⟨by omega,d2.next (by omega) (by first | assumption | (simp_all; done)) (lJ.2 ⟨by omega,by omega⟩) (fun h0=>by first | omega | (show eR (s.tmb[k4 - 1]).1 (s.tmb[k4]).1<0; omega))⟩,by omega,cQ rfl⟩
                 ·
                  simp only[bs] at hg28
                  refine aV aA 3 rfl (aZ rfl rfl ?_)
                  refine aZ rfl rfl ?_
                  refine aZ rfl rfl ?_
                  refine aZ rfl rfl ?_
                  refine aZ rfl rfl ?_
                  refine aZ rfl rfl ?_
                  refine aZ rfl rfl ?_
                  refine aZ rfl rfl ?_
                  refine aZ rfl rfl ?_
                  refine aZ rfl rfl ?_
                  refine aZ rfl rfl ?_
                  refine aV aA 2 rfl (cT [1,8,177] rfl rfl rfl (hK38 _ (bN rfl (aC (fun K40 hK40=>(aB (aE aA 1 rfl (aD (hK40 _ (aJ ?_))))))))))
                  refine⟨_,rfl,?_⟩
                  refine aO ?_
                  refine gC fun h=>?_
                  have e1:=h.tnm _ (List.getElem_mem q4)
                  have e2:=lJ.1 (h.tok _ (List.getElem_mem q4))
                  omega
                ·
                 simp only[bs] at hg27
                 refine aV aA 10 rfl (aZ rfl rfl ?_)
                 refine aZ rfl rfl ?_
                 refine aZ rfl rfl ?_
                 refine aZ rfl rfl ?_
                 refine aZ rfl rfl ?_
                 refine aZ rfl rfl ?_
                 refine aZ rfl rfl ?_
                 refine aZ rfl rfl ?_
                 refine aZ rfl rfl ?_
                 refine aZ rfl rfl ?_
                 refine aZ rfl rfl ?_
                 refine aV aA 2 rfl (cT [1,8,177] rfl rfl rfl (hK38 _ (bN rfl (aC (fun K41 hK41=>(aB (aE aA 1 rfl (aD (hK41 _ (aJ ?_))))))))))
                 refine⟨_,rfl,?_⟩
                 refine aO ?_
                 refine gC fun h=>?_
                 have e1:=h.tnm _ (List.getElem_mem q4)
                 have e2:=lJ.1 (h.tok _ (List.getElem_mem q4))
                 omega
               ·
                simp only[bs] at hg26
                refine aV aA 15 rfl (aZ rfl rfl ?_)
                refine aZ rfl rfl ?_
                refine aZ rfl rfl ?_
                refine aZ rfl rfl ?_
                refine aZ rfl rfl ?_
                refine aZ rfl rfl ?_
                refine aZ rfl rfl ?_
                refine aZ rfl rfl ?_
                refine aZ rfl rfl ?_
                refine aZ rfl rfl ?_
                refine aZ rfl rfl ?_
                refine aV aA 2 rfl (cT [1,8,177] rfl rfl rfl (hK38 _ (bN rfl (aC (fun K42 hK42=>(aB (aE aA 1 rfl (aD (hK42 _ (aJ ?_))))))))))
                refine⟨_,rfl,?_⟩
                refine aO ?_
                refine gC fun h=>?_
                have e1:=h.tnm _ (List.getElem_mem q4)
                have e2:=lJ.1 (h.tok _ (List.getElem_mem q4))
                (simp_all; done)
              ·
               simp only[bs] at hc25
               refine bF (hK32 _ (aC (fun K43 hK43=>(aB (aE aA 1 rfl (aD (hK43 _ (aJ ?_))))))))
               refine⟨_,rfl,?_⟩
               refine aO ?_
               exact aUr ⟨by omega,by omega,by omega,by omega,by first | assumption | (simp_all; done),aG5 (by omega) a2,b2.n (by omega),b2.r (by omega),b2.q (by omega),by first | assumption | (simp_all; done),aG5 (by omega) c2,d2.n (by omega),d2.r (by omega),d2.q (by omega)⟩
     ·
      simp only[bs] at hg5
      refine aE aA 4 rfl (aD (hK3 _ (bN rfl (aC (fun K44 hK44=>(aB (aE aA 1 rfl (aD (hK44 _ (aJ ?_))))))))))
      refine⟨_,rfl,?_⟩
      refine aO ?_
      refine gC fun h=>?_
      have n0:=h.n0
      have n1:=h.n1
      have n2:=h.h0
      have n3:=h.h1
      have n4:=h.opn
      have n5:=h.sub
      (simp_all; done)
    ·
     simp only[bs] at hg4
     refine aE aA 10 rfl (aD (hK3 _ (bN rfl (aC (fun K45 hK45=>(aB (aE aA 1 rfl (aD (hK45 _ (aJ ?_))))))))))
     refine⟨_,rfl,?_⟩
     refine aO ?_
     refine gC fun h=>?_
     have n0:=h.n0
     have n1:=h.n1
     have n2:=h.h0
     have n3:=h.h1
     have n4:=h.opn
     have n5:=h.sub
     omega
   ·
    simp only[bs] at hg3
    refine aE aA 15 rfl (aD (hK3 _ (bN rfl (aC (fun K46 hK46=>(aB (aE aA 1 rfl (aD (hK46 _ (aJ ?_))))))))))
    refine⟨_,rfl,?_⟩
    refine aO ?_
    refine gC fun h=>?_
    have n0:=h.n0
    have n1:=h.n1
    have n2:=h.h0
    have n3:=h.h1
    have n4:=h.opn
    have n5:=h.sub
    omega
  ·
   simp only[bs] at hg2
   refine aE aA 20 rfl (aD (hK3 _ (bN rfl (aC (fun K47 hK47=>(aB (aE aA 1 rfl (aD (hK47 _ (aJ ?_))))))))))
   refine⟨_,rfl,?_⟩
   refine aO ?_
   refine gC fun h=>?_
   have n0:=h.n0
   have n1:=h.n1
   have n2:=h.h0
   have n3:=h.h1
   have n4:=h.opn
   have n5:=h.sub
   omega
 ·
  simp only[bs] at hg1
  refine aE aA 25 rfl (aD (hK3 _ (bN rfl (aC (fun K48 hK48=>(aB (aE aA 1 rfl (aD (hK48 _ (aJ ?_))))))))))
  refine⟨_,rfl,?_⟩
  refine aO ?_
  refine gC fun h=>?_
  have n0:=h.n0
  have n1:=h.n1
  have n2:=h.h0
  have n3:=h.h1
  have n4:=h.opn
  have n5:=h.sub
  omega
end Go.Proofs.YtpkanhklapfajaaGreat
set_option linter.unusedVariables false
set_option linter.unusedSimpArgs false
namespace Go.Proofs.YtpkanhklapfajaaGreat
open Go Go.Abs
end Go.Proofs.YtpkanhklapfajaaGreat
set_option linter.unusedVariables false
namespace Go.Abs
open Go
theorem wT:∀ (l a:List bI),(l.foldl iL a).length≤a.length+l.length
  | [],a=>Nat.le_refl _
  | x::l,a=>by
    have:=wT l (iL a x)
    have:=tS a x
    simp only[List.foldl_cons,List.length_cons]
    omega
theorem aWo {n:Nat} {s:Sta} {u:ByteArray} {t:Int} (hz:SzS n s) (hr:dL cM s.usr) (ho:s.opn.length≤16):(dE s u t).length*32≤n+512:=by
  have h1:(ofU s.usr u).length*32≤n:=aEr (p:=fun x=>x.2.length*32≤n) hr hz.y (by simp)
  have h2:=wT (gW s.opn u t) (ofU s.usr u)
  have h3:=aBp s.opn u t
  unfold dE
  omega
abbrev aG1:ByteArray:=⟨#[97,110,110]⟩
end Go.Abs
set_option linter.unusedVariables false
set_option linter.unusedSimpArgs false
namespace Go.Proofs.YtpkanhklapfajaaGreat
open Go Go.Abs
theorem mI (s:Sta) (hz:SzS 140737488355328 s) (ts:TsS s):Den Tryz.prog 12 [.agg (aT s)] (·=.s (.bool (gY s))) :=
  aFu s (by have:=hz.o; omega) (by have:=hz.u; omega) (by have:=hz.b; omega) (by have:=hz.t; omega) (fun x hx=>by have:=hz.y x hx; omega) ts.o ts.u ts.b ts.t
theorem nQ (s:Sta) (hz:SzS 140737488353280 s):Den Tryz.prog 15 [.agg (aT s)] (·=.agg (aT s)):=aU2 s (hz.mono (by omega))
theorem aLs (s:Sta) (e:Ev) (hz:SzS 140737488353280 s) (h:RightP s) (hu:TS e.user) (ho:TS e.other):Den Tryz.prog 26 [.agg (aT s),.agg (evC e)] (·=.tup [.agg (aT (bP s e).1),.s (.int .i64 (bP s e).2)]):=aC9 s e (hz.mono (by omega)) h.usr h.tmb hu ho
theorem pruneW (s:Sta) (hz:SzS 140737488353280 s):Den Tryz.prog 30 [.agg (aT s)] (·=.agg (aT (mF s))):=aNb s (hz.mono (by omega))
theorem aWp (s:Sta) (u:ByteArray) (t:Int) (hz:SzS 140737488353280 s) (h:RightP s):Den Tryz.prog 43 [.agg (aT s),.s (.string u),.s (.int .i64 t)] (·=.sl 4 ((dE s u t).map stC)):=aMn s u t hz (Nat.le_trans (aTp h) (by decide)) h.usr
end Go.Proofs.YtpkanhklapfajaaGreat
set_option linter.unusedVariables false
set_option linter.unusedSimpArgs false
namespace Go.Proofs.YtpkanhklapfajaaGreat
open Go Go.Abs
theorem uF (a b:List bI) (h:a=b) (ha:a.length≤9223372036854775807):Den Tryz.prog 28 [.sl 4 (a.map stC),.sl 4 (b.map stC)] (·=.s (.bool true)):=by
  subst h
  exact(aUo a a ha ha).mono fun r h=>h.trans (by simp)
end Go.Proofs.YtpkanhklapfajaaGreat
set_option linter.unusedVariables false
set_option linter.unusedSimpArgs false
namespace Go.Proofs.YtpkanhklapfajaaGreat
open Go Go.Abs
end Go.Proofs.YtpkanhklapfajaaGreat
set_option linter.unusedVariables false
set_option linter.unusedSimpArgs false
namespace Go.Abs
theorem aJj {s:bI} {z:Sp} (h:s.1.2≤z.1∨z.2≤s.1.1):kU s z=[]:=sK (by simp only[eD]; omega)
theorem aB1 {s:bI}:∀ {r:List Sp},(∀ z∈r,s.1.2≤z.1∨z.2≤s.1.1)→r.flatMap (kU s)=[]
  | [],_=>rfl
  | z::r,h=>by rw[List.flatMap_cons,aJj (h z (by simp)),aB1 (fun z hz=>h z (by simp [hz]))]; rfl
theorem aXe {s:bI} {z:Sp} (h:s.1.1<s.1.2) (h1:z.1≤s.1.1) (h2:s.1.2≤z.2):kU s z=[s]:=by
  have e:eD s.1 z=s.1:=by
    unfold eD
    exact Prod.ext (by simp only; omega) (by simp only; omega)
  rw[aAt (by rw[e]; omega),e]
theorem aT3 {s:bI} (hs:s.1.1<s.1.2):∀ {nb:List Sp},jQ nb→∀ {y:Sp},y∈nb→y.1≤s.1.1→s.1.2≤y.2→nb.flatMap (kU s)=[s]
  | [],_,_,h,_,_=>by simp at h
  | x::r,hn,y,hy,h1,h2=>by
    obtain ⟨hx,hr⟩:=kW hn
    rw[List.flatMap_cons]
    rcases List.mem_cons.1 hy with rfl | hy
    · rw[aXe hs h1 h2,aB1 (fun z hz=>.inl (by have:=hr z hz; omega))]; rfl
    · rw[aJj (.inr (by have:=hr y hy; omega)),aT3 hs (aB0 hn) hy h1 h2]; rfl
theorem aJw {nb:List Sp} (hn:jQ nb):∀ {l:List bI},(∀ s∈l,s.1.1<s.1.2∧∃ y∈nb,y.1≤s.1.1∧s.1.2≤y.2)→fF l nb=l
  | [],_=>rfl
  | s::l,h=>by
    obtain ⟨hs,y,hy,h1,h2⟩:=h s (by simp)
    show nb.flatMap (kU s)++fF l nb=_
    rw[aT3 hs hn hy h1 h2,aJw hn (fun s hs=>h s (by simp [hs]))]; rfl
theorem aCo {a b:List bI} (h:a.Perm b):vX a=vX b:=vW ((oP a).trans h) (aIx a)
def wP (na nb:List Sp):List Sp:=na.flatMap fun x=>nb.flatMap fun y=>if (eD x y).2≤(eD x y).1 then [] else [eD x y]
theorem aB6 {na nb:List Sp} {u:Sp}:u∈wP na nb↔∃ x∈na,∃ y∈nb,u=eD x y∧u.1<u.2:=by
  unfold wP
  simp only[List.mem_flatMap]
  constructor
  · rintro ⟨x,hx,y,hy,h⟩
    split at h
    · simp at h
    · simp only[List.mem_singleton] at h
      exact⟨x,hx,y,hy,h,by subst h; omega⟩
  · rintro ⟨x,hx,y,hy,rfl,ht⟩
    exact⟨x,hx,y,hy,by rw[if_neg (by omega)]; simp⟩
theorem aRi {na nb:List Sp} (ha:jQ na) (hb:jQ nb):jQ (wP na nb):=by
  refine⟨fun u hu=>?_,?_⟩
  · obtain ⟨_,_,_,_,_,h⟩:=aB6.1 hu; exact h
  · rw[wP,List.pairwise_flatMap]
    refine⟨fun x _=>?_,?_⟩
    · rw[List.pairwise_flatMap]
      refine⟨fun y _=>?_,?_⟩
      · split
        · exact List.Pairwise.nil
        · exact List.pairwise_singleton _ _
      · refine hb.2.imp fun {y1 y2} h u hu v hv=>?_
        split at hu
        · simp at hu
        · split at hv
          · simp at hv
          · simp only[List.mem_singleton] at hu hv
            subst hu; subst hv
            simp only[eD] at *; omega
    · refine ha.2.imp fun {x1 x2} h u hu v hv=>?_
      obtain ⟨y1,_,hu⟩:=List.mem_flatMap.1 hu
      obtain ⟨y2,_,hv⟩:=List.mem_flatMap.1 hv
      split at hu
      · simp at hu
      · split at hv
        · simp at hv
        · simp only[List.mem_singleton] at hu hv
          subst hu; subst hv
          simp only[eD] at *; omega
theorem aU7 (na nb:List Sp) (t:Int):eB (wP na nb) t=(eB na t&&eB nb t):=by
  rw[Bool.eq_iff_iff,Bool.and_eq_true,fN,fN,fN]
  constructor
  · rintro ⟨u,hu,h1,h2⟩
    obtain ⟨x,hx,y,hy,rfl,_⟩:=aB6.1 hu
    simp only[eD] at h1 h2
    exact⟨⟨x,hx,by omega,by omega⟩,⟨y,hy,by omega,by omega⟩⟩
  · rintro ⟨⟨x,hx,h1,h2⟩,⟨y,hy,h3,h4⟩⟩
    exact⟨eD x y,aB6.2 ⟨x,hx,y,hy,rfl,by simp only[eD]; omega⟩,by simp only[eD]; omega,by simp only[eD]; omega⟩
theorem aRj (a b:List Sp):wP (dC a) (dC b)=mL a b :=
  nY _ _ (aRi (kV a).1 (kV b).1) (gP a b).1 fun t=>by rw[aU7,(gP a b).2,(kV a).2,(kV b).2]
theorem wJ (s x y:Sp):eD (eD s x) y=eD s (eD x y):=by
  unfold eD
  exact Prod.ext (by simp only; omega) (by simp only; omega)
theorem cut_two (na nb:List Sp) (s:bI):(na.flatMap (kU s)).flatMap (fun s'=>nb.flatMap (kU s'))=(wP na nb).flatMap (kU s):=by
  rw[wP,List.flatMap_assoc,List.flatMap_assoc]
  congr 1
  funext x
  rw[List.flatMap_assoc]
  by_cases h:(eD s.1 x).2≤(eD s.1 x).1
  · rw[sK h,List.flatMap_nil,eq_comm,List.flatMap_eq_nil_iff]
    intro y _
    split
    · rfl
    · rw[List.flatMap_cons,List.flatMap_nil,List.append_nil]
      exact sK (by rw[← wJ]; simp only[eD] at *; omega)
  · rw[aAt h,List.flatMap_cons,List.flatMap_nil,List.append_nil]
    congr 1
    funext y
    split
    · rename_i h2
      rw[List.flatMap_nil]
      exact sK (by simp only; rw[wJ]; simp only[eD] at *; omega)
    · rw[List.flatMap_cons,List.flatMap_nil,List.append_nil]
      unfold kU
      simp only[wJ]
theorem zR (l:List bI) (a b:List Sp):sA (sA l a) b=sA l (mL a b):=by
  have e:dC (mL a b)=mL a b:=aKu (gP a b).1 fun _=>rfl
  rw[show sA (sA l a) b=vX (fF (vX (fF l (dC a))) (dC b)) from rfl,show sA l (mL a b)=vX (fF l (dC (mL a b))) from rfl,e]
  refine aCo ?_
  refine((oP _).flatMap_right _).trans (List.Perm.of_eq ?_)
  rw[← aRj]
  unfold fF
  rw[List.flatMap_assoc]
  congr 1
  funext s
  exact cut_two _ _ s
end Go.Abs
set_option linter.unusedVariables false
set_option linter.unusedSimpArgs false
namespace Go.Proofs.YtpkanhklapfajaaGreat
open Go Go.Abs
theorem aGw (l:List bI) (b:List Sp) (h1:l.length≤100000) (h2:b.length≤100000):Den Tryz.prog 29 [.sl 4 (l.map stC),.sl 2 (b.map spC)] (·=.sl 4 ((sA l b).map stC)) :=
  aXx l b (by omega) (by omega) (by have:=aAp b; have:=Nat.mul_le_mul (show l.length≤100000 by omega) (show (dC b).length≤200000 by omega); omega)
end Go.Proofs.YtpkanhklapfajaaGreat
set_option linter.unusedVariables false
set_option linter.unusedSimpArgs false
namespace Go.Abs
open Go
def aCm (s:Sta) (e:Ev):Sta:=if (bP s e).2=0 then (bP s e).1 else s
def wU (s:Sta) (l:List Ev):Sta:=l.foldl aCm s
def pM:Sta→List Ev→List Int
  | _,[]=>[]
  | s,e::l=>(bP s e).2::pM (aCm s e) l
theorem step_ok {s:Sta} {e:Ev} (h:(bP s e).2=0):aCm s e=(bP s e).1:=if_pos h
theorem step_no {s:Sta} {e:Ev} (h:(bP s e).2≠0):aCm s e=s:=if_neg h
theorem aVg (s:Sta) (a b:List Ev):wU s (a++b)=wU (wU s a) b:=List.foldl_append
theorem aMe:∀ (a:List Ev) (s:Sta) (b:List Ev),pM s (a++b)=pM s a++pM (wU s a) b
  | [],_,_=>rfl
  | e::a,s,b=>by
    show _::pM (aCm s e) (a++b)=_::(pM (aCm s e) a++_)
    rw[aMe a (aCm s e) b]; rfl
theorem aMd:∀ (l:List Ev) (s:Sta),(pM s l).length=l.length
  | [],_=>rfl
  | e::l,s=>by simp only[pM,List.length_cons,aMd l]
theorem xQ {s:Sta} {l:List Ev} {k:Nat} (hk:k<l.length):pM s (l.take (k+1))=pM s (l.take k)++[(bP (wU s (l.take k)) l[k]).2]:=by
  rw[List.take_succ_eq_append_getElem hk,aMe]; rfl
theorem aJv {s:Sta} {l:List Ev} {k:Nat} (hk:k<l.length):wU s (l.take (k+1))=aCm (wU s (l.take k)) l[k]:=by
  rw[List.take_succ_eq_append_getElem hk,aVg]; rfl
theorem aA6 {s:Sta} (h:dL cM s.usr) {u v:ByteArray} {t t' T:Int}:dE { gI s u t with now:=t' } v T=if v=u then [] else dE s v T:=by
  simp only[dE,gI]
  rw[aTm h,gW,aFx]
  split
  · rfl
  · rfl
abbrev bBob:ByteArray:=⟨#[98,111,98]⟩
end Go.Abs
set_option linter.unusedVariables false
set_option linter.unusedSimpArgs false
namespace Go.Abs
open Go
end Go.Abs
set_option linter.unusedVariables false
set_option linter.unusedSimpArgs false
namespace Go.Abs
open Go
def aEd (x:bI):Bool:=!decide (x.1.2≤x.1.1)
theorem addS_perm {l:List bI} {x:bI}:(iL l x).Perm (l++[x].filter aEd):=by
  unfold iL
  by_cases h:x.1.2≤x.1.1
  · rw[if_pos h]; simp [aEd,h]
  · rw[if_neg h]
    have:[x].filter aEd=[x]:=by simp [aEd,h]
    rw[this]
    exact(iT x l).trans (List.perm_append_comm (l₁:=[x]) (l₂:=l))
theorem aJu {l:List bI}:∀ {a:List bI},Srt jG a→Srt jG (l.foldl iL a)∧(l.foldl iL a).Perm (a++l.filter aEd):=by
  induction l with
  | nil=>intro a h; exact⟨h,by simp⟩
  | cons x l ih =>
    intro a h
    obtain ⟨h1,h2⟩:=ih (a:=iL a x) (aOv h)
    refine⟨h1,?_⟩
    have e:(x::l).filter aEd=[x].filter aEd++l.filter aEd:=by rw[← List.filter_append]; rfl
    rw[e,← List.append_assoc]
    exact h2.trans (addS_perm.append_right _)
end Go.Abs
set_option linter.unusedVariables false
set_option linter.unusedSimpArgs false
namespace Go.Abs
open Go
def dK (s:Sta) (p:Pr) (q:Sp):List Sp:=mL (mL (dS s.sub p) [q]) [(s.hor,1099511627776)]
def fU (s:Sta) (p:Pr) (now:Int):Int:=if cF p.1=true∧cF p.2=true then (if now<s.now∨1099511627776≤now then 130 else 0) else 1
def eC (s:Sta) (p:Pr) (q:Sp) (now:Int):List bI:=if fU s p now=0 then sA (dE s p.2 now) (dK s p q) else []
def mE (s:Sta) (p:Pr) (now:Int):Int×Bool:=aT0 (eC s p (0,1099511627776) now)
def aWw (s:Sta) (p:Pr) (t:Int):Bool:=eB (dS s.sub p) t
def qP (q:Sp) (t:Int):Bool:=decide (q.1≤t)&&decide (t<q.2)
theorem aA1 (q:Sp) (t:Int):eB [q] t=qP q t:=by simp [eB,qP]
theorem aU8 (a b:Sp) (t:Int):qP (eD a b) t=(qP a t&&qP b t):=by
  rw[Bool.eq_iff_iff]
  simp only[qP,eD,Bool.and_eq_true,decide_eq_true_eq,Int.max_le,Int.lt_min]
  constructor
  · rintro ⟨⟨h1,h2⟩,h3,h4⟩; exact⟨⟨h1,h3⟩,h2,h4⟩
  · rintro ⟨⟨h1,h3⟩,h2,h4⟩; exact⟨⟨h1,h2⟩,h3,h4⟩
theorem mX (s:Sta) (p:Pr) (q:Sp) (t:Int):eB (dK s p q) t=((eB (dS s.sub p) t&&qP q t)&&qP (s.hor,1099511627776) t):=by
  rw[dK,(gP _ _).2,(gP _ _).2,aA1,aA1]
theorem jK (s:Sta) (p:Pr) (q:Sp):jQ (dK s p q):=(gP _ _).1
theorem aE5 (s:Sta) (p:Pr) (q:Sp):mL [eD q (s.hor,1099511627776)] (dS s.sub p)=dK s p q :=
  nY _ _ (gP _ _).1 (jK s p q) fun t=>by
    rw[(gP _ _).2,mX,aA1,aU8]
    cases eB (dS s.sub p) t <;> cases qP q t <;> cases qP (s.hor,1099511627776) t <;> rfl
theorem aL5 {s:Sta} {p:Pr} {now:Int} (h:fU s p now=0):cF p.1=true∧cF p.2=true∧s.now≤now∧now<1099511627776:=by
  unfold fU at h
  split at h
  · rename_i hr
    split at h
    · omega
    · exact⟨hr.1,hr.2,by omega,by omega⟩
  · omega
theorem pR {s:Sta} {p:Pr} {q:Sp} {now:Int} (h:fU s p now≠0):eC s p q now=[]:=if_neg h
theorem lI {s:Sta} {p:Pr} {q:Sp} {now:Int} (h:fU s p now=0):eC s p q now=sA (dE s p.2 now) (dK s p q):=if_pos h
theorem aKd {s:Sta} {p:Pr} {q b:Sp} (h1:q.1≤b.1) (h2:b.2≤q.2):mL (dK s p q) [b]=dK s p b :=
  nY _ _ (gP _ _).1 (jK s p b) fun t=>by
    rw[(gP _ _).2,mX,mX,aA1]
    have:(qP q t&&qP b t)=qP b t:=by
      rw[Bool.eq_iff_iff]
      simp only[qP,Bool.and_eq_true,decide_eq_true_eq]
      omega
    rw[← this]
    cases eB (dS s.sub p) t <;> cases qP q t <;> cases qP b t <;> cases qP (s.hor,1099511627776) t <;> rfl
theorem aKm {s:Sta} {p:Pr} {q b:Sp} {now:Int} (h1:q.1≤b.1) (h2:b.2≤q.2) (h:fU s p now=0):sA (eC s p q now) [b]=eC s p b now:=by
  rw[lI h,lI h,zR,aKd h1 h2]
theorem nF {l m:List bI} (b:List Sp) (h:l.Perm m):(fF l b).Perm (fF m b):=h.flatMap_right _
theorem mV (l m:List bI) (b:List Sp):fF (l++m) b=fF l b++fF m b:=by simp [fF]
theorem aJy {l m:List bI} (b:List Sp) (h:(fF l (dC b)).Perm (fF m (dC b))):sA l b=sA m b:=aCo h
theorem aEs {b:List Sp} (h:jQ b):dC b=b:=aKu h fun _=>rfl
theorem aTw {s:Sta} (h:RightP s) (u:ByteArray):Srt jG (ofU s.usr u):=aBq ((pQ _).1 (aBy h u).1).2
theorem aWz {l:List Se} {u:ByteArray} {t:Int}:∀ x∈eT l u t,aEd x=true:=fun x hx=>by
  obtain ⟨e,_,he⟩:=List.mem_flatMap.1 hx
  split at he
  · rename_i hh
    obtain rfl:=List.mem_singleton.1 he
    show (!decide (t≤e.2.2))=true
    rw[decide_eq_false hh.2]; rfl
  · simp at he
theorem kN {s:Sta} (h:RightP s) (u:ByteArray) (t:Int):(dE s u t).Perm (ofU s.usr u++eT s.opn u t):=by
  refine(aJu (aTw h u)).2.trans (List.Perm.append_left _ ?_)
  have:(gW s.opn u t).filter aEd=gW s.opn u t:=List.filter_eq_self.2 fun x hx=>aWz x ((oP _).mem_iff.1 hx)
  rw[this]; exact oP _
theorem aUm {s:Sta} (h:RightP s) (u:ByteArray) (t:Int):Srt jG (dE s u t):=(aJu (aTw h u)).1
theorem aI5 {a b u:ByteArray} {lo now now':Int} (hl:now≤now'):∀ {l:List Se},(∀ e∈l,lo≤e.2.2)→fF (eT l u now') [(lo,now)]=eT l u now
  | [],_=>rfl
  | e::l,h=>by
    have ih:=aI5 (a:=a) (b:=b) (u:=u) hl fun x hx=>h x (List.mem_cons_of_mem _ hx)
    have he:=h e (List.mem_cons_self ..)
    show fF ((if qQ u e=true∧¬ now'≤e.2.2 then [fY e now'] else [])++eT l u now') _=(if qQ u e=true∧¬ now≤e.2.2 then [fY e now] else [])++eT l u now
    rw[mV,ih]
    congr 1
    by_cases hh:qQ u e=true
    · by_cases h1:now'≤e.2.2
      · rw[if_neg (by simp [h1]),if_neg (by simp; intro _; omega)]; rfl
      · rw[if_pos ⟨hh,h1⟩]
        by_cases h2:now≤e.2.2
        · rw[if_neg (by simp [h2])]
          show kU _ _++[]++[]=[]
          rw[sK (by simp only[eD,fY]; omega)]; rfl
        · rw[if_pos ⟨hh,h2⟩]
          show kU _ _++[]++[]=_
          rw[aAt (by simp only[eD,fY]; omega)]
          simp only[eD,fY,List.append_nil]
          rw[Int.max_eq_left he,Int.min_eq_right hl]
    · rw[if_neg (by simp [hh]),if_neg (by simp [hh])]; rfl
theorem aMm {s:Sta} {u:ByteArray} {now now':Int} (h:RightP s) (h0:s.now≤now) (hl:now≤now'):sA (dE s u now') [(-1125899906842624,now)]=dE s u now:=by
  have hn:jQ [((-1125899906842624:Int),now)]:=⟨fun x hx=>by obtain rfl:=List.mem_singleton.1 hx; have:=h.n0; simp only; omega,List.pairwise_singleton _ _⟩
  unfold sA
  rw[aEs hn]
  refine(vW ?_ (aUm h u now)).symm
  refine(kN h u now).trans ?_
  refine List.Perm.trans ?_ (nF _ (kN h u now')).symm
  rw[mV,aI5 (a:=u) (b:=u) hl fun e he=>by have:=(aI2 h he).2.2.2.2.2.1; omega]
  refine List.Perm.append_right _ ?_
  rw[aJw hn]
  intro x hx
  obtain ⟨hr,ho⟩:=aBy h u
  have h1:=((pQ _).1 hr).1 x hx
  have h2:=mJ.1 (ho x hx)
  exact⟨by simpa [okS] using h1,_,List.mem_singleton.2 rfl,by simp only; omega,by simp only; omega⟩
theorem aM5 {s:Sta} {p:Pr} {q:Sp} {now d:Int} (h:RightP s) (h0:fU s p now=0) (h1:fU s p (now+d)=0) (hd:0≤d) :
    sA (eC s p q (now+d)) [(-1125899906842624,now)]=eC s p q now:=by
  rw[lI h0,lI h1,zR,← aU5,← zR,aMm h (aL5 h0).2.2.1 (by omega)]
theorem aUg {s:Sta} {p:Pr} {now d:Int} (h0:fU s p now=0) (hd:0≤d) (hd2:d≤1000) (hn:now≤1073741824):fU s p (now+d)=0:=by
  obtain ⟨h1,h2,h3,h4⟩:=aL5 h0
  rw[fU,if_pos ⟨h1,h2⟩,if_neg (by omega)]
theorem aAn {l:List En} {p:Pr} (h:∀ e∈l,e.1≠p):dS l p=[]:=by
  have:l.filter (ofB p)=[]:=List.filter_eq_nil_iff.2 fun e he=>by simpa [ofB] using h e he
  rw[dS,this]; rfl
theorem aVs (l:List bI):sA l []=[]:=by
  have:fF l (dC [])=[]:=by
    show l.flatMap (fun s=>([]:List Sp).flatMap (kU s))=[]
    simp
  rw[sA,this]; rfl
theorem aIu {s:Sta} {p:Pr} {q:Sp} (h:dS s.sub p=[]):dK s p q=[] :=
  nY _ _ (jK s p q) ⟨by simp,by simp⟩ fun t=>by rw[mX,h,mM]; rfl
theorem aAi {s:Sta} {p:Pr} {q:Sp} {u:ByteArray} {t t' now:Int} (h:RightP s) (hu:u=p.2∨u=p.1):eC { gI s u t with now:=t' } p q now=[]:=by
  by_cases hw:fU { gI s u t with now:=t' } p now=0
  · rw[lI hw]
    rcases hu with rfl | rfl
    · rw[aA6 h.usr,if_pos rfl]; rfl
    · rw[aIu,aVs]
      refine aAn fun e he hep=>?_
      have:=(List.mem_filter.1 he).2
      simp [aA0,tK,hep] at this
  · exact pR hw
theorem xN {s s':Sta} {p:Pr} {now:Int} (h:s'.now=s.now):fU s' p now=fU s p now:=by rw[fU,fU,h]
theorem aMf {s:Sta} {p:Pr} {q:Sp}:dK (mF s) p q=dK s p q :=
  nY _ _ (jK _ p q) (jK s p q) fun t=>by
    rw[mX,mX]
    show ((eB (dS (s.sub.filter (aRc s.hor)) p) t&&qP q t)&&qP (s.hor,1099511627776) t)=_
    by_cases ht:qP (s.hor,1099511627776) t=true
    · have:eB (dS (s.sub.filter (aRc s.hor)) p) t=eB (dS s.sub p) t:=by
        rw[dS,dS,(kV _).2,(kV _).2]
        have hs:s.hor≤t:=by
          simp only[qP,Bool.and_eq_true,decide_eq_true_eq] at ht; exact ht.1
        refine aK6 ⟨?_,?_⟩
        · rintro ⟨x,hx,h1⟩
          obtain ⟨e,he,rfl⟩:=List.mem_map.1 hx
          rw[List.mem_filter,List.mem_filter] at he
          exact⟨e.2,List.mem_map.2 ⟨e,List.mem_filter.2 ⟨he.1.1,he.2⟩,rfl⟩,h1⟩
        · rintro ⟨x,hx,h1⟩
          obtain ⟨e,he,rfl⟩:=List.mem_map.1 hx
          rw[List.mem_filter] at he
          refine⟨e.2,List.mem_map.2 ⟨e,List.mem_filter.2 ⟨List.mem_filter.2 ⟨he.1,?_⟩,he.2⟩,rfl⟩,h1⟩
          have:¬ e.2.2≤s.hor:=by omega
          simp [aRc,this]
      rw[this]
    · have:qP (s.hor,1099511627776) t=false:=by simpa using ht
      rw[this]; simp
theorem aJx {T:List Sp} {h:Int} (hT:∀ z∈T,h≤z.1):∀ l:List bI,fF (gM h l) T=fF l T
  | []=>rfl
  | x::l=>by
    have ih:=aJx hT l
    by_cases hx:x.1.2≤h
    · have e:gM h (x::l)=gM h l:=by rw[gM,List.filter_cons_of_neg (by simp [hx])]; rfl
      rw[e,ih]
      show _=T.flatMap (kU x)++fF l T
      rw[aB1 fun z hz=>.inl (by have:=hT z hz; omega)]; rfl
    · have e:gM h (x::l)=x::gM h l:=by rw[gM,List.filter_cons_of_pos (by simp [hx])]; rfl
      rw[e]
      show T.flatMap (kU x)++fF (gM h l) T=T.flatMap (kU x)++fF l T
      rw[ih]
theorem aTx {l:List Sp} {z:Sp} (hz:z∈l) (h:z.1<z.2) {t:Int} (h1:z.1≤t) (h2:t<z.2):eB l t=true:=fN.2 ⟨z,hz,h1,h2⟩
theorem aUk {s:Sta} {p:Pr} {q:Sp}:∀ z∈dK s p q,s.hor≤z.1:=fun z hz=>by
  have h1:=(jK s p q).1 z hz
  have h2:=aTx hz h1 (Int.le_refl _) h1
  rw[mX] at h2
  simp only[qP,Bool.and_eq_true,decide_eq_true_eq] at h2
  exact h2.2.1
theorem aCt {s:Sta} {p:Pr} {q:Sp} {now:Int} (h:RightP s):eC (mF s) p q now=eC s p q now:=by
  have hw:fU (mF s) p now=fU s p now:=xN rfl
  by_cases h0:fU s p now=0
  · rw[lI h0,lI (hw.trans h0),aMf]
    refine aJy _ ?_
    rw[aEs (jK s p q)]
    refine(nF _ (kN (aCy h) p.2 now)).trans (List.Perm.trans ?_ (nF _ (kN h p.2 now)).symm)
    rw[mV,mV]
    show (fF (ofU (jM s.hor s.usr) p.2) _++fF (eT s.opn p.2 now) _).Perm _
    rw[aW4 h.usr,aJx aUk]
  · rw[pR h0,pR (by rw[hw]; exact h0)]
def qJ (u:ByteArray) (x:bI) (l:List Us):List Us:=l.map fun y=>if y.1=u then (y.1,iL y.2 x) else y
def nZ (s:Sta) (u:ByteArray) (x:bI):Sta:={ s with usr:=qJ u x s.usr }
theorem aJg {u:ByteArray} {x:bI} {l:List Us} (h:jF cM l u=true):ofU (qJ u x l) u=iL (ofU l u) x:=by
  induction l with
  | nil=>simp [jF] at h
  | cons y l ih =>
    unfold ofU qJ
    by_cases hy:y.1=u
    · have h1:isK cM u y=true:=by simp [isK,hy]
      have h2:isK cM u (if y.1=u then (y.1,iL y.2 x) else y)=true:=by rw[if_pos hy]; simp [isK,hy]
      rw[List.map_cons,List.find?_cons_of_pos h2,List.find?_cons_of_pos h1,if_pos hy]; rfl
    · have h1:¬ isK cM u y=true:=by simp [isK,hy]
      have h2:¬ isK cM u (if y.1=u then (y.1,iL y.2 x) else y)=true:=by rw[if_neg hy]; exact h1
      rw[List.map_cons,List.find?_cons_of_neg h2,List.find?_cons_of_neg h1]
      refine ih ?_
      simp only[jF,List.any_cons,Bool.or_eq_true] at h
      exact h.resolve_left h1
def aG0 (s:Sta) (p:Pr) (x:bI):Prop:=∀ b∈dK s p (0,1099511627776),¬ max b.1 x.1.1<min b.2 x.1.2
theorem aVw {s:Sta} {p:Pr} {q:Sp} {x:bI} (h:RightP s) (hb:aG0 s p x):∀ z∈dK s p q,x.1.2≤z.1∨z.2≤x.1.1∨x.1.2≤x.1.1:=fun z hz=>by
  refine Classical.byContradiction fun hc=>?_
  have h1:=(jK s p q).1 z hz
  have ht:=aTx (t:=max z.1 x.1.1) hz h1 (by omega) (by omega)
  have hh:=h.h0
  have ht0:eB (dK s p (0,1099511627776)) (max z.1 x.1.1)=true:=by
    rw[mX] at ht ⊢
    simp only[qP,Bool.and_eq_true,decide_eq_true_eq] at ht ⊢
    exact⟨⟨ht.1.1,by omega,ht.2.2⟩,ht.2⟩
  obtain ⟨b,hbm,hb1,hb2⟩:=fN.1 ht0
  exact hb b hbm (by omega)
theorem aVt {s:Sta} {p:Pr} {q:Sp} {x:bI} (h:RightP s) (hb:aG0 s p x):fF [x] (dK s p q)=[]:=by
  show (dK s p q).flatMap (kU x)++[]=[]
  rw[List.append_nil]
  refine List.flatMap_eq_nil_iff.2 fun z hz=>sK ?_
  have:=aVw h hb z hz
  simp only[eD]; omega
theorem aM6 {s:Sta} {p:Pr} {q:Sp} {x:bI} {now:Int} (h:RightP s) (hm:RightP (nZ s p.2 x)) (hh:jF cM s.usr p.2=true) (hb:aG0 s p x):eC (nZ s p.2 x) p q now=eC s p q now:=by
  have hw:fU (nZ s p.2 x) p now=fU s p now:=xN rfl
  by_cases h0:fU s p now=0
  · rw[lI h0,lI (hw.trans h0)]
    show sA _ (dK s p q)=_
    refine aJy _ ?_
    rw[aEs (jK s p q)]
    refine(nF _ (kN hm p.2 now)).trans (List.Perm.trans ?_ (nF _ (kN h p.2 now)).symm)
    rw[mV,mV]
    show (fF (ofU (qJ p.2 x s.usr) p.2) _++fF (eT s.opn p.2 now) _).Perm _
    refine List.Perm.append_right _ ?_
    rw[aJg hh]
    refine(nF _ addS_perm).trans ?_
    rw[mV]
    have:fF ([x].filter aEd) (dK s p q)=[]:=by
      by_cases hx:aEd x=true
      · rw[List.filter_cons_of_pos hx]; exact aVt h hb
      · rw[List.filter_cons_of_neg hx]; rfl
    rw[this,List.append_nil]
  · rw[pR h0,pR (by rw[hw]; exact h0)]
end Go.Abs
set_option linter.unusedVariables false
set_option linter.unusedSimpArgs false
namespace Go.Abs
open Go
def cL (p:Pr) (q:Sp) (t:Int):List AV:=[.s (.string p.1),.s (.string p.2),.s (.int .i64 q.1),.s (.int .i64 q.2),.s (.int .i64 t)]
theorem aKc {s:Sta} {p:Pr} {t:Int} (h:(cF p.1&&cF p.2)=false):1=fU s p t:=by
  unfold fU; rw[if_neg]
  rintro ⟨h1,h2⟩
  rw[h1,h2] at h; exact absurd h (by decide)
theorem zZ {s:Sta} {p:Pr} {t:Int} (h1:cF p.1=true) (h2:cF p.2=true) (h:t<s.now∨1099511627776≤t):130=fU s p t:=by
  unfold fU; rw[if_pos ⟨h1,h2⟩,if_pos h]
theorem aWi {s:Sta} {p:Pr} {t:Int} (h1:cF p.1=true) (h2:cF p.2=true) (h:¬ t<s.now) (h':¬ 1099511627776≤t):0=fU s p t:=by
  unfold fU; rw[if_pos ⟨h1,h2⟩,if_neg (fun hh=>hh.elim h h')]
theorem aTz {s:Sta} {p:Pr} {t:Int} (h:fU s p t≠0):mE s p t=(0,false):=by rw[mE,pR h]; rfl
theorem uO {s:Sta} (h:dZ s+s.usr.length≤1048576):aTy s=((dZ s+s.usr.length:Nat):Int):=by
  have e:IntKind.i64.wrap ((dZ s:Nat):Int)=((dZ s:Nat):Int):=wrap_i64 (by omega) (by omega)
  rw[aTy,e,wrap_i64 (by omega) (by omega)]
  omega
theorem aJi {l:List Us} {x:Us} (hx:x∈l):x.2.length≤hP l:=by
  induction l with
  | nil=>simp at hx
  | cons y l ih =>
    have e:hP (y::l)=y.2.length+hP l:=by simp [hP]
    rcases List.mem_cons.1 hx with rfl | hx
    · omega
    · have:=ih hx; omega
theorem aU0 (l:List Us) (u:ByteArray):(ofU l u).length≤hP l:=by
  unfold ofU
  cases h:l.find? (isK cM u) with
  | none=>simp
  | some y=>simpa using aJi (List.mem_of_find?_eq_some h)
theorem raw_len (l:List Se) (u:ByteArray) (t:Int):(eT l u t).length≤l.length:=by
  have:=aBp l u t
  rwa [gW,aBr] at this
theorem mY {s:Sta} (h:RightP s) (u:ByteArray) (t:Int):(dE s u t).length≤dZ s:=by
  have h1:=(kN h u t).length_eq
  rw[List.length_append] at h1
  have h2:=aU0 s.usr u
  have h3:=raw_len s.opn u t
  unfold dZ; omega
theorem aBl (s:Sta) (p:Pr) (q:Sp):(dK s p q).length≤2*(2*(2*s.sub.length+1)+1):=by
  have h1:=aGa (mL (dS s.sub p) [q]) [(s.hor,1099511627776)]
  have h2:=aGa (dS s.sub p) [q]
  have h3:=sI s.sub p
  simp only[List.length_cons,List.length_nil] at h1 h2
  unfold dK; omega
theorem tJ {s:Sta} {p:Pr} {q:Sp} {t:Int} (hs:(dE s p.2 t).length≤102) (hb:s.sub.length≤101):(eC s p q t).length≤100000:=by
  unfold eC
  split
  · have h1:=aT5 (dE s p.2 t) (dK s p q)
    rw[aEs (jK s p q)] at h1
    have h2:=aBl s p q
    have h3:=Nat.mul_le_mul hs (show (dK s p q).length≤814 by omega)
    omega
  · simp
theorem aE4 {cs:List AV} (h:Ty (.agg [.str,.str,.int .i64,.int .i64,.int .i64]) cs):∃ (p:Pr) (q:Sp) (t:Int),cs=cL p q t∧TS p.1∧TS p.2∧-9223372036854775808≤t∧t≤9223372036854775807:=by
  simp only[Ty,TyL] at h
  obtain ⟨_,_,rfl,⟨a,rfl,ha⟩,_,_,rfl,⟨b,rfl,hb⟩,_,_,rfl,⟨x,rfl,_⟩,_,_,rfl,⟨y,rfl,_⟩,_,_,rfl,⟨z,rfl,hz⟩,rfl⟩:=h
  exact⟨(a,b),(x,y),z,rfl,Nat.le_trans ha (by decide),Nat.le_trans hb (by decide),aWj hz⟩
theorem ty_sp2 {cs:List AV} (h:Ty (.agg [.int .i64,.int .i64]) cs):∃ q:Sp,cs=spC q:=by
  simp only[Ty,TyL] at h
  obtain ⟨_,_,rfl,⟨x,rfl,_⟩,_,_,rfl,⟨y,rfl,_⟩,rfl⟩:=h
  exact⟨(x,y),rfl⟩
theorem aJf (u:ByteArray) (x:bI) (l:List Us):(qJ u x l).length=l.length:=by simp [qJ]
theorem uN {u:ByteArray} {x:bI} {l:List Us} {k:Nat} (hk:k<l.length):qJ u x (l.take (k+1))=qJ u x (l.take k)++[if l[k].1=u then (l[k].1,iL l[k].2 x) else l[k]]:=by
  rw[List.take_succ_eq_append_getElem hk,qJ,List.map_append]; rfl
theorem aJp {u:ByteArray} {l:List Us} {k:Nat} (hk:k<l.length):jF cM (l.take (k+1)) u=(jF cM (l.take k) u||decide (l[k].1=u)):=by
  rw[List.take_succ_eq_append_getElem hk,jF,List.any_append]; simp [jF,isK]
theorem aRe {n:Nat} {s:Sta} {u:ByteArray} {x:bI} (hz:SzS n s):SzS (n+32) (nZ s u x):=by
  refine⟨Nat.le_trans hz.o (by omega),?_,Nat.le_trans hz.b (by omega),Nat.le_trans hz.t (by omega),fun y hy=>?_⟩
  · show (qJ u x s.usr).length*40≤_
    rw[aJf]; exact Nat.le_trans hz.u (by omega)
  · obtain ⟨z,hzm,rfl⟩:=List.mem_map.1 hy
    have h1:=hz.y z hzm
    have h2:=tS z.2 x
    split
    · simp only; omega
    · omega
theorem more_ts {s:Sta} {u:ByteArray} {x:bI} (h:TsS s):TsS (nZ s u x):=⟨h.o,fun y hy=>by
  obtain ⟨z,hzm,rfl⟩:=List.mem_map.1 hy
  have:=h.u z hzm
  split <;> exact this,h.b,h.t⟩
theorem aRd {s:Sta} {u:ByteArray} {x:bI} {t:Int} (h:RightP s) (hm:RightP (nZ s u x)) (hh:jF cM s.usr u=true):(dE (nZ s u x) u t).length≤(dE s u t).length+1:=by
  have h1:=(kN h u t).length_eq
  have h2:=(kN hm u t).length_eq
  rw[List.length_append] at h1 h2
  have e:ofU (nZ s u x).usr u=iL (ofU s.usr u) x:=aJg hh
  have h3:=tS (ofU s.usr u) x
  rw[e] at h2
  have e2:(nZ s u x).opn=s.opn:=rfl
  rw[e2] at h2
  omega
theorem aX1 {s:Sta} {p:Pr} {x:bI} {k:Nat} (hk:(dK s p (0,1099511627776)).length≤k) (h:∀ (j:Nat) (hj:j<(dK s p (0,1099511627776)).length),j<k→¬ max (dK s p (0,1099511627776))[j].1 x.1.1<min (dK s p (0,1099511627776))[j].2 x.1.2):aG0 s p x:=aG5 hk h
abbrev oD:Pr:=(bBob,aG1)
def agE1:Ev:=⟨1,3,aG1,bs0,1,1⟩
def agE2:Ev:=⟨4,5,bBob,aG1,0,0⟩
def agE3:Ev:=⟨3,9,aG1,bs0,1,0⟩
def agS:Sta:=⟨9,0,[],[(aG1,[((3,9),(1,1))])],[(oD,(5,1099511627776))],[]⟩
theorem ag_1:wU uD [agE1,agE2,agE3]=agS:=by decide +kernel
theorem ag_2:pM uD [agE1,agE2,agE3]=[0,0,0]:=by decide +kernel
theorem ag_3:eC agS oD (0,8) 9=[((5,8),(1,1))]:=by decide +kernel
theorem ag_4:fU agS oD 9=0:=by decide +kernel
theorem ag_5:fU agS oD 8=130:=by decide +kernel
theorem ag_6:eC agS oD (0,0) 8=[]:=by decide +kernel
theorem ag_7:fU agS (bs0,bs0) 9=1:=by decide +kernel
theorem ag_8:eC agS (bs0,bs0) (0,0) 9=[]:=by decide +kernel
theorem ag_9:mE agS oD 20=(9,true):=by decide +kernel
theorem ag_10:fU agS oD 20=0:=by decide +kernel
theorem ag_11:mE agS (aG1,aG1) 20=(0,false):=by decide +kernel
theorem ag_12:fU agS (aG1,aG1) 20=0:=by decide +kernel
theorem ag_13:aWw agS oD 5=true:=by decide +kernel
theorem ag_14:aWw agS oD 4=false:=by decide +kernel
theorem tR:RightP agS:=jV.1 (by decide +kernel)
end Go.Abs
set_option linter.unusedVariables false
set_option linter.unusedSimpArgs false
namespace Go.Proofs.YtpkanhklapfajaaGreat
open Go Go.Abs
theorem aIq (s:Sta) (p:Pr) (q:Sp) (t:Int) (h1:TS p.1) (h2:TS p.2) :Den Tryz.prog 42 [.agg (cL p q t),.agg (aT s)]  (·=.s (.int .i64 (fU s p t))):=by
 refine aR Tryz.func42 rfl (Nat.le_of_ble_eq_true rfl) (fun w0 A hf=>(aC (fun K1 hK1=>(aB (aI hf rfl (cE rfl rfl (lf rfl)) (aI hf rfl (cE rfl rfl (lf rfl)) (aE aA 1 rfl (aD (hK1 _ (aC (fun K2 hK2=>(aP (aC (fun K3 hK3=>(aB (aE aA 2 rfl ?_))))))))))))))))
 refine aI hf rfl (aK rfl rfl aHd rfl (Nm.pairRight_den p.1 p.2 h1 h2)) (aE aA 2 rfl (aD (hK3 _ (aL rfl (fun hc1=>?_) (fun hc1=>?_)))))
 ·
  simp only[bs] at hc1
  refine aC (fun K4 hK4=>(aB (aE aA 1 rfl (aD (hK4 _ (aJ ?_))))))
  refine⟨_,rfl,?_⟩
  refine dM (aKc ?_)
  simp_all
 ·
  simp only[bs] at hc1
  refine aC (fun K5 hK5=>(aB (aE aA 6 rfl (aU rfl rfl rfl (fun hg2=>?_) (fun hg2=>?_)))))
  ·
   simp only[bs] at hg2
   refine aH rfl (bM rfl aO7 cA rfl) ?_
   refine aE aA 4 rfl (aD (hK5 _ (aL rfl (fun hc3=>?_) (fun hc3=>?_))))
   ·
    simp only[bs] at hc3
    refine aC (fun K6 hK6=>(aB (aE aA 1 rfl (aD (hK6 _ (aJ ?_))))))
    refine⟨_,rfl,?_⟩
    refine dM (zZ ?_ ?_ ?_)
    · simp_all
    · simp_all
    · omega
   ·
    simp only[bs] at hc3
    refine aN (hK2 _ (aC (fun K7 hK7=>(aB (aE aA 1 rfl (aD (hK7 _ (aJ ?_))))))))
    refine⟨_,rfl,?_⟩
    refine dM (aWi ?_ ?_ ?_ ?_)
    · simp_all
    · simp_all
    · omega
    · omega
  ·
   simp only[bs] at hg2
   refine aE aA 4 rfl (aD (hK5 _ (bN rfl (aC (fun K8 hK8=>(aB (aE aA 1 rfl (aD (hK8 _ (aJ ?_))))))))))
   refine⟨_,rfl,?_⟩
   refine dM (zZ ?_ ?_ ?_)
   · simp_all
   · simp_all
   · omega
theorem aAh (s:Sta) (p:Pr) (q:Sp) (t:Int) (h1:TS p.1) (h2:TS p.2) :Den Tryz.prog 27 [.agg (aT s),.agg (cL p q t)]  (·=.s (.int .i64 (fU s p t))):=by
 refine aR Tryz.func27 rfl (Nat.le_of_ble_eq_true rfl) (fun w0 A hf=>(aC (fun K1 hK1=>(aB (aI hf rfl (cE rfl rfl (lf rfl)) (aI hf rfl (cE rfl rfl (lf rfl)) (aE aA 1 rfl (aD (hK1 _ (aC (fun K2 hK2=>(aC (fun K3 hK3=>(aB (aE aA 2 rfl (aI hf rfl (aK rfl rfl lP rfl (Nm.refRight_den p.1 h1)) ?_))))))))))))))))
 refine aE aA 2 rfl (aU rfl rfl rfl (fun hg1=>?_) (fun hg1=>?_))
 ·
  simp only[bs] at hg1
  refine aH rfl (bM rfl aDm cU rfl) ?_
  refine aE aA 1 rfl (aX rfl rfl rfl (aI hf rfl (aK rfl rfl lP rfl (Nm.refRight_den p.2 h2)) (aE aA 2 rfl (aD (hK3 _ (aL rfl (fun hc2=>?_) (fun hc2=>?_)))))))
  ·
   simp only[bs] at hc2
   refine aC (fun K4 hK4=>(aB (aE aA 1 rfl (aD (hK4 _ (aJ ?_))))))
   refine⟨_,rfl,?_⟩
   refine dM (aKc ?_)
   simp_all
  ·
   simp only[bs] at hc2
   refine aN (hK2 _ (aC (fun K5 hK5=>(aC (fun K6 hK6=>(aB (aE aA 6 rfl (aU rfl rfl rfl (fun hg3=>?_) (fun hg3=>?_)))))))))
   ·
    simp only[bs] at hg3
    refine aH rfl (bM rfl aDl cA rfl) ?_
    refine aE aA 3 rfl (aD (hK6 _ (aL rfl (fun hc4=>?_) (fun hc4=>?_))))
    ·
     simp only[bs] at hc4
     refine aC (fun K7 hK7=>(aB (aE aA 1 rfl (aD (hK7 _ (aJ ?_))))))
     refine⟨_,rfl,?_⟩
     refine dM (zZ ?_ ?_ ?_)
     · simp_all
     · simp_all
     · omega
    ·
     simp only[bs] at hc4
     refine aN (hK5 _ (aC (fun K8 hK8=>(aB (aE aA 1 rfl (aD (hK8 _ (aJ ?_))))))))
     refine⟨_,rfl,?_⟩
     refine dM (aWi ?_ ?_ ?_ ?_)
     · simp_all
     · simp_all
     · omega
     · omega
   ·
    simp only[bs] at hg3
    refine aE aA 3 rfl (aD (hK6 _ (bN rfl (aC (fun K9 hK9=>(aB (aE aA 1 rfl (aD (hK9 _ (aJ ?_))))))))))
    refine⟨_,rfl,?_⟩
    refine dM (zZ ?_ ?_ ?_)
    · simp_all
    · simp_all
    · omega
 ·
  simp only[bs] at hg1
  refine aE aA 4 rfl (aD (hK3 _ (bN rfl (aC (fun K10 hK10=>(aB (aE aA 1 rfl (aD (hK10 _ (aJ ?_))))))))))
  refine⟨_,rfl,?_⟩
  refine dM (aKc ?_)
  simp_all
theorem aCl (s:Sta) (p:Pr) (q:Sp) (t:Int) (hz:SzS 140737488353280 s) :Den Tryz.prog 44 [.agg (cL p q t),.agg (aT s)]  (·=.sl 2 ((dK s p q).map spC)):=by
 have hzb:=hz.b
 have hpl:=sI s.sub p
 refine aR Tryz.func44 rfl (Nat.le_of_ble_eq_true rfl) (fun w0 A hf=>(aC (fun K1 hK1=>(aB (aI hf rfl (cE rfl rfl (lf rfl)) (aI hf rfl (cE rfl rfl (lf rfl)) (aH rfl (bK) (aD (hK1 _ (aC (fun K2 hK2=>(aB (aE aA 4 rfl (aH rfl (bR rfl fI jB (l3 rfl) rfl) (aI hf rfl (aK rfl rfl vB rfl (xZ q (s.hor,1099511627776))) ?_)))))))))))))))
 refine bY hf rfl fI rfl cY rfl rfl rfl rfl (lf rfl) (aD (hK2 _ (aC (fun K3 hK3=>(cP hf bE (by kernel_rfl) rfl (aV aA 1 rfl (bJ [(12,_)] rfl rfl ⟨⟨rfl,rfl⟩,trivial⟩ rfl (aS iG rfl rfl rfl rfl (l2 rfl)) (aV aA 4 rfl (bJ [(15,_),(17,_)] rfl rfl ⟨⟨rfl,rfl⟩,⟨rfl,rfl⟩,trivial⟩ rfl (aK rfl rfl aHi rfl (aC0 s.sub p (by omega))) (bJ [(13,_),(18,_)] rfl rfl ⟨⟨rfl,rfl⟩,⟨rfl,rfl⟩,trivial⟩ rfl (aK rfl rfl aSc rfl ((show Den Tryz.prog _ _ (·=.sl 2 ((dK s p q).map spC)) from kO (aXd [eD q (s.hor,1099511627776)] (dS s.sub p) (by simp) (by omega) (by simp only[List.length_cons,List.length_nil]; omega)) (by rw[aE5])))) ?_))))))))))
 refine aV aA 1 rfl (cT [4] rfl rfl rfl (hK3 _ (aJ ?_)))
 refine⟨_,rfl,?_⟩
 rfl
theorem aFr (s:Sta) (p:Pr) (q:Sp) (t:Int) (hb:s.sub.length≤101) :Den Tryz.prog 32 [.agg (aT s),.agg (cL p q t)]  (·=.sl 2 ((dK s p q).map spC)):=by
 have hpl:=sI s.sub p
 have hml:=aGa (dS s.sub p) [q]
 simp only[List.length_cons,List.length_nil] at hml
 refine aR Tryz.func32 rfl (Nat.le_of_ble_eq_true rfl) (fun w0 A hf=>(aC (fun K1 hK1=>(aB (aI hf rfl (cE rfl rfl (lf rfl)) (aI hf rfl (cE rfl rfl (lf rfl)) (aH rfl (bK) (aD (hK1 _ (aC (fun K2 hK2=>(aB (aE aA 6 rfl (aH rfl (bR rfl aYj aV9 (l3 rfl) rfl) (aI hf rfl (aK rfl rfl aSz rfl (aFv s.sub p (by omega))) ?_)))))))))))))))
 refine aE aA 1 rfl (aD (hK2 _ (aC (fun K3 hK3=>(aB (aE aA 5 rfl (aH rfl (bR rfl eL dP (l3 rfl) rfl) (aI hf rfl (aS aY rfl rfl rfl rfl (l2 rfl)) (aI hf rfl (aK rfl rfl aHg rfl (aCs (dS s.sub p) [q] (by omega) (by simp))) ?_)))))))))
 refine aE aA 1 rfl (aD (hK3 _ (aC (fun K4 hK4=>(aB (aE aA 3 rfl (aH rfl (bR rfl eL dP (l3 rfl) rfl) (aI hf rfl (aS aY rfl rfl rfl rfl (l2 rfl)) (aI hf rfl (aK rfl rfl aHg rfl (aCs (mL (dS s.sub p) [q]) [(s.hor,1099511627776)] (by omega) (by simp))) ?_)))))))))
 refine aE aA 1 rfl (aD (hK4 _ (aJ ?_)))
 refine⟨_,rfl,?_⟩
 rfl
theorem gT (s:Sta) (p:Pr) (q:Sp) (t:Int) (h1:TS p.1) (h2:TS p.2) (hz:SzS 140737488353280 s) (h:RightP s) (hs:(dE s p.2 t).length≤102) (hb:s.sub.length≤101) :Den Tryz.prog 14 [.agg (aT s),.agg (cL p q t)]  (·=.tup [.sl 4 ((eC s p q t).map stC),.s (.int .i64 (fU s p t))]):=by
 have htl:=aBl s p q
 refine aR Tryz.func14 rfl (Nat.le_of_ble_eq_true rfl) (fun w0 A hf=>(aC (fun K1 hK1=>(aB (aI hf rfl (cE rfl rfl (lf rfl)) (aI hf rfl (cE rfl rfl (lf rfl)) (aH rfl (bK) (aE aA 1 rfl (aD (hK1 _ (aC (fun K2 hK2=>(aC (fun K3 hK3=>(aB (aE aA 2 rfl ?_))))))))))))))))
 refine aI hf rfl (aK rfl rfl aHm rfl (aIq s p q t h1 h2)) (aE aA 1 rfl (aD (hK3 _ (aC (fun K4 hK4=>(aB (aE aA 2 rfl (aD (hK4 _ (aL rfl (fun hc1=>?_) (fun hc1=>?_)))))))))))
 ·
  simp only[bs] at hc1
  refine aC (fun K5 hK5=>(aB (aE aA 1 rfl (aH rfl (yN (k:=4)) (aE aA 1 rfl (aD (hK5 _ (aJ ?_))))))))
  refine⟨_,rfl,?_⟩
  show AV.tup [.sl 4 [],_]=_
  rw[pR (by simp_all)]; rfl
 ·
  simp only[bs] at hc1
  refine aN (hK2 _ (aC (fun K6 hK6=>(cP hf bE (by kernel_rfl) rfl (aV aA 6 rfl (bJ [(13,_),(16,_),(18,_)] rfl rfl ⟨⟨rfl,rfl⟩,⟨rfl,rfl⟩,⟨rfl,rfl⟩,trivial⟩ rfl (aK rfl rfl aHl rfl (aWp s p.2 t hz h)) (aV aA 2 rfl (bJ [(20,_),(21,_)] rfl rfl ⟨⟨rfl,rfl⟩,⟨rfl,rfl⟩,trivial⟩ rfl (aK rfl rfl aHk rfl (aCl s p q t hz)) (bJ [(19,_),(22,_)] rfl rfl ⟨⟨rfl,rfl⟩,⟨rfl,rfl⟩,trivial⟩ rfl (aK rfl rfl vF rfl (aGw (dE s p.2 t) (dK s p q) (by omega) (by omega))) (aV aA 2 rfl ?_))))))))))
  refine cT [4,5] rfl rfl rfl (hK6 _ (aJ ?_))
  refine⟨_,rfl,?_⟩
  have h0:fU s p t=0:=by simp_all
  rw[lI h0,h0]; rfl
theorem oS (s:Sta) (p:Pr) (t:Int) (h1:TS p.1) (h2:TS p.2) (hz:SzS 140737488353280 s) (h:RightP s) (hs:(dE s p.2 t).length≤102) (hb:s.sub.length≤101) :Den Tryz.prog 20 [.agg (aT s),.agg (prC p),.s (.int .i64 t)]  (·=.tup [.s (.int .i64 (mE s p t).1),.s (.bool (mE s p t).2),.s (.int .i64 (fU s p t))]):=by
 have hrl:=tJ (s:=s) (p:=p) (q:=(0,1099511627776)) (t:=t) hs hb
 refine aR Tryz.func20 rfl (Nat.le_of_ble_eq_true rfl) (fun w0 A hf=>(aC (fun K1 hK1=>(aB (aI hf rfl (cE rfl rfl (lf rfl)) (aI hf rfl (cE rfl rfl (lf rfl)) (aE aA 3 rfl (aD (hK1 _ (aC (fun K2 hK2=>(aB (aE aA 2 rfl (aH rfl (bR rfl fI jB (l3 rfl) rfl) (aE aA 1 rfl ?_)))))))))))))))
 refine aH rfl (bR rfl dD rA (l3 rfl) rfl) (aI hf rfl (aK rfl rfl gA rfl (gT s p (0,1099511627776) t h1 h2 hz h hs hb)) (aE aA 5 rfl (aD (hK2 _ (aC (fun K3 hK3=>(aC (fun K4 hK4=>(aB (aE aA 2 rfl (aD (hK4 _ (aL rfl (fun hc1=>?_) (fun hc1=>?_))))))))))))))
 ·
  simp only[bs] at hc1
  refine aC (fun K5 hK5=>(aB (aE aA 4 rfl (aD (hK5 _ (aJ ?_))))))
  refine⟨_,rfl,?_⟩
  have h0:fU s p t≠0:=by simp_all
  rw[aTz h0]; rfl
 ·
  simp only[bs] at hc1
  refine aN (hK3 _ (aC (fun K6 hK6=>(aB (aE aA 1 rfl (aI hf rfl (aK rfl rfl aHj rfl (aJk (eC s p (0,1099511627776) t) (by omega))) (aE aA 5 rfl (aD (hK6 _ (aC (fun K7 hK7=>(aB (aE aA 5 rfl (aD ?_))))))))))))))
  refine hK7 _ (aJ ?_)
  refine⟨_,rfl,?_⟩
  have h0:fU s p t=0:=by simp_all
  rw[h0]; rfl
theorem aFi (s:Sta) (p:Pr) (t:Int) (hb:s.sub.length≤101) :Den Tryz.prog 22 [.agg (aT s),.agg (prC p),.s (.int .i64 t)]  (·=.s (.bool (aWw s p t))):=by
 have hpl:=sI s.sub p
 refine aR Tryz.func22 rfl (Nat.le_of_ble_eq_true rfl) (fun w0 A hf=>(aC (fun K1 hK1=>(aB (aI hf rfl (cE rfl rfl (lf rfl)) (aI hf rfl (cE rfl rfl (lf rfl)) (aE aA 1 rfl (aD (hK1 _ (aC (fun K2 hK2=>(aB (aE aA 3 rfl (aI hf rfl (aK rfl rfl aHi rfl (aC0 s.sub p (by omega))) (aE aA 1 rfl ?_)))))))))))))))
 refine aI hf rfl (aK rfl rfl aS0 rfl (aRm (dS s.sub p) t (by omega))) (aE aA 1 rfl (aD (hK2 _ (aJ ?_))))
 refine⟨_,rfl,?_⟩
 rfl
theorem fH (p:Pr) (q:Sp) (t:Int) :Den Tryz.prog 16 [.agg (cL p q t)]  (·=.agg (cL p q t)):=by
 refine aR Tryz.func16 rfl (Nat.le_of_ble_eq_true rfl) (fun w0 A hf=>(aC (fun K1 hK1=>(aB (aI hf rfl (cE rfl rfl (lf rfl)) (aW hf rfl rfl rfl dD (aD (hK1 _ (aC (fun K2 hK2=>(aB (aE aA 4 rfl (aH rfl (bR rfl gN kD (l3 rfl) rfl) (aE aA 4 rfl (aH rfl (bR rfl fI jB (l3 rfl) rfl) ?_)))))))))))))))
 refine aE aA 2 rfl (aH rfl (bR rfl dD rA (l3 rfl) rfl) (bB hf rfl rfl aHr rfl rfl (l1 rfl) (l4 rfl) rfl (aD (hK2 _ (aJ ?_)))))
 refine⟨_,rfl,?_⟩
 rfl
end Go.Proofs.YtpkanhklapfajaaGreat
set_option linter.unusedVariables false
set_option linter.unusedSimpArgs false
namespace Go.Abs
open Go
def aLk (sp:List Sp) (f a:Int):Prop:=∀ τ:Int,eB sp τ=(decide (f≤τ)&&decide (τ<a))
theorem aVu (f:Int):aLk [] f f:=by
  intro τ
  rw[mM,Bool.eq_iff_iff]
  simp only[Bool.and_eq_true,decide_eq_true_eq,Bool.false_eq_true,false_iff]
  omega
theorem aRy {sp:List Sp} {f a t:Int} (h:aLk sp f a) (h1:f≤a) (h2:a≤t):aLk (sp++[(a,t)]) f t:=by
  intro τ
  rw[pX,h τ,kX,mM,Bool.eq_iff_iff]
  simp only[Bool.and_eq_true,decide_eq_true_eq,Bool.or_eq_true,Bool.false_eq_true,or_false]
  omega
structure WholeI (e:Se) (k:Nat) (a:Int) (stays:List bI) (sp:List Sp) (n:Nat):Prop where
  le:k≤n
  ge:e.2.2≤a
  l1:stays.length=k
  l2:sp.length=k
  ends:∀ y∈stays,y.1.2≤a
  cov:aLk sp e.2.2 a
theorem WholeI.start (e:Se) (n:Nat):WholeI e 0 e.2.2 [] [] n:=⟨Nat.zero_le _,Int.le_refl _,rfl,rfl,by simp,aVu _⟩
theorem WholeI.next {e:Se} {k n:Nat} {a t s0:Int} {stays:List bI} {sp:List Sp} (h:WholeI e k a stays sp n) (hk:k<n) (ht:a≤t):WholeI e (k+1) t (stays++[((a,t),(e.1.1,s0))]) (sp++[(a,t)]) n:=by
  refine⟨hk,Int.le_trans h.ge ht,by rw[List.length_append,h.l1]; rfl,by rw[List.length_append,h.l2]; rfl,fun y hy=>?_,aRy h.cov h.ge ht⟩
  rcases List.mem_append.1 hy with hy | hy
  · exact Int.le_trans (h.ends y hy) ht
  · rw[List.mem_singleton.1 hy]; exact Int.le_refl _
variable {P:Program}
end Go.Abs
set_option linter.unusedVariables false
set_option linter.unusedSimpArgs false
namespace Go.Proofs.YtpkanhklapfajaaGreat
open Go Go.Abs
theorem aAx (a:List Int) (n:Int):wO (a++[n])=wO a++[[AV.s (.int .i64 n)]]:=by simp [wO]
theorem aVf (j:Nat) (s:Sta) (l:List Ev) (hz:SzS (140737488351232+48*j) s) (h:RightP s) (hl:j+l.length≤60) (ht:∀ e∈l,TS e.user∧TS e.other) :Den Tryz.prog 41 [.agg (aT s),.sl 6 (l.map evC)]  (·=.tup [.agg (aT (wU s l)),.sl 1 (wO (pM s l))]):=by
 refine aR Tryz.func41 rfl (Nat.le_of_ble_eq_true rfl) (fun w0 A hf=>(aC (fun K1 hK1=>(aB (vI hf rfl rfl rfl rfl (l1 rfl) ?_)))))
 refine aW hf rfl rfl rfl bA (aH rfl (bK) (aD (hK1 _ (aC (fun K2 hK2=>(aB (mC hf 1 rfl rfl rfl (aD (hK2 _ (aC (fun K3 hK3=>(aB (aE aA 1 rfl (jC hf [] [(E0,222),(E1,223)] rfl rfl rfl rfl rfl rfl (by decide) (by decide) (by decide) rfl pC (nI s (hz.mono (by omega))) ?_))))))))))))))
 rintro r m1 ⟨rfl,rfl⟩
 rw[tI]
 refine bD (cX [1,2,4,6,12] rfl) (bB hf rfl rfl cG rfl rfl (l1 rfl) (l4 rfl) rfl (aD (hK3 _ (aC (fun K4 hK4=>(aC (fun K5 hK5=>(aB (bD (pH (nee 222) (sl':=[(1,_),(2,_),(4,_),(6,_)]) (m':=[(223,.buf 2 (s.tmb.map tmC)),(6,.buf 1 []),(4,AM.box [.s (.int .i64 0),.s (.int .i64 0),.s (.slice none 0 0),.s (.slice none 0 0),.s (.slice none 0 0),.s (.slice none 0 0)]),(2,.box [.s (.int .i64 s.now),.s (.int .i64 s.hor),.sl 4 (s.opn.map seC),.sl 2 (s.usr.map usC),.sl 4 (s.sub.map enC),.own 223 2 0 (s.tmb.map tmC).length])]) ⟨⟨_,rfl,rfl⟩,⟨_,rfl,rfl⟩,⟨_,rfl,rfl⟩,⟨_,rfl,rfl⟩,trivial⟩ (Eq.trans (show _=[(223,AM.buf 2 (s.tmb.map tmC)),(6,.buf 1 []),(4,AM.box [.s (.int .i64 0),.s (.int .i64 0),.s (.slice none 0 0),.s (.slice none 0 0),.s (.slice none 0 0),.s (.slice none 0 0)]),(2,.box [.s (.int .i64 s.now),.s (.int .i64 s.hor),.sl 4 (s.opn.map seC),AV.only (nee 222) [(222,.buf 2 (s.usr.map usC)),(223,.buf 2 (s.tmb.map tmC)),(6,.buf 1 []),(4,.box [.s (.int .i64 0),.s (.int .i64 0),.s (.slice none 0 0),.s (.slice none 0 0),.s (.slice none 0 0),.s (.slice none 0 0)]),(2,.box [.s (.int .i64 s.now),.s (.int .i64 s.hor),.sl 4 (s.opn.map seC),.own 222 2 0 (s.usr.map usC).length,.sl 4 (s.sub.map enC),.own 223 2 0 (s.tmb.map tmC).length])] (.own 222 2 0 (s.usr.map usC).length),.sl 4 (s.sub.map enC),.own 223 2 0 (s.tmb.map tmC).length])] from rfl) (by rw[aAo (ok:=nee 222) (g:=222) rfl rfl rfl]))) ?_)))))))))
 refine bD (pH (nee 223) (sl':=[(1,_),(2,_),(4,_),(6,_)]) (m':=[(6,.buf 1 []),(4,AM.box [.s (.int .i64 0),.s (.int .i64 0),.s (.slice none 0 0),.s (.slice none 0 0),.s (.slice none 0 0),.s (.slice none 0 0)]),(2,.box [.s (.int .i64 s.now),.s (.int .i64 s.hor),.sl 4 (s.opn.map seC),.sl 2 (s.usr.map usC),.sl 4 (s.sub.map enC),.sl 2 (s.tmb.map tmC)])]) ⟨⟨_,rfl,rfl⟩,⟨_,rfl,rfl⟩,⟨_,rfl,rfl⟩,⟨_,rfl,rfl⟩,trivial⟩ (Eq.trans (show _=[(6,.buf 1 []),(4,AM.box [.s (.int .i64 0),.s (.int .i64 0),.s (.slice none 0 0),.s (.slice none 0 0),.s (.slice none 0 0),.s (.slice none 0 0)]),(2,.box [.s (.int .i64 s.now),.s (.int .i64 s.hor),.sl 4 (s.opn.map seC),.sl 2 (s.usr.map usC),.sl 4 (s.sub.map enC),AV.only (nee 223) [(223,.buf 2 (s.tmb.map tmC)),(6,.buf 1 []),(4,AM.box [.s (.int .i64 0),.s (.int .i64 0),.s (.slice none 0 0),.s (.slice none 0 0),.s (.slice none 0 0),.s (.slice none 0 0)]),(2,.box [.s (.int .i64 s.now),.s (.int .i64 s.hor),.sl 4 (s.opn.map seC),.sl 2 (s.usr.map usC),.sl 4 (s.sub.map enC),.own 223 2 0 (s.tmb.map tmC).length])] (.own 223 2 0 (s.tmb.map tmC).length)])] from rfl) (by rw[aAo (ok:=nee 223) (g:=223) rfl rfl rfl]))) ?_
 refine aE aA 3 rfl (aD (hK5 _ (aP (bT (ι:=Nat×Sta) (fun(⟨k,st⟩:Nat×Sta)=>⟨35,[(2,.ref 2 0 0 0),(4,.ref 4 0 0 0),(6,.own 6 1 0 (wO (pM s (l.take k))).length),(13,.sl 6 (l.map evC)),(14,.s (.int .i64 ((l.map evC).length:Nat))),(15,.s (.int .i64 (k:Nat)))],[(6,.buf 1 (wO (pM s (l.take k)))),(4,.box [.s (.int .i64 0),.s (.int .i64 0),.s (.slice none 0 0),.s (.slice none 0 0),.s (.slice none 0 0),.s (.slice none 0 0)]),(2,.box (aT st))]⟩) (fun(⟨k,st⟩:Nat×Sta)=>k≤l.length∧st=wU s (l.take k)∧RightP st∧SzS (140737488351232+48*j+48*k) st) (fun(⟨k,st⟩:Nat×Sta)=>l.length - k) (0,s) ?_ ?_ ?_))))
 · exact⟨Nat.zero_le _,rfl,h,hz⟩
 · exact cJ ⟨rfl,rfl,rfl,rfl,rfl,rfl,trivial⟩ rfl
 ·
  rintro ⟨k,st⟩ hC
  obtain ⟨h1,h2,h3,h4⟩:=hC
  refine aC (fun K6 hK6=>(aB (aE aA 1 rfl (aD (hK6 _ (aC (fun K7 hK7=>(aL rfl (fun hc1=>?_) (fun hc1=>?_)))))))))
  ·
   simp only[bs,iC] at hc1
   refine aN (hK7 _ (aC (fun K8 hK8=>(aP (aC (fun K9 hK9=>(aB ?_)))))))
   have hk:k<l.length:=by omega
   have hzS:SzS 140737488355100 st:=h4.mono (by omega)
   obtain ⟨hu,ho⟩:=ht _ (List.getElem_mem hk)
   have htl:(wO (pM s (l.take k))).length=k:=by rw[iC,aMd,List.length_take]; omega
   refine aH rfl (bG rfl rfl aWf iM (by first | assumption | (refine⟨by omega,?_⟩; first | assumption | exact pE (by omega) | exact pE (by simp only[List.length_cons] at *; omega) | exact aAw (by omega) | exact aB2 (by omega) | exact aAu (by omega)) | exact⟨by decide,rfl⟩)) ?_
   refine aE aA 1 rfl (bY hf rfl gZ rfl iM rfl rfl rfl rfl (lf rfl) (aD (hK9 _ (aC (fun K10 hK10=>(aB (aE aA 2 rfl (aI hf rfl (aK rfl rfl rV rfl (aC9 st l[k] hzS h3.usr h3.tmb hu ho)) (aE aA 3 rfl (bY hf rfl bA rfl cG rfl rfl rfl rfl (lf rfl) (aE aA 1 rfl (aD (hK10 _ ?_)))))))))))))
   refine aC (fun K11 hK11=>(aC (fun K12 hK12=>(aB (aE aA 2 rfl (aD (hK12 _ (aL rfl (fun hc2=>?_) (fun hc2=>?_)))))))))
   ·
    simp only[bs,iC] at hc2
    refine aB (aE aA 1 rfl (bB hf rfl rfl cG rfl rfl (l1 rfl) (l4 rfl) rfl (aD (hK11 _ (aB (aE aA 2 rfl (aI hf rfl (aS vH rfl rfl rfl rfl (l2 rfl)) (bH hf rfl vH rfl rfl rfl (.inl rfl) rfl rfl (by first | rfl | simp [eK,bL]) (by first | (simp only[maxLen,List.length_map,List.length_append,List.length_cons,List.length_nil]; omega) | (simp [maxLen] <;> omega)) (by first | (simp only[List.length_map,List.length_append,List.length_cons,List.length_nil]; omega) | (simp <;> omega)) ?_))))))))
    refine bD (cX [2,4,13,14,15,31] rfl) (aE aA 1 rfl ?_)
    refine bS ?_
    refine hK8 _ (aB ?_)
    refine aH rfl (bO rfl rfl (by omega) (by omega)) ?_
    refine aE aA 1 rfl (aD ?_)
    exact⟨(k+1,(bP st l[k]).1),⟨by omega,by rw[aJv hk,← h2,step_ok (by assumption)],aLr h3 _,aLt h4 h3.usr (by omega)⟩,by simp only; omega,cJ ⟨rfl,rfl,(by rw[xQ hk,← h2,aAx,List.length_append]; rfl),rfl,rfl,rfl,trivial⟩ (by rw[xQ hk,← h2,aAx]; rfl)⟩
   ·
    simp only[bs,iC] at hc2
    refine aN (hK11 _ (aB (aE aA 2 rfl (aI hf rfl (aS vH rfl rfl rfl rfl (l2 rfl)) (bH hf rfl vH rfl rfl rfl (.inl rfl) rfl rfl (by first | rfl | simp [eK,bL]) (by first | (simp only[maxLen,List.length_map,List.length_append,List.length_cons,List.length_nil]; omega) | (simp [maxLen] <;> omega)) (by first | (simp only[List.length_map,List.length_append,List.length_cons,List.length_nil]; omega) | (simp <;> omega)) ?_)))))
    refine bD (cX [2,4,13,14,15,31] rfl) (aE aA 1 rfl ?_)
    refine bS ?_
    refine hK8 _ (aB ?_)
    refine aH rfl (bO rfl rfl (by omega) (by omega)) ?_
    refine aE aA 1 rfl (aD ?_)
    exact⟨(k+1,st),⟨by omega,by rw[aJv hk,← h2,step_no (by assumption)],h3,h4.mono (by omega)⟩,by simp only; omega,cJ ⟨rfl,rfl,(by rw[xQ hk,← h2,aAx,List.length_append]; rfl),rfl,rfl,rfl,trivial⟩ (by rw[xQ hk,← h2,aAx]; rfl)⟩
  ·
   simp only[bs,iC] at hc1
   refine bF (hK4 _ (aC (fun K13 hK13=>(aB (aE aA 2 rfl (bB hf rfl rfl cG rfl rfl (l1 rfl) (l4 rfl) rfl (aE aA 1 rfl (aD (hK13 _ (aJ ?_))))))))))
   refine⟨_,rfl,?_⟩
   show AV.tup [.agg _,AV.conv _ (.own 6 1 0 (wO (pM s (l.take k))).length)]=_
   rw[cI (g:=6) rfl rfl,List.take_of_length_le (by omega)]
   rw[List.take_of_length_le (by omega)] at h2
   rw[h2]; rfl
theorem aXn (s:Sta) (l:List Ev) (hz:SzS 140737488351232 s) (h:RightP s) (hl:l.length≤60) (ht:∀ e∈l,TS e.user∧TS e.other):Den Tryz.prog 41 [.agg (aT s),.sl 6 (l.map evC)] (·=.tup [.agg (aT (wU s l)),.sl 1 (wO (pM s l))]):=aVf 0 s l hz h (by omega) ht
end Go.Proofs.YtpkanhklapfajaaGreat
set_option linter.unusedVariables false
set_option linter.unusedSimpArgs false
namespace Go.Proofs.YtpkanhklapfajaaGreat
open Go Go.Abs
theorem cN  :Den Tryz.prog 13 []  (·=.s (.bool true)):=by
 refine aR Tryz.func13 rfl (Nat.le_of_ble_eq_true rfl) (fun w0 A hf=>(aC (fun K1 hK1=>(aB (aE aA 1 rfl (aD (hK1 _ (aC (fun K2 hK2=>(aB (aH rfl (bR rfl gN kD (l3 rfl) rfl) (bY hf rfl gN rfl oJ rfl rfl rfl rfl (lf rfl) (aD (hK2 _ (aC (fun K3 hK3=>?_))))))))))))))))
 refine aB (aH rfl (bR rfl bA pA (l3 rfl) rfl) (bD (aAv vP) (aH rfl (bR rfl gZ gQ (l3 rfl) rfl) (aH rfl (bR rfl gZ gQ (l3 rfl) rfl) (aH rfl (bR rfl gZ gQ (l3 rfl) rfl) (aI hf rfl (aS aTc rfl rfl rfl rfl (l2 rfl)) (aI hf rfl (aK rfl rfl aS2 rfl ((show Den Tryz.prog _ _ (·=.tup [.agg (aT agS),.sl 1 (wO [0,0,0])]) from kO (aXn uD [agE1,agE2,agE3] (aKg _) aFb (by decide) (by decide)) (by rw[ag_1,ag_2])))) ?_)))))))
 refine aE aA 3 rfl (bY hf rfl bA rfl cG rfl rfl rfl rfl (lf rfl) (aE aA 1 rfl (aD (hK3 _ (aC (fun K4 hK4=>(aB (aE aA 2 rfl (aH rfl (bR rfl fI jB (l3 rfl) rfl) (aH rfl (bR rfl dD rA (l3 rfl) rfl) (aI hf rfl (aK rfl rfl gA rfl ((show Den Tryz.prog _ _ (·=.tup [.sl 4 (([((5,8),(1,1))]).map stC),.s (.int .i64 0)]) from kO (gT agS oD (0,8) 9 (by decide) (by decide) (⟨by decide,by decide,by decide,by decide,by decide⟩) tR (by decide +kernel) (by decide)) (by rw[ag_3,ag_4])))) ?_)))))))))))
 refine aE aA 5 rfl (aD (hK4 _ (aC (fun K5 hK5=>(aB (aE aA 2 rfl (aH rfl (bR rfl dD rA (l3 rfl) rfl) (aI hf rfl (aK rfl rfl gA rfl ((show Den Tryz.prog _ _ (·=.tup [.sl 4 (([]).map stC),.s (.int .i64 130)]) from kO (gT agS oD (0,0) 8 (by decide) (by decide) (⟨by decide,by decide,by decide,by decide,by decide⟩) tR (by decide +kernel) (by decide)) (by rw[ag_6,ag_5])))) ?_))))))))
 refine aE aA 5 rfl (aD (hK5 _ (aC (fun K6 hK6=>(aB (aE aA 1 rfl (aH rfl (bR rfl dD rA (l3 rfl) rfl) (aI hf rfl (aK rfl rfl gA rfl ((show Den Tryz.prog _ _ (·=.tup [.sl 4 (([]).map stC),.s (.int .i64 1)]) from kO (gT agS (bs0,bs0) (0,0) 9 (by decide) (by decide) (⟨by decide,by decide,by decide,by decide,by decide⟩) tR (by decide +kernel) (by decide)) (by rw[ag_8,ag_7])))) ?_))))))))
 refine aE aA 5 rfl (aD (hK6 _ (aC (fun K7 hK7=>(aB (aE aA 2 rfl (aI hf rfl (aK rfl rfl lQ rfl ((show Den Tryz.prog _ _ (·=.tup [.s (.int .i64 9),.s (.bool true),.s (.int .i64 0)]) from kO (oS agS oD 20 (by decide) (by decide) (⟨by decide,by decide,by decide,by decide,by decide⟩) tR (by decide +kernel) (by decide)) (by rw[ag_9,ag_10])))) ?_)))))))
 refine aE aA 7 rfl (aD (hK7 _ (aC (fun K8 hK8=>(aB (aE aA 1 rfl (aH rfl (bR rfl gN kD (l3 rfl) rfl) (aI hf rfl (aK rfl rfl lQ rfl ((show Den Tryz.prog _ _ (·=.tup [.s (.int .i64 0),.s (.bool false),.s (.int .i64 0)]) from kO (oS agS (aG1,aG1) 20 (by decide) (by decide) (⟨by decide,by decide,by decide,by decide,by decide⟩) tR (by decide +kernel) (by decide)) (by rw[ag_11,ag_12])))) ?_))))))))
 refine aE aA 7 rfl (aD (hK8 _ (aC (fun K9 hK9=>(aC (fun K10 hK10=>(aB (aE aA 3 rfl (aD (hK10 _ (bW rfl (aN (hK9 _ (aC (fun K11 hK11=>?_)))))))))))))))
 refine aB (aE aA 4 rfl (aX rfl rfl rfl ?_))
 refine aH rfl (bG rfl rfl cC bC (by first | assumption | (refine⟨by omega,?_⟩; first | assumption | exact pE (by omega) | exact pE (by simp only[List.length_cons] at *; omega) | exact aAw (by omega) | exact aB2 (by omega) | exact aAu (by omega)) | exact⟨by decide,rfl⟩)) ?_
 refine aE aA 7 rfl (aX rfl rfl rfl ?_)
 refine aH rfl (bG rfl rfl cC bC (by first | assumption | (refine⟨by omega,?_⟩; first | assumption | exact pE (by omega) | exact pE (by simp only[List.length_cons] at *; omega) | exact aAw (by omega) | exact aB2 (by omega) | exact aAu (by omega)) | exact⟨by decide,rfl⟩)) ?_
 refine aE aA 35 rfl (aX rfl rfl rfl (aI hf rfl (aK rfl rfl aHp rfl ((show Den Tryz.prog _ _ (·=.s (.bool true)) from kO (aFi agS oD 5 (by decide)) (by rw[ag_13])))) ?_))
 refine aE aA 4 rfl (aX rfl rfl rfl (aI hf rfl (aK rfl rfl aHp rfl ((show Den Tryz.prog _ _ (·=.s (.bool false)) from kO (aFi agS oD 4 (by decide)) (by rw[ag_14])))) ?_))
 refine aE aA 3 rfl (aD (hK11 _ (aJ ?_)))
 refine⟨_,rfl,?_⟩
 rfl
end Go.Proofs.YtpkanhklapfajaaGreat
set_option linter.unusedVariables false
set_option linter.unusedSimpArgs false
namespace Go.Abs
open Go
end Go.Abs
set_option linter.unusedVariables false
set_option linter.unusedSimpArgs false
namespace Go.Abs
open Go
end Go.Abs
set_option linter.unusedVariables false
set_option linter.unusedSimpArgs false
namespace Go.Abs
open Go
def dH (u:ByteArray) (t:Int):Ev:=⟨7,t,u,bs0,0,0⟩
end Go.Abs
set_option linter.unusedVariables false
set_option linter.unusedSimpArgs false
namespace Go.Abs
open Go
theorem aJh:∀ (s out:List Sp),(s.foldl dF out).length≤out.length+s.length
  | [],out=>by simp
  | x::s,out=>by
    have h1:=aJh s (dF out x)
    have h2:=pF out x
    simp only[List.foldl_cons,List.length_cons]; omega
theorem aJd (l:List Sp):(dC l).length≤l.length:=by
  have hp:=List.mergeSort_perm (l.filter pI) (fun a b:Sp=>decide (a.1≤b.1))
  have hs:=List.pairwise_mergeSort (le:=fun a b:Sp=>decide (a.1≤b.1)) (fun a b c h1 h2=>by simp only[decide_eq_true_eq] at *; omega) (fun a b=>by simp only[Bool.or_eq_true,decide_eq_true_eq]; omega) (l.filter pI)
  rw[← aF7 hp (hs.imp fun h=>by simpa using h)]
  have h1:=aJh ((l.filter pI).mergeSort (fun a b:Sp=>decide (a.1≤b.1))) []
  have h2:=List.length_filter_le pI l
  have h3:=hp.length_eq
  simp only[List.length_nil] at h1
  omega
theorem aKr (l:List En) (p:Pr):(dS l p).length≤l.length:=by
  have h1:=aJd ((l.filter (ofB p)).map Prod.snd)
  have h2:=List.length_filter_le (ofB p) l
  rw[List.length_map] at h1
  unfold dS; omega
theorem aQv (s:Sta) (p:Pr) (q:Sp):(dK s p q).length≤s.sub.length:=by
  rw[← aE5,← aF9]
  have h1:=aJd (sV [eD q (s.hor,1099511627776)] (dS s.sub p))
  have h2:(sV [eD q (s.hor,1099511627776)] (dS s.sub p)).length=(dS s.sub p).length:=by simp [sV]
  have h3:=aKr s.sub p
  omega
theorem aC4 {s:Sta} {p:Pr} {q:Sp} {u:ByteArray} {t t' now:Int} (h:RightP s) (hu:u=p.2∨u=p.1) :
    (dE { gI s u t with now:=t' } p.2 now).length*(dC (dK { gI s u t with now:=t' } p q)).length=0:=by
  rcases hu with rfl | rfl
  · rw[aA6 h.usr,if_pos rfl]; simp
  · rw[aIu,show dC []=[] from rfl]
    · simp
    · refine aAn fun e he hep=>?_
      have:=(List.mem_filter.1 he).2
      simp [aA0,tK,hep] at this
theorem aQ9 {s:Sta} {p:Pr} {q:Sp} {t:Int}:(eC s p q t).length≤(dE s p.2 t).length*(dC (dK s p q)).length:=by
  unfold eC
  split
  · exact aT5 _ _
  · simp
end Go.Abs
set_option linter.unusedVariables false
set_option linter.unusedSimpArgs false
namespace Go.Abs
open Go Go.RowKit Go.ChangeShapes Go.WideShapes Go.ChangeAt
variable {P:Program} {H:Type} {enc:TypeId×Value→H}
mutual
def TyB:TD→List AV→Nat→Prop
  | .bool,_,n=>1≤n
  | .int _,_,n=>1≤n
  | .str,_,n=>1≤n
  | .sl _ d,cs,n=>∃ (xs:List (List AV)) (ms:List Nat),cs=[.sl d.n xs]∧ms.length=xs.length∧(∀ (i:Nat) x m,xs[i]?=some x→ms[i]?=some m→TyB d x m)∧ms.sum+1≤n
  | .agg ds,cs,n=>∃ m,TyBL ds cs m∧m+1≤n
def TyBL:List TD→List AV→Nat→Prop
  | [],_,_=>True
  | d::r,cs,n=>∃ a b m1 m2,cs=a++b∧a.length=d.n∧TyB d a m1∧TyBL r b m2∧m1+m2≤n
end
structure IsBulk (B:DataW H→Nat):Prop where
  one:∀ d,1≤B d
  sl:∀ e s,(e.map B).sum+1≤B (.slice e s)
  ag:∀ p,(p.map B).sum+1≤B (.agg p)
section
variable {W:World} {base:Nat} {sp:Nat→Bool} {held:Bool} {B:DataW H→Nat}
def aYr (_B:DataW H→Nat) (W:World) (d:TD) (vs:List Value) (n:Nat):Prop:=∃ cs,Ty d cs∧TyB d cs n∧RelL W tQ cs vs∧∀ c∈cs,c.leaf=true
theorem aI3 (f:TypeId→Option TD) (IH:∀ t d,f t=some d→∀ fuel vs x,DataW.trod enc P W base sp held fuel t vs=some x→vM P t x.1→aYr B W d vs (B x.1)) :
    ∀ (segs:List (Nat×TypeId)) (pts:List (DataW H)) (o:Nat) (ds:List TD) (vs:List Value),kL P f o segs=some ds→pts.length=segs.length →
      (∀ (i:Nat) s,segs[i]?=some s→∃ fuel x,DataW.trod enc P W base sp held fuel s.2 ((vs.drop s.1).take (P.cellsOf s.2))=some x∧vM P s.2 x.1∧pts[i]?=some x.1)→o+TD.nL ds=vs.length →
      ∃ cs,TyL ds cs∧TyBL ds cs (pts.map B).sum∧RelL W tQ cs (vs.drop o)∧∀ c∈cs,c.leaf=true:=by
  intro segs
  induction segs with
  | nil =>
    intro pts o ds vs h hpl _ hl
    simp only[kL,Option.some.injEq] at h
    subst h
    simp only[TD.nL,Nat.add_zero] at hl
    refine⟨[],by simp [TyL],by simp [TyBL],⟨by simp [hl],fun i c v hc _=>by simp at hc⟩,by simp⟩
  | cons s r ih =>
    intro pts o ds vs h hpl hx hl
    obtain ⟨off,t⟩:=s
    obtain ⟨pt,pts,rfl⟩:∃ a b,pts=a::b:=by cases pts with
      | nil=>simp at hpl
      | cons a b=>exact⟨a,b,rfl⟩
    simp only[kL] at h
    split at h
    · rename_i d hd
      split at h
      · rename_i hc
        obtain ⟨rfl,hn⟩:=hc
        cases hr:kL P f (off+d.n) r with
        | none=>simp [hr] at h
        | some es =>
          simp only[hr,Option.map_some,Option.some.injEq] at h
          subst h
          simp only[TD.nL] at hl
          obtain ⟨fuel,x,hx1,hw1,hp1⟩:=hx 0 (off,t) (by simp)
          obtain rfl:pt=x.1:=by simpa using hp1
          obtain ⟨a,ha1,haB,ha2,ha3⟩:=IH t d hd fuel _ x hx1 hw1
          obtain ⟨b,hb1,hbB,hb2,hb3⟩:=ih pts (off+d.n) es vs hr (by simpa using hpl) (fun i s hs=>hx (i+1) s (by simpa using hs)) (by omega)
          refine⟨a++b,by simp only[TyL]; exact⟨a,b,rfl,ha1,hb1⟩,by simp only[TyBL]; exact⟨a,b,_,_,rfl,aBk ha1,haB,hbB,by simp⟩,?_,fun c hc=>(List.mem_append.1 hc).elim (ha3 c) (hb3 c)⟩
          have e:vs.drop off=(vs.drop off).take (P.cellsOf t)++vs.drop (off+d.n):=by
            rw[← hn,← List.drop_drop]; exact(List.take_append_drop _ _).symm
          rw[e]
          exact ha2.app hb2
      · cases h
    · cases h
theorem aQ8 (
                    hB:IsBulk B):∀ (n:Nat) (t:TypeId) (d:TD),tdOf? P n t=some d→∀ fuel vs x,DataW.trod enc P W base sp held fuel t vs=some x→vM P t x.1→aYr B W d vs (B x.1):=by
  intro n
  induction n with
  | zero=>intro t d h; simp [tdOf?] at h
  | succ n ih =>
    intro t d h fuel vs x hx hlw
    unfold tdOf? at h
    split at h
    · rename_i ht; cases h
      obtain ⟨b,rfl,_⟩:=DataW.trod_bool ht hx
      exact⟨[.s (.bool b)],by simp only[Ty]; exact⟨b,rfl⟩,by simp only[TyB]; exact hB.one _,.one (.s _),by simp [AV.leaf,Value.oneCell']⟩
    · rename_i k ht; cases h
      obtain ⟨z,rfl,_,hw⟩:=DataW.trod_int ht hx
      exact⟨[.s (.int k z)],by simp only[Ty]; exact⟨z,rfl,hw⟩,by simp only[TyB]; exact hB.one _,.one (.s _),by simp [AV.leaf,Value.oneCell']⟩
    · rename_i ht; cases h
      obtain ⟨s,rfl,rfl,hw⟩:=DataW.trod_string ht hx
      have hws:=hlw s.data.toList.length (by simp [DataW.weights])
      exact⟨[.s (.string s)],by simp only[Ty]; exact⟨s,rfl,by simpa [reachBytes] using hws⟩,by simp only[TyB]; exact hB.one _,.one (.s _),by simp [AV.leaf,Value.oneCell']⟩
    · rename_i e ht
      split at h
      · rename_i de hde
        split at h
        · rename_i hn
          obtain ⟨hn,hpos⟩:=hn
          cases h
          have hmx:maxLen=9223372036854775807:=rfl
          rcases Go.Deep.open_slice ht hx with ⟨rfl,_⟩ | ⟨a,len,cap,m,fu,D,Pl,rfl,_,hl,hm,hmm,hxe,hel⟩
          · exact⟨[.sl de.n []],by simp only[Ty]; exact⟨[],rfl,by simp,by simp,by simp⟩,by simp only[TyB]; exact⟨[],[],rfl,rfl,by simp,by simpa using hB.one _⟩,.one (.sln _ _ _ (by simp [maxLen])),by simp [AV.leaf]⟩
          · have hlm:len≤m:=by rw[hmm]; split <;> omega
            have hlen48:len*P.bytesOf e≤140737488351232:=by
              have h0:=hlw ((((List.range len).map D).length+((List.range (m - len)).map fun j=>D (len+j)).length)*P.bytesOf e) (by rw[hxe]; simp [DataW.weights,ht])
              have h1:len*P.bytesOf e≤(((List.range len).map D).length+((List.range (m - len)).map fun j=>D (len+j)).length)*P.bytesOf e:=Nat.mul_le_mul_right _ (by simp)
              have:reachBytes=140737488351232:=rfl
              omega
            have hlD:∀ i,i<len→vM P e (D i):=fun i hi q hq=>hlw q (by
              rw[hxe]
              simp only[DataW.weights,ht,List.mem_cons,List.mem_append]
              exact .inr (.inl (lK (List.mem_map.2 ⟨i,by simpa using hi,rfl⟩) hq)))
            have key:∀ i,i<len→∃ q:List AV×List Value,(Ty de q.1∧TyB de q.1 (B (D i)))∧RelL W tQ q.1 q.2∧(∀ c∈q.1,c.leaf=true)∧W.cells? base (a.add (i*P.cellsOf e)) (P.cellsOf e)=some q.2:=by
              intro i hi
              obtain ⟨cs',h1,h2⟩:=hel i (by omega)
              obtain ⟨cs,k1,kB,k2,k3⟩:=ih e de hde fu cs' _ h2 (hlD i hi)
              exact⟨(cs,cs'),⟨k1,kB⟩,k2,k3,h1⟩
            obtain ⟨g,hg⟩:=Go.Deep.choose_lt key
            by_cases h0:len=0
            · subst h0
              exact⟨[.sl de.n []],by simp only[Ty]; exact⟨[],rfl,by simp,by simp,by simp⟩,by simp only[TyB]; exact⟨[],[],rfl,rfl,by simp,by simpa using hB.one _⟩,.one (.sln _ _ _ hm),by simp [AV.leaf]⟩
            · have hcell:∀ j i,j<len→i<de.n→W.cell? ((a.add (j*de.n)).add i)=(g j).2[i]?:=by
                intro j i hj hi
                have:=(hg j hj).2.2.2
                rw[← hn] at this
                exact(World.cells?_some this).2.2 i hi
              have hlen:∀ j,j<len→(g j).1.length=de.n∧(g j).2.length=de.n:=by
                intro j hj
                have h1:=aBk (hg j hj).1.1
                exact⟨h1,by rw[← (hg j hj).2.1.1,h1]⟩
              have hspot:a.spot=none:=by
                have h1:=hcell 0 0 (by omega) hpos
                cases hs:a.spot with
                | none=>rfl
                | some x =>
                  exfalso
                  have h2:(g 0).2[0]?≠none:=by
                    have:=(hlen 0 (by omega)).2
                    rw[List.getElem?_eq_getElem (by omega)]; simp
                  rw[← h1] at h2
                  apply h2
                  have:((a.add (0*de.n)).add 0)=a:=by simp [Addr.add]
                  rw[this]
                  simp only[World.cell?,hs]
                  split <;> simp
              have hblk:a.block<W.heap.size:=by
                have h1:=hcell 0 0 (by omega) hpos
                have h2:(g 0).2[0]?≠none:=by
                  have:=(hlen 0 (by omega)).2
                  rw[List.getElem?_eq_getElem (by omega)]; simp
                rw[← h1] at h2
                have:((a.add (0*de.n)).add 0)=a:=by simp [Addr.add]
                rw[this] at h2
                simp only[World.cell?] at h2
                split at h2
                · rename_i h; exact(Array.getElem?_eq_some_iff.1 h).1
                · exact absurd rfl h2
              obtain ⟨b,off,spot⟩:=a
              simp only at hspot hblk
              subst hspot
              have hll:((List.range len).map fun j=>(g j).1).length=len:=by simp
              have hget:∀ (j:Nat) x,((List.range len).map fun j=>(g j).1)[j]?=some x→j<len∧x=(g j).1:=by
                intro j x hj
                rw[List.getElem?_map] at hj
                cases hq:(List.range len)[j]? with
                | none=>simp [hq] at hj
                | some s =>
                  obtain ⟨h1,h2⟩:=List.getElem?_eq_some_iff.1 hq
                  simp at h1 h2
                  subst h2
                  simp [hq] at hj
                  exact⟨h1,hj.symm⟩
              have ty:∀ x∈(List.range len).map fun j=>(g j).1,Ty de x:=by
                intro x hxm
                obtain ⟨j,hj,rfl⟩:=List.mem_map.1 hxm
                exact(hg j (by simpa using hj)).1.1
              have key:=RelV.slc (w:=W) (p:=tQ) de.n ((List.range len).map fun j=>(g j).1) b off cap (fun j i=>((g j).2[i]?).getD undef) (aTk hblk) (by rw[hll]; exact hl) hm
                (fun x hxm=>by
                  obtain ⟨j,hj,rfl⟩:=List.mem_map.1 hxm
                  have hj':j<len:=by simpa using hj
                  exact⟨(hlen j hj').1,(hg j hj').2.2.1⟩)
                (fun j x i c hj hi=>by
                  obtain ⟨hj',rfl⟩:=hget j x hj
                  have hi':i<de.n:=by rw[← (hlen j hj').1]; exact(List.getElem?_eq_some_iff.1 hi).1
                  have h1:=hcell j i hj' hi'
                  rw[kA,kA] at h1
                  rw[h1,List.getElem?_eq_getElem (by rw[(hlen j hj').2]; exact hi')]
                  rfl)
                (fun j x i c hj hi=>by
                  obtain ⟨hj',rfl⟩:=hget j x hj
                  have hi':i<de.n:=by rw[← (hlen j hj').1]; exact(List.getElem?_eq_some_iff.1 hi).1
                  have hv:(g j).2[i]?=some ((g j).2[i]'(by rw[(hlen j hj').2]; exact hi')):=List.getElem?_eq_getElem _
                  rw[hv]
                  exact(hg j hj').2.1.2 i c _ hi hv)
              rw[hll] at key
              exact⟨[.sl de.n ((List.range len).map fun j=>(g j).1)],by simp only[Ty]; exact⟨_,rfl,by rw[hll]; omega,by rw[hll]; exact hlen48,ty⟩,by simp only[TyB]; exact⟨_,(List.range len).map (fun j=>B (D j)),rfl,by simp,(fun i y m hy hm=>by
                obtain ⟨hi,rfl⟩:=hget i y hy
                have:m=B (D i):=by
                  rw[List.getElem?_map,List.getElem?_range hi] at hm; simpa using hm.symm
                rw[this]; exact(hg i hi).1.2),by
                rw[hxe]; exact Nat.le_trans (by simp [Function.comp_def]) (hB.sl _ _)⟩,.one key,by simp [AV.leaf]⟩
        · cases h
      · cases h
    · rename_i fs ht
      split at h
      · rename_i ds hds
        split at h
        · rename_i hn
          cases h
          obtain ⟨xs,fu,_,hxe,hlen,hxl,hf⟩:=DataW.trod_struct ht hx
          obtain ⟨cs,h1,hBB,h2,h3⟩:=aI3 (tdOf? P n) (fun t d h=>ih t d h) _ (xs.map Prod.fst) 0 ds vs hds (by simpa using hxl) (fun i s hs=>by
            obtain ⟨f,hi,rfl⟩:∃ f,fs.toList[i]?=some f∧s=(f.offset,f.type):=by
              rw[List.getElem?_map] at hs
              cases hq:fs.toList[i]? with
              | none=>simp [hq] at hs
              | some f=>exact⟨f,rfl,by simpa [hq] using hs.symm⟩
            have h4:=hf i f (by simpa using hi)
            cases hq:xs[i]? with
            | none =>
              exfalso
              have h5:=(List.getElem?_eq_some_iff.1 hi).1
              simp at h5 hq
              omega
            | some y =>
              refine⟨fu,y,by rw[h4,hq],fun q hq'=>hlw q ?_,by rw[List.getElem?_map,hq]; rfl⟩
              rw[hxe]
              simp only[DataW.weights,ht]
              exact mT (i:=i) (by rw[List.getElem?_map,hi]; rfl) (by rw[List.getElem?_map,hq]; rfl) hq') (by rw[hn,hlen]; omega)
          exact⟨cs,by simp only[Ty]; exact h1,by simp only[TyB]; exact⟨_,hBB,by rw[hxe]; exact hB.ag _⟩,h2,h3⟩
        · cases h
      · cases h
    · rename_i m e ht
      split at h
      · rename_i ds hds
        split at h
        · rename_i hn
          cases h
          obtain ⟨xs,fu,_,hxe,hlen,hxl,hf⟩:=DataW.trod_array ht hx
          obtain ⟨cs,h1,hBB,h2,h3⟩:=aI3 (tdOf? P n) (fun t d h=>ih t d h) _ (xs.map Prod.fst) 0 ds vs hds (by simpa using hxl) (fun i s hs=>by
            obtain ⟨hi,rfl⟩:i<m∧s=(i*P.cellsOf e,e):=by
              rw[List.getElem?_map] at hs
              by_cases him:i<m
              · rw[List.getElem?_range him] at hs; exact⟨him,by simpa using hs.symm⟩
              · rw[List.getElem?_eq_none (by simpa using him)] at hs; simp at hs
            have h4:=hf i hi
            cases hq:xs[i]? with
            | none=>exfalso; simp at hq; omega
            | some y =>
              refine⟨fu,y,by rw[h4,hq],fun q hq'=>hlw q ?_,by rw[List.getElem?_map,hq]; rfl⟩
              rw[hxe]
              simp only[DataW.weights,ht]
              exact lK (List.mem_map.2 ⟨y,List.mem_of_getElem? hq,rfl⟩) hq') (by rw[hn,hlen]; omega)
          exact⟨cs,by simp only[Ty]; exact h1,by simp only[TyB]; exact⟨_,hBB,by rw[hxe]; exact hB.ag _⟩,h2,h3⟩
        · cases h
      · cases h
    · cases h
theorem aAg (hB:IsBulk B) {r:Reach} {b0 n:Nat} {t:TypeId} {v:Value} {d:DataW H} {ps:List MemPlace} {ds:List TD} (ht:tdOf? P n t=some (.agg ds)) (hag:agg? P t=some true)
    (hval:Value.okWide P W r b0 t v) (hd:DataW.Trod enc P W base sp held t v d ps) (hw:vM P t d):∃ cs,TyL ds cs∧TyB (.agg ds) cs (B d)∧RelV W tQ (.agg cs) v:=by
  obtain ⟨fuel,hf⟩:=hd
  obtain ⟨cs,h1,hBB,h2,h3⟩:=aQ8 hB n t _ ht fuel _ _ hf hw
  simp only[Ty] at h1
  have:∃ us:Array Value,v=.agg us:=by
    unfold agg? at hag
    unfold Value.okWide at hval
    cases hu:P.underlying t with
    | none=>simp [hu] at hag
    | some q =>
      rw[hu] at hval
      cases q <;> simp_all <;> (obtain ⟨cs,h,_⟩:=hval; exact⟨cs,h⟩)
  obtain ⟨us,rfl⟩:=this
  refine⟨cs,h1,hBB,.agg _ _ (by simpa [Value.cells] using h2.1) (fun i c u hc hu=>h2.2 i c u hc (by simpa [Value.cells] using hu))⟩
end
theorem tyb_pos:∀ (d:TD) {cs:List AV} {n:Nat},TyB d cs n→1≤n
  | .bool,_,_,h=>by simpa only[TyB] using h
  | .int _,_,_,h=>by simpa only[TyB] using h
  | .str,_,_,h=>by simpa only[TyB] using h
  | .sl _ d,_,_,h=>by
    simp only[TyB] at h
    obtain ⟨_,_,_,_,_,h⟩:=h; omega
  | .agg _,_,_,h=>by
    simp only[TyB] at h
    obtain ⟨_,_,h⟩:=h; omega
theorem aTg {α:Type} {d:TD} {b k n:Nat} {enc:α→List AV} (f:α→Nat) (hf:∀ a m,TyB d (enc a) m→f a≤m) {l:List α} (h:TyB (.sl b d) [.sl k (l.map enc)] n):(l.map f).sum+1≤n:=by
  simp only[TyB] at h
  obtain ⟨xs,ms,he,hl,hx,hs⟩:=h
  obtain ⟨rfl,rfl⟩:k=d.n∧l.map enc=xs:=by simpa using he
  refine Nat.le_trans (Nat.add_le_add_right ?_ 1) hs
  clear hs he
  induction l generalizing ms with
  | nil=>simp
  | cons a l ih =>
    cases ms with
    | nil=>simp at hl
    | cons m ms =>
      have h1:=hf a m (hx 0 (enc a) m (by simp) (by simp))
      have h2:=ih ms (by simpa using hl) (fun i x q hi hq=>hx (i+1) x q (by simpa using hi) (by simpa using hq))
      simp only[List.map_cons,List.sum_cons]; omega
theorem aTi {α:Type}:∀ (l:List α),(l.map fun _=>1).sum=l.length
  | []=>rfl
  | _::l=>by simp only[List.map_cons,List.sum_cons,aTi l,List.length_cons]; omega
theorem aEl {α:Type} {d:TD} {b k n:Nat} {enc:α→List AV} {l:List α} (h:TyB (.sl b d) [.sl k (l.map enc)] n):l.length+1≤n:=by
  have:=aTg (fun _=>1) (fun a m hm=>tyb_pos d hm) h
  rwa [aTi] at this
theorem sD {d:TD} {r:List TD} {c:AV} {cs:List AV} {n:Nat} (hd:d.n=1) (h:TyBL (d::r) (c::cs) n):∃ m1 m2,TyB d [c] m1∧TyBL r cs m2∧m1+m2≤n:=by
  simp only[TyBL] at h
  obtain ⟨a,b,m1,m2,he,hl,h1,h2,h3⟩:=h
  match a,hl.trans hd with
  | [x],_ =>
    simp only[List.cons_append,List.nil_append,List.cons.injEq] at he
    obtain ⟨rfl,rfl⟩:=he
    exact⟨m1,m2,h1,h2,h3⟩
end Go.Abs
set_option linter.unusedVariables false
set_option linter.unusedSimpArgs false
namespace Go.Abs
open Go
theorem aOf:∀ (l:List Us),(l.map fun x=>x.2.length+1).sum=hP l+l.length
  | []=>rfl
  | x::l=>by
    have:=aOf l
    simp only[hP,List.map_cons,List.sum_cons,List.length_cons] at this ⊢
    omega
theorem tyb_us {a:Us} {m:Nat} (h:TyB (.agg [.str,.sl 32 (.agg [.int .i64,.int .i64,.int .i64,.int .i64])]) (usC a) m):a.2.length+1≤m:=by
  simp only[TyB] at h
  obtain ⟨m',h,e⟩:=h
  obtain ⟨a1,b1,_,h,e1⟩:=sD rfl h
  obtain ⟨a2,b2,h2,h,e2⟩:=sD rfl h
  have:=aEl h2
  omega
theorem aEk {s:Sta} {n:Nat} (h:TyB (.agg [.int .i64,.int .i64,.sl 40 (.agg [.int .i64,.str,.int .i64,.int .i64]),.sl 40 (.agg [.str,.sl 32 (.agg [.int .i64,.int .i64,.int .i64,.int .i64])]),.sl 48 (.agg [.str,.str,.int .i64,.int .i64]),.sl 24 (.agg [.str,.int .i64])]) (aT s) n):dZ s+s.usr.length≤n:=by
  simp only[TyB] at h
  obtain ⟨m,h,hm⟩:=h
  obtain ⟨a1,b1,_,h,e1⟩:=sD rfl h
  obtain ⟨a2,b2,_,h,e2⟩:=sD rfl h
  obtain ⟨a3,b3,h3,h,e3⟩:=sD rfl h
  obtain ⟨a4,b4,h4,h,e4⟩:=sD rfl h
  obtain ⟨a5,b5,h5,h,e5⟩:=sD rfl h
  obtain ⟨a6,b6,h6,h,e6⟩:=sD rfl h
  have k3:=aEl h3
  have k4:=aTg (fun x:Us=>x.2.length+1) (fun a m hm=>tyb_us hm) h4
  have k5:=aEl h5
  have k6:=aEl h6
  rw[aOf] at k4
  unfold dZ
  omega
end Go.Abs
