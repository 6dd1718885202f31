/-
  The law GateBlind, in its second form: whatever the state, the stay and the question, the call returns true, and all read behind it as they read before. Condition: all that is handed over takes no more than 1048576 places, counted each time they are reached.
-/
import Derived.Test.YtpkanhklapfajaaGreatRows
import Derived.WalkKit
import Derived.ProofKit
import Derived.OpenShut
import Derived.JoinedCond
import Derived.SizedLaws
import Derived.Deep.CondSized
import Derived.Test.YtpkanhklapfajaaGreatKQ1
import Derived.Test.YtpkanhklapfajaaGreatKQ2
import Derived.Test.YtpkanhklapfajaaGreatKQ3
import Derived.Test.YtpkanhklapfajaaGreatKQ4
import Derived.Test.YtpkanhklapfajaaGreatKQ5
import Derived.Test.YtpkanhklapfajaaGreatKQ6
set_option maxRecDepth 20000
set_option maxHeartbeats 16000000
set_option linter.unusedVariables false
set_option linter.unusedSimpArgs false
namespace Go.Proofs.YtpkanhklapfajaaGreat
open Go Go.Abs
end Go.Proofs.YtpkanhklapfajaaGreat
set_option linter.unusedVariables false
set_option linter.unusedSimpArgs false
namespace Go.Proofs.YtpkanhklapfajaaGreat
open Go Go.Abs
end Go.Proofs.YtpkanhklapfajaaGreat
set_option linter.unusedVariables false
set_option linter.unusedSimpArgs false
namespace Go.Proofs.YtpkanhklapfajaaGreat
open Go Go.Abs
end Go.Proofs.YtpkanhklapfajaaGreat
set_option linter.unusedVariables false
set_option linter.unusedSimpArgs false
namespace Go.Proofs.YtpkanhklapfajaaGreat
open Go Go.Abs
end Go.Proofs.YtpkanhklapfajaaGreat
set_option linter.unusedVariables false
set_option linter.unusedSimpArgs false
namespace Go.Proofs.YtpkanhklapfajaaGreat
open Go Go.Abs
theorem aFf {x y:Bool} (h:x=y):(some (AV.s (Value.bool x)):Option AV)=some (AV.s (Value.bool y)):=by rw[h]
theorem aIn (s:Sta) (hz:SzS 140737488351232 s) (ts:TsS s) (hc:dZ s+s.usr.length≤1048576) (x:bI) (p:Pr) (q:Sp) (t:Int) (h1:TS p.1) (h2:TS p.2) :Den Tryz.prog 10 [.agg (aT s),.agg (stC x),.agg (cL p q t)]  (·=.s (.bool true)):=by
 have hzM:SzS 140737488353280 s:=hz.mono (by omega)
 have hmi:=uO hc
 refine aR Tryz.func10 rfl (Nat.le_of_ble_eq_true rfl) (fun w0 A hf=>(aC (fun K1 hK1=>(aB (aI hf rfl (cE rfl rfl (lf rfl)) (aI hf rfl (cE rfl rfl (lf rfl)) (aI hf rfl (cE rfl rfl (lf rfl)) (aE aA 1 rfl (aD (hK1 _ (aC (fun K2 hK2=>(aC (fun K3 hK3=>(aB (aE aA 1 rfl ?_))))))))))))))))
 refine aI hf rfl (aK rfl rfl rX rfl (rL s hzM)) (aE aA 2 rfl (aU rfl rfl rfl (fun hg1=>?_) (fun hg1=>?_)))
 ·
  simp only[bs] at hg1
  refine aH rfl (xX rfl mO xK rfl rfl) ?_
  refine aX rfl rfl rfl (aI hf rfl (aK rfl rfl rW rfl (mI s (hz.mono (by omega)) ts)) (aE aA 3 rfl (aU rfl rfl rfl (fun hg2=>?_) (fun hg2=>?_))))
  ·
   simp only[bs] at hg2
   refine aH rfl (bM rfl aDm cU rfl) ?_
   refine aE aA 1 rfl (aX rfl rfl rfl (aI hf rfl (aK rfl rfl lP rfl (Nm.refRight_den p.2 h2)) (aE aA 2 rfl (aD (hK3 _ (aL rfl (fun hc3=>?_) (fun hc3=>?_)))))))
   ·
    simp only[bs] at hc3
    refine aC (fun K4 hK4=>(aB (aI hf rfl (aK rfl rfl cW rfl (cN)) (aE aA 1 rfl (aD (hK4 _ (aJ ?_)))))))
    refine⟨_,rfl,?_⟩
    rfl
   ·
    simp only[bs] at hc3
    have hR:RightP s:=jV.1 (by simp_all)
    have hcn:dZ s≤100:=by omega
    have hs:∀ t,(dE s p.2 t).length≤102:=fun t=>by have:=mY hR p.2 t; omega
    have hb:s.sub.length≤101:=by unfold dZ at hcn; omega
    have hrl:∀ q t,(eC s p q t).length≤100000:=fun q t=>tJ (hs t) hb
    have htl:=aBl s p (0,1099511627776)
    have hr1:=hrl q t
    have hru:cF p.2=true:=by simp_all
    refine aN (hK2 _ (aC (fun K5 hK5=>(aC (fun K6 hK6=>(aB (aE aA 5 rfl (aH rfl (bR rfl aYk aWa (l3 rfl) rfl) (aI hf rfl (aK rfl rfl aS8 rfl (aFr s p (0,1099511627776) 0 hb)) (aE aA 2 rfl (aD (hK6 _ (aP (bT (ι:=Nat) (fun k=>⟨167,[(3,.adr (aT s)),(4,.adr (stC x)),(5,.adr (cL p q t)),(46,.sl 2 (((dK s p (0,1099511627776))).map spC)),(47,.s (.int .i64 (((dK s p (0,1099511627776)).map spC).length:Nat))),(48,.s (.int .i64 (k:Nat)))],[]⟩) (fun k=>k≤(dK s p (0,1099511627776)).length∧∀ (j:Nat) (hj:j<(dK s p (0,1099511627776)).length),j<k→¬ max (dK s p (0,1099511627776))[j].1 x.1.1<min (dK s p (0,1099511627776))[j].2 x.1.2) (fun k=>(dK s p (0,1099511627776)).length - k) 0 ?_ ?_ ?_))))))))))))))
    · exact⟨Nat.zero_le _,fun j hj h=>absurd h (Nat.not_lt_zero _)⟩
    · exact sX rfl rfl rfl
    ·
     rintro k hC
     obtain ⟨hk0,hI⟩:=hC
     refine aC (fun K7 hK7=>(aB (aE aA 1 rfl (aD (hK7 _ (aC (fun K8 hK8=>(aL rfl (fun hc4=>?_) (fun hc4=>?_)))))))))
     ·
      simp only[bs] at hc4
      have hk:k<(dK s p (0,1099511627776)).length:=by omega
      refine aN (hK8 _ (aC (fun K9 hK9=>(aP (aC (fun K10 hK10=>(aB ?_)))))))
      refine aH rfl (bG rfl rfl qB oI (by first | exact ixm (by omega) | assumption | exact⟨by decide,rfl⟩)) ?_
      refine aE aA 1 rfl (bY hf rfl eL rfl oI rfl rfl rfl rfl (lf rfl) (aD (hK10 _ (aC (fun K11 hK11=>(aB (aE aA 4 rfl (aH rfl (aTu rfl rfl) (aE aA 4 rfl (aH rfl (p_min rfl rfl) (aE aA 1 rfl (aD (hK11 _ ?_)))))))))))))
      refine aL rfl (fun hc5=>?_) (fun hc5=>?_)
      ·
       simp only[bs] at hc5
       refine aC (fun K12 hK12=>(aB (aI hf rfl (aK rfl rfl cW rfl (cN)) (aE aA 1 rfl (aD (hK12 _ (aJ ?_)))))))
       refine⟨_,rfl,?_⟩
       rfl
      ·
       simp only[bs] at hc5
       refine aN (hK9 _ (aB ?_))
       refine aH rfl (bO rfl rfl (by omega) (by omega)) ?_
       refine aE aA 1 rfl (aD ?_)
       exact⟨k+1,⟨by omega,fun j hj hjk=>if he:j=k then by subst he; first | assumption | omega else hI j hj (by omega)⟩,by omega,cJ ⟨(by first | rfl | exact aQ (by omega)),(by first | rfl | exact aQ (by omega)),(by first | rfl | exact aQ (by omega)),(by first | rfl | exact aQ (by omega)),(by first | rfl | exact aQ (by omega)),(by first | rfl | exact aQ (by omega)),trivial⟩ rfl⟩
     ·
      simp only[bs] at hc4
      have hbl:aG0 s p x:=aX1 (by omega) hI
      refine bF (hK5 _ (aC (fun K13 hK13=>(aB (aE aA 1 rfl (aI hf rfl (aK rfl rfl cS rfl (nQ s hzM)) (bY hf rfl bA rfl cG rfl rfl rfl rfl (lf rfl) (aD (hK13 _ (aC (fun K14 hK14=>(aB (mC hf 2 rfl rfl rfl (aD ?_))))))))))))))
      refine hK14 _ (aC (fun K15 hK15=>(aB (aE aA 1 rfl (aD (hK15 _ (aC (fun K16 hK16=>(aC (fun K17 hK17=>(aB (aE aA 4 rfl (aD (hK17 _ (aP ?_)))))))))))))))
      refine bT (ι:=Nat) (fun k=>⟨167,[(4,.adr (stC x)),(5,.adr (cL p q t)),(9,.adr (aT s)),(10,.own 10 2 0 (qJ p.2 x (s.usr.take k)).length),(11,.s (.bool (jF cM (s.usr.take k) p.2))),(68,.sl 2 (s.usr.map usC)),(69,.s (.int .i64 ((s.usr.map usC).length:Nat))),(70,.s (.int .i64 (k:Nat)))],[(10,.buf 2 ((qJ p.2 x (s.usr.take k)).map usC))]⟩) (fun k=>k≤s.usr.length) (fun k=>s.usr.length - k) 0 ?_ ?_ ?_
      · exact Nat.zero_le _
      · exact sX rfl rfl rfl
      ·
       rintro k hC
       refine aC (fun K18 hK18=>(aB (aE aA 1 rfl (aD (hK18 _ (aC (fun K19 hK19=>(aL rfl (fun hc6=>?_) (fun hc6=>?_)))))))))
       ·
        simp only[bs] at hc6
        have hk:k<s.usr.length:=by omega
        have hmc:=aJi (List.getElem_mem hk)
        have hcu:hP s.usr≤100:=by unfold dZ at hcn; omega
        have hml:=aJf p.2 x (s.usr.take k)
        have htk:(s.usr.take k).length=k:=by rw[List.length_take]; omega
        refine aN (hK19 _ (aC (fun K20 hK20=>(aP (aC (fun K21 hK21=>(aB ?_)))))))
        refine aH rfl (bG rfl rfl fJ eG (by first | exact ixm (by omega) | assumption | exact⟨by decide,rfl⟩)) ?_
        refine aE aA 1 rfl (bY hf rfl oG rfl eG rfl rfl rfl rfl (lf rfl) (aD (hK21 _ (aC (fun K22 hK22=>(aB (aE aA 5 rfl (aD (hK22 _ (aL rfl (fun hc7=>?_) (fun hc7=>?_)))))))))))
        ·
         simp only[bs] at hc7
         refine gL hf (L:=#[true,true,true,true,true,true,true,true,true,true,false,false,false]) 10 3 bE (by kernel_rfl) rfl (by kernel_rfl) rfl ?_
         refine aV aA 6 rfl (bJ [(84,_)] rfl rfl ⟨⟨rfl,rfl⟩,trivial⟩ rfl (aK rfl rfl aHn rfl (aNk x)) (bJ [(83,_),(85,_)] rfl rfl ⟨⟨rfl,rfl⟩,⟨rfl,rfl⟩,trivial⟩ rfl (aK rfl rfl vE rfl (aBf s.usr[k].2 x (by omega))) (bQ [(81,_),(86,_)] rfl rfl ⟨⟨rfl,rfl⟩,⟨rfl,rfl⟩,trivial⟩ rfl (bR rfl oG yD (l3 rfl) rfl) (bJ [(87,_)] rfl rfl ⟨⟨rfl,rfl⟩,trivial⟩ rfl (aS iH rfl rfl rfl rfl (l2 rfl)) (rM [4,5,9,10,68,69,70,79,88] rfl rfl rfl ?_)))))
         refine aG 10 [] (by kernel_rfl) ⟨?_,trivial⟩
         ·
          refine⟨_,rfl,rfl,(ao rfl (bH hf rfl iH rfl rfl rfl (.inl rfl) (by rw[List.length_map]) rfl (by first | rfl | simp [eK,bL]) (by first | (simp only[maxLen,List.length_map,List.length_append,List.length_cons,List.length_nil]; omega) | (simp [maxLen] <;> omega)) (by first | (simp only[List.length_map,List.length_append,List.length_cons,List.length_nil]; omega) | (simp <;> omega)) ?_))⟩
          refine bD (cX [4,5,9,10,68,69,70,89] rfl) (aF (aG 11 [] (by kernel_rfl) ⟨?_,trivial⟩))
          ·
           refine⟨_,rfl,rfl,(ao rfl (aE aA 1 rfl (aF (aG 12 [] (by kernel_rfl) ⟨?_,trivial⟩))))⟩
           ·
            refine⟨_,rfl,rfl,(ao rfl (aE aA 1 rfl (aF (bX (by kernel_rfl) ?_))))⟩
            refine hK20 _ (aB ?_)
            refine aH rfl (bO rfl rfl (by omega) (by omega)) ?_
            refine aE aA 1 rfl (aD ?_)
            exact⟨k+1,by omega,by omega,cJ ⟨rfl,rfl,rfl,(by rw[uN hk,if_pos (toList_inj.1 (by assumption)),List.length_append]; rfl),aFf (by rw[aJp hk]; rw[decide_eq_true (toList_inj.1 (by assumption)),Bool.or_true]),rfl,rfl,aQ (by omega),trivial⟩ (by rw[uN hk,if_pos (toList_inj.1 (by assumption)),List.map_append]; rfl)⟩
        ·
         simp only[bs] at hc7
         refine aB (aE aA 2 rfl (aI hf rfl (aS iH rfl rfl rfl rfl (l2 rfl)) (bH hf rfl iH rfl rfl rfl (.inl rfl) (by rw[List.length_map]) rfl (by first | rfl | simp [eK,bL]) (by first | (simp only[maxLen,List.length_map,List.length_append,List.length_cons,List.length_nil]; omega) | (simp [maxLen] <;> omega)) (by first | (simp only[List.length_map,List.length_append,List.length_cons,List.length_nil]; omega) | (simp <;> omega)) ?_)))
         refine bD (cX [4,5,9,11,68,69,70,93] rfl) (aE aA 1 rfl ?_)
         refine bS ?_
         refine hK20 _ (aB ?_)
         refine aH rfl (bO rfl rfl (by omega) (by omega)) ?_
         refine aE aA 1 rfl (aD ?_)
         exact⟨k+1,by omega,by omega,cJ ⟨rfl,rfl,rfl,(by rw[uN hk,if_neg (fun h=>absurd (toList_inj.2 h) (by assumption)),List.length_append]; rfl),aFf (by rw[aJp hk]; rw[decide_eq_false (fun h=>absurd (toList_inj.2 h) (by assumption)),Bool.or_false]),rfl,rfl,aQ (by omega),trivial⟩ (by rw[uN hk,if_neg (fun h=>absurd (toList_inj.2 h) (by assumption)),List.map_append]; rfl)⟩
       ·
        simp only[bs] at hc6
        refine bF (hK16 _ (aC (fun K23 hK23=>(aC (fun K24 hK24=>(aB ?_))))))
        rw[show s.usr.take k=s.usr from List.take_of_length_le (by omega)]
        refine aE aA 2 rfl (aD (hK24 _ (aL rfl (fun hc8=>?_) (fun hc8=>?_))))
        ·
         simp only[bs] at hc8
         refine aC (fun K25 hK25=>(aB (aI hf rfl (aK rfl rfl cW rfl (cN)) (aE aA 1 rfl (aD (hK25 _ (aJ ?_)))))))
         refine⟨_,rfl,?_⟩
         rfl
        ·
         simp only[bs] at hc8
         have hhas:jF cM s.usr p.2=true:=by simp_all
         have hzMo:SzS 140737488351264 (nZ s p.2 x):=aRe hz
         have tsM:TsS (nZ s p.2 x):=more_ts ts
         refine aN (hK23 _ (aC (fun K26 hK26=>(aB (aE aA 1 rfl (aW hf rfl rfl rfl bA (bB hf rfl rfl cG rfl rfl (l1 rfl) (l4 rfl) rfl (aD (hK26 _ (aC (fun K27 hK27=>(aB (aE aA 2 rfl (bB hf rfl rfl mR rfl rfl (l1 rfl) (l4 rfl) rfl ?_))))))))))))))
         refine aD (hK27 _ (aC (fun K28 hK28=>(aC (fun K29 hK29=>(aB (bD (pH (nee 10) (sl':=[(5,_),(9,_),(14,_)]) (m':=[(14,.box [.s (.int .i64 s.now),.s (.int .i64 s.hor),.sl 4 (s.opn.map seC),.sl 2 ((qJ p.2 x s.usr).map usC),.sl 4 (s.sub.map enC),.sl 2 (s.tmb.map tmC)])]) ⟨⟨_,rfl,rfl⟩,⟨_,rfl,rfl⟩,⟨_,rfl,rfl⟩,trivial⟩ (Eq.trans (show _=[(14,AM.box [.s (.int .i64 s.now),.s (.int .i64 s.hor),.sl 4 (s.opn.map seC),AV.only (nee 10) [(14,.box [.s (.int .i64 s.now),.s (.int .i64 s.hor),.sl 4 (s.opn.map seC),.own 10 2 0 (qJ p.2 x s.usr).length,.sl 4 (s.sub.map enC),.sl 2 (s.tmb.map tmC)]),(10,.buf 2 ((qJ p.2 x s.usr).map usC))] (.own 10 2 0 (qJ p.2 x s.usr).length),.sl 4 (s.sub.map enC),.sl 2 (s.tmb.map tmC)])] from rfl) (by rw[aAo (ok:=nee 10) (g:=10) rfl rfl (by rw[List.length_map])]))) ?_)))))))
         refine aE aA 1 rfl (aI hf rfl (aK rfl rfl aS7 rfl (aMx (nZ s p.2 x) (by have:=hzMo.o; omega) (by have:=hzMo.u; omega) (by have:=hzMo.b; omega) (by have:=hzMo.t; omega) (fun y hy=>by have:=hzMo.y y hy; omega) tsM.o tsM.u tsM.b tsM.t)) ?_)
         refine aE aA 1 rfl (aD (hK29 _ (aL rfl (fun hc9=>?_) (fun hc9=>?_))))
         ·
          simp only[bs] at hc9
          refine aC (fun K30 hK30=>(aB (aI hf rfl (aK rfl rfl cW rfl (cN)) (aE aA 1 rfl (aD (hK30 _ (aJ ?_)))))))
          refine⟨_,rfl,?_⟩
          rfl
         ·
          simp only[bs] at hc9
          have hRM:RightP (nZ s p.2 x):=jV.1 (by simp_all)
          have hsM:∀ t,(dE (nZ s p.2 x) p.2 t).length≤102:=fun t=>by
           have e1:=aRd (t:=t) hR hRM hhas
           have e2:=mY hR p.2 t
           omega
          have hwM:fU (nZ s p.2 x) p t=fU s p t:=xN rfl
          have hrM:∀ q,eC (nZ s p.2 x) p q t=eC s p q t:=fun q=>aM6 hR hRM hhas hbl
          have hlM:mE (nZ s p.2 x) p t=mE s p t:=by rw[mE,hrM]; rfl
          refine aN (hK28 _ (aC (fun K31 hK31=>(cP hf bE (by kernel_rfl) rfl (aV aA 2 rfl (bJ [(107,_)] rfl rfl ⟨⟨rfl,rfl⟩,trivial⟩ rfl (aK rfl rfl eF rfl (fH p q t)) (bJ [(106,_),(108,_)] rfl rfl ⟨⟨rfl,rfl⟩,⟨rfl,rfl⟩,trivial⟩ rfl (aK rfl rfl gA rfl (gT s p q t h1 h2 hzM hR (hs t) hb)) (aV aA 5 rfl (cT [5,9,14,15,16] rfl rfl rfl (hK31 _ (aC (fun K32 hK32=>(cP hf bE (by kernel_rfl) rfl (aV aA 2 rfl ?_))))))))))))))
          refine bJ [(114,_)] rfl rfl ⟨⟨rfl,rfl⟩,trivial⟩ rfl (aK rfl rfl eF rfl (fH p q t)) (bJ [(113,_),(115,_)] rfl rfl ⟨⟨rfl,rfl⟩,⟨rfl,rfl⟩,trivial⟩ rfl (aK rfl rfl gA rfl ((show Den Tryz.prog _ _ (·=.tup [.sl 4 ((eC s p q t).map stC),.s (.int .i64 (fU s p t))]) from kO (gT (nZ s p.2 x) p q t h1 h2 ((aRe hz).mono (by omega)) hRM (hsM t) hb) (by rw[hrM,hwM])))) ?_)
          refine aV aA 5 rfl (cT [5,9,14,15,16,17,18] rfl rfl rfl (hK32 _ (aC (fun K33 hK33=>(cP hf bE (by kernel_rfl) rfl (aV aA 2 rfl (bJ [(121,_)] rfl rfl ⟨⟨rfl,rfl⟩,trivial⟩ rfl (aK rfl rfl eF rfl (fH p q t)) (aV aA 3 rfl (bJ [(120,_),(123,_),(125,_)] rfl rfl ⟨⟨rfl,rfl⟩,⟨rfl,rfl⟩,⟨rfl,rfl⟩,trivial⟩ rfl (aK rfl rfl lQ rfl (oS s p t h1 h2 hzM hR (hs t) hb)) (aV aA 7 rfl (cT [5,14,15,16,17,18,19,20,21] rfl rfl rfl (hK33 _ (aC (fun K34 hK34=>?_))))))))))))))
          refine cP hf bE (by kernel_rfl) rfl (aV aA 2 rfl (bJ [(132,_)] rfl rfl ⟨⟨rfl,rfl⟩,trivial⟩ rfl (aK rfl rfl eF rfl (fH p q t)) (aV aA 3 rfl (bJ [(131,_),(134,_),(136,_)] rfl rfl ⟨⟨rfl,rfl⟩,⟨rfl,rfl⟩,⟨rfl,rfl⟩,trivial⟩ rfl (aK rfl rfl lQ rfl ((show Den Tryz.prog _ _ (·=.tup [.s (.int .i64 (mE s p t).1),.s (.bool (mE s p t).2),.s (.int .i64 (fU s p t))]) from kO (oS (nZ s p.2 x) p t h1 h2 ((aRe hz).mono (by omega)) hRM (hsM t) hb) (by rw[hlM,hwM])))) ?_))))
          refine aV aA 7 rfl (cT [15,16,17,18,19,20,21,22,23,24] rfl rfl rfl (hK34 _ (aC (fun K35 hK35=>(aB (aI hf rfl (aK rfl rfl cW rfl (cN)) (aE aA 3 rfl (aX rfl rfl rfl (aI hf rfl (aK rfl rfl vG rfl (uF (eC s p q t) _ rfl (by omega))) (aE aA 4 rfl (aX rfl rfl rfl (aH rfl (fG rfl rfl (iO (rfl))) (aE aA 4 rfl ?_)))))))))))))
          refine aX rfl rfl rfl (aH rfl (fG rfl rfl (iO (rfl))) (aE aA 4 rfl (aX rfl rfl rfl (aH rfl (fG rfl rfl (aOq Tryz.underlying4 (rfl))) (aE aA 4 rfl (aX rfl rfl rfl (aH rfl (fG rfl rfl (iO (rfl))) (aE aA 2 rfl (aD (hK35 _ (aJ ?_)))))))))))
          refine⟨_,rfl,?_⟩
          rfl
  ·
   simp only[bs] at hg2
   refine aE aA 4 rfl (aD (hK3 _ (bN rfl (aC (fun K36 hK36=>(aB (aI hf rfl (aK rfl rfl cW rfl (cN)) (aE aA 1 rfl (aD (hK36 _ (aJ ?_)))))))))))
   refine⟨_,rfl,?_⟩
   rfl
 ·
  simp only[bs] at hg1
  refine aE aA 9 rfl (aD (hK3 _ (bN rfl (aC (fun K37 hK37=>(aB (aI hf rfl (aK rfl rfl cW rfl (cN)) (aE aA 1 rfl (aD (hK37 _ (aJ ?_)))))))))))
  refine⟨_,rfl,?_⟩
  rfl
end Go.Proofs.YtpkanhklapfajaaGreat
namespace Go.Proofs.YtpkanhklapfajaaGreat
open Go.ChangeShapes Go.WideShapes Go.ChangeAt Go.RowKit Go.Abs
set_option linter.unusedVariables false
theorem own:ownKnob Tryz.prog.godebug=none:=by kernel_rfl
theorem laid:laidOutB Tryz.prog=true:=by kernel_rfl
theorem aKf:tdOf? Tryz.prog 16 27=some (.agg [.int .i64,.int .i64,.sl 40 (.agg [.int .i64,.str,.int .i64,.int .i64]),.sl 40 (.agg [.str,.sl 32 (.agg [.int .i64,.int .i64,.int .i64,.int .i64])]),.sl 48 (.agg [.str,.str,.int .i64,.int .i64]),.sl 24 (.agg [.str,.int .i64])]):=by kernel_rfl
theorem aKe:tdOf? Tryz.prog 16 29=some (.agg [.str,.str,.int .i64,.int .i64,.int .i64]):=by kernel_rfl
theorem td68:tdOf? Tryz.prog 16 68=some (.agg [.int .i64,.int .i64,.int .i64,.int .i64]):=by kernel_rfl
theorem iY {H:Type}:∀ l:List (DataW H),(l.map Rows.uptoBulk).sum=Rows.uptoBulkAll l
  | []=>rfl
  | d::l=>by simp only[List.map_cons,List.sum_cons,iY l,Rows.uptoBulkAll]
theorem uV {H:Type}:IsBulk (H:=H) Rows.uptoBulk:=⟨fun d=>by
    cases d with
    | lit l=>cases l <;> simp [Rows.uptoBulk]
    | nil=>simp [Rows.uptoBulk]
    | ptr d=>simp [Rows.uptoBulk]
    | slice elems spare=>simp [Rows.uptoBulk]
    | agg parts=>simp [Rows.uptoBulk]
    | iface t d=>simp [Rows.uptoBulk]
    | map entries=>simp [Rows.uptoBulk]
    | held h=>simp [Rows.uptoBulk],fun e s=>by rw[iY]; simp only[Rows.uptoBulk]; omega,fun p=>by rw[iY]; simp only[Rows.uptoBulk]; omega⟩
set_option maxRecDepth 100000 in
theorem zO (H:Type) (enc:TypeId×Value→H) (W:World) (base:Nat) (args:Array Value) (ds gs:List (DataW H)) (before:List MemPlace)
    (hval:∀ (j:Nat) t v,Tryz.f10.params[j]?=some t→args[j]?=some v→Value.okWide Tryz.prog W .any base t v)
    (hW:DataW.Whole enc Tryz.prog Tryz.f10.params.toList Rows.gateBlindSpec.vars false W args.toList ds gs before)
    (hk:Rows.uptoSmall H (ds++gs)=true)
    (hsz:(DataW.weightsEach Tryz.prog (Tryz.f10.params.toList++Rows.gateBlindSpec.plain.varTypes Tryz.prog) (ds++gs)).all (·≤reachBytes)=true) :
    Calls Tryz.prog 10 args W fun e W'=>∃ v,e=.returned v∧Rows.gateBlindSpec.post enc Tryz.prog Tryz.f10 false true false false W args v W':=by
  have hW':=hW
  obtain ⟨p,q,hA0,hV,rfl,hfz,hnd⟩:=hW
  have hA:DataW.TrodAll enc Tryz.prog W 0 (fun _=>true) true Tryz.f10.params.toList args.toList ds p:=hA0
  rw[Tryz.params10] at hA hval
  obtain ⟨v0,vs0,d0,ds0,p0,q0,hargs,rfl,rfl,h0,r0⟩:=trodAll_cons hA
  obtain ⟨v1,vs1,d1,ds1,p1,q1,rfl,rfl,rfl,h1,r1⟩:=trodAll_cons r0
  obtain ⟨v2,vs2,d2,ds2,p2,q2,rfl,rfl,rfl,h2,r2⟩:=trodAll_cons r1
  obtain ⟨rfl,rfl,rfl⟩:=trodAll_nil r2
  obtain rfl:args=#[v0,v1,v2]:=by cases args; simp_all
  have hbk:Rows.uptoBulkAll ([d0,d1,d2]++gs)≤1048576:=of_decide_eq_true hk
  simp only[List.cons_append,List.nil_append,Rows.uptoBulkAll] at hbk
  have hb0:Rows.uptoBulk d0≤1048576:=by omega
  have hb1:Rows.uptoBulk d1≤1048576:=by omega
  have hb2:Rows.uptoBulk d2≤1048576:=by omega
  obtain ⟨c0,y0,z0,a0⟩:=aAg uV aKf mO (hval 0 27 v0 rfl rfl) h0 (iE (i:=0) hsz (by rw[Tryz.params10]; rfl) rfl)
  obtain ⟨s,rfl,hz,ts⟩:=aE2 (by simpa only[Ty] using y0)
  have hcs:=aEk z0
  obtain ⟨c1,y1,a1⟩:=sF td68 aYn (hval 1 68 v1 rfl rfl) h1 (iE (i:=1) hsz (by rw[Tryz.params10]; rfl) rfl)
  obtain ⟨x,rfl,_⟩:=ty_st (by simpa only[Ty] using y1)
  obtain ⟨c2,y2,a2⟩:=sF aKe wZ (hval 2 29 v2 rfl rfl) h2 (iE (i:=2) hsz (by rw[Tryz.params10]; rfl) rfl)
  obtain ⟨p,q,t,rfl,hp1,hp2,ht0,ht1⟩:=aE4 (by simpa only[Ty] using y2)
  refine(aIn s hz ts (by omega) x p q t hp1 hp2 (fun _=>False) W [v0,v1,v2] (fun _ h=>h.elim) ⟨rfl,fun i c v hc hv=>?_⟩).mono fun e W' ⟨v,r,he,hr,hE,hv⟩=>?_
  · match i,hc,hv with
    | 0,hc,hv=>cases hc; cases hv; exact a0
    | 1,hc,hv=>cases hc; cases hv; exact a1
    | 2,hc,hv=>cases hc; cases hv; exact a2
  · subst hr
    cases hv
    exact⟨_,he,tE (t:=4) hW' (oE hE) laid (by rw[Tryz.params10]; decide +kernel) rfl (fun _=>rfl) (by kernel_rfl) (by kernel_rfl) Tryz.underlying4⟩
set_option maxRecDepth 100000 in
theorem aCd (os:Os) (started:os.Started) (H:Type) (enc:TypeId×Value→H) (F:Stop.Interp) :
    ReturnsInHanded {} Tryz.checked os 10 .any ((Rows.OpenSpec.upto Rows.gateBlindSpec).pre6 enc Tryz.prog Tryz.f10 Rows.gateBlindUptoRow.domain false) (((Rows.OpenSpec.upto Rows.gateBlindSpec).at F).post enc Tryz.prog Tryz.f10 false true false false):=by
  refine returnsInHanded_of_cond_sized (C:=Tryz.checked) (s:=(Rows.OpenSpec.upto Rows.gateBlindSpec)) (k:=Rows.uptoSmall) rfl own started (by kernel_rfl) Tryz.func10
    (OpenSpec.witness (enc:=enc) (C:=Tryz.checked) (s:=(Rows.OpenSpec.upto Rows.gateBlindSpec)) (k:=Rows.uptoSmall) rfl false ⟨#[],#[.agg #[.int .i64 0,.int .i64 0,.slice none 0 0,.slice none 0 0,.slice none 0 0,.slice none 0 0],.agg #[.int .i64 0,.int .i64 0,.int .i64 0,.int .i64 0],.agg #[.string ⟨#[]⟩,.string ⟨#[]⟩,.int .i64 0,.int .i64 0,.int .i64 0]],[]⟩ 8 (by kernel_rfl) (by kernel_rfl) (by kernel_rfl)
      (x:=([.agg [.lit (.int .i64 0),.lit (.int .i64 0),.nil,.nil,.nil,.nil],.agg [.lit (.int .i64 0),.lit (.int .i64 0),.lit (.int .i64 0),.lit (.int .i64 0)],.agg [.lit (.string []),.lit (.string []),.lit (.int .i64 0),.lit (.int .i64 0),.lit (.int .i64 0)]],[],[])) (by kernel_rfl) rfl (by kernel_rfl)) ?_
  intro W base args ds gs before hval hW _ hk hsz _
  exact zO H enc W base args ds gs before hval hW hk hsz
theorem aLg:(Rows.gateBlindUptoRow.wf (OpenSpec.ofChange (Rows.OpenSpec.upto Rows.gateBlindSpec).bare)&&laidOutB Tryz.prog&&mapsRowed Tryz.prog)=true:=by kernel_rfl
theorem aLf:(Rows.gateBlindUptoRow.inPlace == Tryz.prog.inPlace 10)=true:=by kernel_rfl
theorem aLe:(Rows.gateBlindUptoRow.unfollowed == Tryz.prog.unfollowed 10)=true:=by kernel_rfl
theorem aLd:(Rows.gateBlindUptoRow.recurses == Tryz.prog.recurses 10)=true:=by kernel_rfl
theorem aLc:(Rows.gateBlindUptoRow.named == Tryz.prog.varsNamed 10)=true:=by kernel_rfl
theorem aCe:joinedFacts Tryz.prog 10 Tryz.f10 (Rows.OpenSpec.upto Rows.gateBlindSpec).bare Rows.gateBlindUptoRow=true:=by
  have h0:=aLg
  simp only[Bool.and_eq_true] at h0
  obtain ⟨⟨h5,h6⟩,h7⟩:=h0
  unfold joinedFacts
  repeat (rw[Bool.and_eq_true]; refine And.intro ?_ ?_)
  all_goals with_reducible first | exact aLf | exact aLe | exact aLd | exact aLc | exact h5 | exact h6 | exact h7 | kernel_rfl
theorem gateBlind_proved:Rows.GateBlindUptoSaid :=
  OpenClaim.holds_of_cond 10 Tryz.f10 rfl rfl rfl rfl rfl rfl rfl ⟨rfl,rfl,rfl,rfl,rfl⟩ rfl rfl rfl rfl rfl (by kernel_rfl) Tryz.func10 aCe
    (of_decide_eq_true (by kernel_rfl)) (by unfold Func.isWrapper; first | (rw[if_pos (by decide +kernel)]; kernel_rfl) | (rw[if_neg (by decide +kernel)]; exact⟨rfl,rfl⟩))
    (fun os started H enc _ F=>aCd os started H enc F)
end Go.Proofs.YtpkanhklapfajaaGreat
