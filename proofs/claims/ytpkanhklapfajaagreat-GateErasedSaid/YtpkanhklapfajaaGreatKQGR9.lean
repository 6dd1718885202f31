/-
  The law GateErased: whatever the state, the question and the user, the call returns true, and all read behind it as they read before. No condition beyond the row's own.
-/
import Derived.Test.YtpkanhklapfajaaGreatRows
import Derived.WalkKit
import Derived.ProofKit
import Derived.OpenShut
import Derived.JoinedCond
import Derived.SizedLaws
import Derived.Test.YtpkanhklapfajaaGreatKQ1
import Derived.Test.YtpkanhklapfajaaGreatKQ2
import Derived.Test.YtpkanhklapfajaaGreatKQ3
import Derived.Test.YtpkanhklapfajaaGreatKQ4
import Derived.Test.YtpkanhklapfajaaGreatKQ5
import Derived.Test.YtpkanhklapfajaaGreatKQ6
set_option maxRecDepth 20000
set_option maxHeartbeats 16000000
set_option linter.unusedVariables false
set_option linter.unusedSimpArgs false
namespace Go.Proofs.YtpkanhklapfajaaGreat
open Go Go.Abs
theorem aXy (l:List bI) (b:List Sp) (hl:l.length*32+32≤140737488355328) (hb0:b.length*16≤140737488355328) (hlb:l.length*(dC b).length*32≤140737488351232) :Den Tryz.prog 29 [.sl 4 (l.map stC),.sl 2 (b.map spC)]  (·=.sl 4 ((sA l b).map stC)):=by
 have hnb:=aAp b
 refine aR Tryz.func29 rfl (Nat.le_of_ble_eq_true rfl) (fun w0 A hf=>(aC (fun K1 hK1=>(aB (aH rfl (bK) (aD (hK1 _ (aC (fun K2 hK2=>(aB (mC hf 4 rfl rfl rfl (aD (hK2 _ (aC (fun K3 hK3=>(aB ?_))))))))))))))))
 refine aE aA 1 rfl (aI hf rfl (aK rfl rfl vC rfl (aAq b (by omega))) (aE aA 1 rfl (aD (hK3 _ (aC (fun K4 hK4=>(aC (fun K5 hK5=>(aB (aE aA 3 rfl (aD (hK5 _ (aP (bT (ι:=Nat×List bI) (fun(⟨k,out⟩:Nat×List bI)=>⟨46,[(1,.sl 2 ((dC b).map spC)),(5,.own 5 4 0 out.length),(13,.sl 4 (l.map stC)),(14,.s (.int .i64 ((l.map stC).length:Nat))),(15,.s (.int .i64 (k:Nat)))],[(5,.buf 4 (out.map stC))]⟩) (fun(⟨k,out⟩:Nat×List bI)=>k≤l.length∧out=fF (l.take k) (dC b)∧out.length≤k*(dC b).length) (fun(⟨k,out⟩:Nat×List bI)=>l.length - k) (0,[]) ?_ ?_ ?_))))))))))))))
 · exact⟨Nat.zero_le _,rfl,Nat.zero_le _⟩
 · exact cQ rfl
 ·
  rintro ⟨k,out⟩ hC
  obtain ⟨h1,h2,h3⟩:=hC
  refine aC (fun K6 hK6=>(aB (aE aA 1 rfl (aD (hK6 _ (aC (fun K7 hK7=>(aL rfl (fun hc1=>?_) (fun hc1=>?_)))))))))
  ·
   simp only[bs] at hc1
   refine aN (hK7 _ (aC (fun K8 hK8=>(aP (aC (fun K9 hK9=>(aB ?_)))))))
   refine aH rfl (bG rfl rfl cC bC (by first | exact ixm (by omega) | assumption | exact⟨by decide,rfl⟩)) ?_
   refine aE aA 1 rfl (bY hf rfl eE rfl bC rfl rfl rfl rfl (lf rfl) (aD (hK9 _ (aC (fun K10 hK10=>(aB (aE aA 3 rfl (aD (hK10 _ (aP (bT (ι:=Nat×List bI) (fun(⟨j,o⟩:Nat×List bI)=>⟨46,[(1,.sl 2 ((dC b).map spC)),(5,.own 5 4 0 o.length),(7,.adr (stC l[k])),(13,.sl 4 (l.map stC)),(14,.s (.int .i64 ((l.map stC).length:Nat))),(15,.s (.int .i64 (k:Nat))),(19,.sl 2 ((dC b).map spC)),(20,.s (.int .i64 (((dC b).map spC).length:Nat))),(21,.s (.int .i64 (j:Nat)))],[(5,.buf 4 (o.map stC))]⟩) (fun(⟨j,o⟩:Nat×List bI)=>j≤(dC b).length∧o=out++((dC b).take j).flatMap (kU l[k])∧o.length≤k*(dC b).length+j) (fun(⟨j,o⟩:Nat×List bI)=>(dC b).length - j) (0,out) ?_ ?_ ?_)))))))))))
   · exact⟨Nat.zero_le _,by simp,by omega⟩
   · exact cQ rfl
   ·
    rintro ⟨j,o⟩ hC
    obtain ⟨h4,h5,h6⟩:=hC
    refine aC (fun K11 hK11=>(aB (aE aA 1 rfl (aD (hK11 _ (aC (fun K12 hK12=>(aL rfl (fun hc2=>?_) (fun hc2=>?_)))))))))
    ·
     simp only[bs] at hc2
     refine aN (hK12 _ (aC (fun K13 hK13=>(aP (aC (fun K14 hK14=>(aB ?_)))))))
     have hm:=Nat.mul_le_mul_right (dC b).length (show k+1≤l.length by omega)
     rw[Nat.add_mul,Nat.one_mul] at hm
     have hj:j<(dC b).length:=by omega
     refine aH rfl (bG rfl rfl jI cY (by first | exact ixm (by omega) | assumption | exact⟨by decide,rfl⟩)) ?_
     refine aE aA 1 rfl (bY hf rfl fI rfl cY rfl rfl rfl rfl (lf rfl) (aD (hK14 _ (aC (fun K15 hK15=>(aB (aE aA 3 rfl (aI hf rfl (aK rfl rfl vB rfl (xZ l[k].1 (dC b)[j])) (bY hf rfl fI rfl cY rfl rfl rfl rfl (lf rfl) (aD (hK15 _ (aC (fun K16 hK16=>(aB ?_))))))))))))))
     refine aE aA 1 rfl (aI hf rfl (aK rfl rfl jP rfl (mK (eD l[k].1 (dC b)[j]))) (aE aA 1 rfl (aD (hK16 _ (aL rfl (fun hc3=>?_) (fun hc3=>?_))))))
     ·
      simp only[bs] at hc3
      refine aB (aE aA 6 rfl (aH rfl (bR rfl eE qZ (l3 rfl) rfl) (aI hf rfl (aS gS rfl rfl rfl rfl (l2 rfl)) (bH hf rfl gS rfl rfl rfl (.inl rfl) (by rw[List.length_map]) rfl (by first | rfl | simp [eK,bL]) (by first | (simp only[maxLen,List.length_map,List.length_append,List.length_cons,List.length_nil]; omega) | (simp [maxLen] <;> omega)) (by first | (simp only[List.length_map,List.length_append,List.length_cons,List.length_nil]; omega) | (simp <;> omega)) ?_))))
      refine bD (cX [1,7,13,14,15,19,20,21,40] rfl) (aE aA 1 rfl ?_)
      refine bS ?_
      refine hK13 _ (aB ?_)
      refine aH rfl (bO rfl rfl (by omega) (by omega)) ?_
      refine aE aA 1 rfl (aD ?_)
      exact⟨(j+1,o++[(eD l[k].1 (dC b)[j],l[k].2)]),⟨by omega,by rw[h5,kM _ _ j (by omega),aAt (by omega),List.append_assoc],by rw[List.length_append]; simp only[List.length_cons,List.length_nil]; omega⟩,by simp only; omega,cJ ⟨rfl,(by rw[List.length_append]; rfl),rfl,rfl,rfl,rfl,rfl,rfl,rfl,trivial⟩ (by rw[List.map_append]; rfl)⟩
     ·
      simp only[bs] at hc3
      refine aN (hK13 _ (aB ?_))
      refine aH rfl (bO rfl rfl (by omega) (by omega)) ?_
      refine aE aA 1 rfl (aD ?_)
      exact⟨(j+1,o),⟨by omega,by rw[h5,kM _ _ j (by omega),sK (by omega),List.append_nil],by omega⟩,by simp only; omega,cJ ⟨rfl,rfl,rfl,rfl,rfl,rfl,rfl,rfl,rfl,trivial⟩ rfl⟩
    ·
     simp only[bs] at hc2
     refine bF (hK8 _ (aB ?_))
     refine aH rfl (bO rfl rfl (by omega) (by omega)) ?_
     refine aE aA 1 rfl (aD ?_)
     exact⟨(k+1,o),⟨by omega,by rw[h5,aOe (by omega),h2,List.take_of_length_le (show (dC b).length≤j by omega)],by rw[Nat.add_mul,Nat.one_mul]; omega⟩,by simp only; omega,cJ ⟨rfl,rfl,rfl,rfl,rfl,trivial⟩ rfl⟩
  ·
   simp only[bs] at hc1
   refine bF (hK4 _ (aC (fun K17 hK17=>(aB ?_))))
   have hk:k=l.length:=by omega
   have hm:=Nat.mul_le_mul_right (dC b).length (show k≤l.length by omega)
   refine aE aA 1 rfl (gE hf 5 rfl rfl rfl rfl rfl zV (nR rU cmpS_tri (fun x y=>wW x y) out _ rfl (by omega)) ?_)
   rintro r zs ⟨t,ht1,ht2,rfl⟩
   refine aD (hK17 _ (aC (fun K18 hK18=>(aB (aE aA 2 rfl (aD (hK18 _ (aJ ?_))))))))
   refine⟨_,rfl,?_⟩
   refine(cI (g:=5) rfl (by rw[List.length_map,ht1.length_eq])).trans ?_
   rw[vW ht1 ht2,h2,List.take_of_length_le (by omega)]; rfl
theorem zD (s:Sta) (p:Pr) (q:Sp) (t:Int) (h1:TS p.1) (h2:TS p.2) (hz:SzS 140737488353280 s) (h:RightP s) (hx:(dE s p.2 t).length*(dC (dK s p q)).length=0) :Den Tryz.prog 14 [.agg (aT s),.agg (cL p q t)]  (·=.tup [.sl 4 ((eC s p q t).map stC),.s (.int .i64 (fU s p t))]):=by
 have htl:=aQv s p q
 have hsz:=aWo (u:=p.2) (t:=t) hz h.usr (aTp h)
 have hzb:=hz.b
 refine aR Tryz.func14 rfl (Nat.le_of_ble_eq_true rfl) (fun w0 A hf=>(aC (fun K1 hK1=>(aB (aI hf rfl (cE rfl rfl (lf rfl)) (aI hf rfl (cE rfl rfl (lf rfl)) (aH rfl (bK) (aE aA 1 rfl (aD (hK1 _ (aC (fun K2 hK2=>(aC (fun K3 hK3=>(aB (aE aA 2 rfl ?_))))))))))))))))
 refine aI hf rfl (aK rfl rfl aHm rfl (aIq s p q t h1 h2)) (aE aA 1 rfl (aD (hK3 _ (aC (fun K4 hK4=>(aB (aE aA 2 rfl (aD (hK4 _ (aL rfl (fun hc1=>?_) (fun hc1=>?_)))))))))))
 ·
  simp only[bs] at hc1
  refine aC (fun K5 hK5=>(aB (aE aA 1 rfl (aH rfl (yN (k:=4)) (aE aA 1 rfl (aD (hK5 _ (aJ ?_))))))))
  refine⟨_,rfl,?_⟩
  show AV.tup [.sl 4 [],_]=_
  rw[pR (by simp_all)]; rfl
 ·
  simp only[bs] at hc1
  refine aN (hK2 _ (aC (fun K6 hK6=>(cP hf bE (by kernel_rfl) rfl (aV aA 6 rfl (bJ [(13,_),(16,_),(18,_)] rfl rfl ⟨⟨rfl,rfl⟩,⟨rfl,rfl⟩,⟨rfl,rfl⟩,trivial⟩ rfl (aK rfl rfl aHl rfl (aWp s p.2 t hz h)) (aV aA 2 rfl (bJ [(20,_),(21,_)] rfl rfl ⟨⟨rfl,rfl⟩,⟨rfl,rfl⟩,trivial⟩ rfl (aK rfl rfl aHk rfl (aCl s p q t hz)) (bJ [(19,_),(22,_)] rfl rfl ⟨⟨rfl,rfl⟩,⟨rfl,rfl⟩,trivial⟩ rfl (aK rfl rfl vF rfl (aXy (dE s p.2 t) (dK s p q) (by omega) (by omega) (by omega))) ?_)))))))))
  refine aV aA 2 rfl (cT [4,5] rfl rfl rfl (hK6 _ (aJ ?_)))
  refine⟨_,rfl,?_⟩
  have h0:fU s p t=0:=by simp_all
  rw[lI h0,h0]; rfl
theorem aJl (s:Sta) (p:Pr) (t:Int) (h1:TS p.1) (h2:TS p.2) (hz:SzS 140737488353280 s) (h:RightP s) (hx:(dE s p.2 t).length*(dC (dK s p (0,1099511627776))).length=0) :Den Tryz.prog 20 [.agg (aT s),.agg (prC p),.s (.int .i64 t)]  (·=.tup [.s (.int .i64 (mE s p t).1),.s (.bool (mE s p t).2),.s (.int .i64 (fU s p t))]):=by
 have hrl:=aQ9 (s:=s) (p:=p) (q:=(0,1099511627776)) (t:=t)
 refine aR Tryz.func20 rfl (Nat.le_of_ble_eq_true rfl) (fun w0 A hf=>(aC (fun K1 hK1=>(aB (aI hf rfl (cE rfl rfl (lf rfl)) (aI hf rfl (cE rfl rfl (lf rfl)) (aE aA 3 rfl (aD (hK1 _ (aC (fun K2 hK2=>(aB (aE aA 2 rfl (aH rfl (bR rfl fI jB (l3 rfl) rfl) (aE aA 1 rfl ?_)))))))))))))))
 refine aH rfl (bR rfl dD rA (l3 rfl) rfl) (aI hf rfl (aK rfl rfl gA rfl (zD s p (0,1099511627776) t h1 h2 hz h hx)) (aE aA 5 rfl (aD (hK2 _ (aC (fun K3 hK3=>(aC (fun K4 hK4=>(aB (aE aA 2 rfl (aD (hK4 _ (aL rfl (fun hc1=>?_) (fun hc1=>?_))))))))))))))
 ·
  simp only[bs] at hc1
  refine aC (fun K5 hK5=>(aB (aE aA 4 rfl (aD (hK5 _ (aJ ?_))))))
  refine⟨_,rfl,?_⟩
  have h0:fU s p t≠0:=by simp_all
  rw[aTz h0]; rfl
 ·
  simp only[bs] at hc1
  refine aN (hK3 _ (aC (fun K6 hK6=>(aB (aE aA 1 rfl (aI hf rfl (aK rfl rfl aHj rfl (aJk (eC s p (0,1099511627776) t) (by omega))) (aE aA 5 rfl (aD (hK6 _ (aC (fun K7 hK7=>(aB (aE aA 5 rfl (aD ?_))))))))))))))
  refine hK7 _ (aJ ?_)
  refine⟨_,rfl,?_⟩
  have h0:fU s p t=0:=by simp_all
  rw[h0]; rfl
theorem aEh (s:Sta) (hz:SzS 140737488351232 s) (ts:TsS s) (p:Pr) (q:Sp) (t:Int) (h1:TS p.1) (h2:TS p.2) (u:ByteArray) (hu0:TS u) :Den Tryz.prog 6 [.agg (aT s),.agg (cL p q t),.s (.string u)]  (·=.s (.bool true)):=by
 have hzM:SzS 140737488353280 s:=hz.mono (by omega)
 refine aR Tryz.func6 rfl (Nat.le_of_ble_eq_true rfl) (fun w0 A hf=>(aC (fun K1 hK1=>(aB (aI hf rfl (cE rfl rfl (lf rfl)) (aI hf rfl (cE rfl rfl (lf rfl)) (aE aA 1 rfl (aD (hK1 _ (aC (fun K2 hK2=>(aC (fun K3 hK3=>(aB (aE aA 1 rfl (aI hf rfl (aK rfl rfl rX rfl (rL s hzM)) ?_))))))))))))))))
 refine aE aA 2 rfl (aU rfl rfl rfl (fun hg1=>?_) (fun hg1=>?_))
 ·
  simp only[bs] at hg1
  refine aH rfl (xX rfl mO xK rfl rfl) ?_
  refine aX rfl rfl rfl (aI hf rfl (aK rfl rfl rW rfl (mI s (hz.mono (by omega)) ts)) (aE aA 3 rfl (aU rfl rfl rfl (fun hg2=>?_) (fun hg2=>?_))))
  ·
   simp only[bs] at hg2
   refine aH rfl (fZ rfl) (aE aA 4 rfl (aU rfl rfl rfl (fun hg3=>?_) (fun hg3=>?_)))
   ·
    simp only[bs] at hg3
    refine aH rfl (fZ rfl) (aE aA 5 rfl (aD (hK3 _ (aL rfl (fun hc4=>?_) (fun hc4=>?_)))))
    ·
     simp only[bs] at hc4
     refine aC (fun K4 hK4=>(aB (aI hf rfl (aK rfl rfl cW rfl (cN)) (aE aA 1 rfl (aD (hK4 _ (aJ ?_)))))))
     refine⟨_,rfl,?_⟩
     rfl
    ·
     simp only[bs] at hc4
     refine aN (hK2 _ (aC (fun K5 hK5=>?_)))
     have hR:RightP s:=jV.1 (by simp_all)
     have hu:u=p.2∨u=p.1:=by
      exact .inr (toList_inj.1 (by assumption))
     have hzX:SzS 140737488353280 (bP s (dH u s.now)).1:=aLt hz hR.usr (by omega)
     refine eH bE ?_
     refine bV (listed':=#[false,false,true,false,false,false,false,false,false,false,false,false,false]) 2 rfl (by kernel_rfl) (by kernel_rfl) (by kernel_rfl) rfl (fun _ _ h=>h) (jT rfl sQ cA rfl) ?_
     refine bV (listed':=#[false,false,true,false,true,false,false,false,false,false,false,false,false]) 4 rfl (by kernel_rfl) (by kernel_rfl) (by kernel_rfl) rfl (fun _ _ h=>h) (eA rfl) ?_
     refine aM 0 #[true,true,true,true,true,true,true,true,true,true,true,true,true] ⟨92,[(3,.adr (aT s)),(4,.adr (cL p q t)),(7,.ref 7 0 0 0),(8,.s (.int .i64 (bP s (dH u s.now)).2))],[(7,.box (aT (bP s (dH u s.now)).1))]⟩ ?_ (fun hD0=>?_)
     ·
      refine bX (by kernel_rfl) ?_
      refine hK5 _ (aC (fun K6 hK6=>(aC (fun K7 hK7=>(aB (aE aA 2 rfl (aD (hK7 _ (aL rfl (fun hc5=>?_) (fun hc5=>?_))))))))))
      ·
       simp only[bs] at hc5
       refine aC (fun K8 hK8=>(aB (aI hf rfl (aK rfl rfl cW rfl (cN)) (aE aA 1 rfl (aD (hK8 _ (aJ ?_)))))))
       refine⟨_,rfl,?_⟩
       rfl
      ·
       simp only[bs] at hc5
       have h0:(bP s (dH u s.now)).2=0:=by simp_all
       have hX:=aC5 (s:=s) (e:=(dH u s.now)) rfl h0
       have hRX:RightP (bP s (dH u s.now)).1:=wY hR h0
       have hzz:∀ q t,(dE (bP s (dH u s.now)).1 p.2 t).length*(dC (dK (bP s (dH u s.now)).1 p q)).length=0:=fun q t=>by rw[hX]; exact aC4 hR hu
       have hrX:∀ q t,eC (bP s (dH u s.now)).1 p q t=[]:=fun q t=>by rw[hX]; exact aAi hR hu
       have hwX:fU (bP s (dH u s.now)).1 p t=fU s p t:=xN (by rw[hX]; rfl)
       have hlX:mE (bP s (dH u s.now)).1 p t=(0,false):=by rw[mE,hrX]; rfl
       refine aN (hK6 _ (aC (fun K9 hK9=>(cP hf bE (by kernel_rfl) rfl (aV aA 2 rfl (bJ [(50,_)] rfl rfl ⟨⟨rfl,rfl⟩,trivial⟩ rfl (aK rfl rfl eF rfl (fH p q t)) (bJ [(49,_),(51,_)] rfl rfl ⟨⟨rfl,rfl⟩,⟨rfl,rfl⟩,trivial⟩ rfl (aK rfl rfl gA rfl ((show Den Tryz.prog _ _ (·=.tup [.sl 4 (([]).map stC),.s (.int .i64 (fU s p t))]) from kO (zD (bP s (dH u s.now)).1 p q t h1 h2 hzX hRX (hzz q t)) (by rw[hrX,hwX])))) ?_)))))))
       refine aV aA 5 rfl (cT [3,4,7,9,10] rfl rfl rfl (hK9 _ (aC (fun K10 hK10=>(cP hf bE (by kernel_rfl) rfl (aV aA 2 rfl (bJ [(57,_)] rfl rfl ⟨⟨rfl,rfl⟩,trivial⟩ rfl (aK rfl rfl eF rfl (fH p q t)) (aV aA 3 rfl (bJ [(56,_),(59,_),(61,_)] rfl rfl ⟨⟨rfl,rfl⟩,⟨rfl,rfl⟩,⟨rfl,rfl⟩,trivial⟩ rfl (aK rfl rfl lQ rfl ((show Den Tryz.prog _ _ (·=.tup [.s (.int .i64 0),.s (.bool false),.s (.int .i64 (fU s p t))]) from kO (aJl (bP s (dH u s.now)).1 p t h1 h2 hzX hRX (hzz _ t)) (by rw[hlX,hwX])))) ?_)))))))))
       refine aV aA 7 rfl (cT [3,4,9,10,11,12,13] rfl rfl rfl (hK10 _ (aC (fun K11 hK11=>(aB (aI hf rfl (aK rfl rfl cW rfl (cN)) (aE aA 9 rfl (aX rfl rfl rfl (aI hf rfl (aK rfl rfl aHo rfl (aAh s p q t h1 h2)) (aX rfl rfl rfl (aH rfl (fG rfl rfl (iO (rfl))) (aE aA 12 rfl (aX rfl rfl rfl ?_)))))))))))))
       refine aH rfl (fG rfl rfl (iO (rfl))) (aE aA 2 rfl (aD (hK11 _ (aJ ?_))))
       refine⟨_,rfl,?_⟩
       rfl
     refine aM 1 #[true,true,true,true,true,true,true,true,true,true,true,true,false] ⟨92,[(3,.adr (aT s)),(4,.adr (cL p q t)),(7,.ref 7 0 0 0),(44,.s (.int .i64 (bP s (dH u s.now)).2))],[(7,.box (aT (bP s (dH u s.now)).1))]⟩ ?_ (fun hD1=>?_)
     ·
      refine aG 12 [] (by kernel_rfl) ⟨?_,trivial⟩
      ·
       refine⟨_,rfl,rfl,(ao rfl (aE aA 1 rfl (aF (ag hD0 rfl rfl rfl))))⟩
     refine aM 2 #[true,true,true,true,true,true,true,true,true,true,true,false,false] ⟨92,[(3,.adr (aT s)),(4,.adr (cL p q t)),(7,.ref 7 0 0 0),(43,.agg (aT (bP s (dH u s.now)).1)),(44,.s (.int .i64 (bP s (dH u s.now)).2))],[(7,.box [.s (.int .i64 0),.s (.int .i64 0),.s (.slice none 0 0),.s (.slice none 0 0),.s (.slice none 0 0),.s (.slice none 0 0)])]⟩ ?_ (fun hD2=>?_)
     ·
      refine aG 11 [] (by kernel_rfl) ⟨?_,trivial⟩
      ·
       refine⟨_,rfl,rfl,(ao rfl (bB hf rfl rfl cG rfl rfl (l1 rfl) (l4 rfl) rfl (aF (ag hD1 rfl rfl rfl))))⟩
     refine aM 2 #[true,true,true,true,true,true,true,true,true,false,true,true,false] ⟨92,[(3,.adr (aT s)),(4,.adr (cL p q t)),(7,.ref 7 0 0 0),(35,.tup [.agg (aT (bP s (dH u s.now)).1),.s (.int .i64 (bP s (dH u s.now)).2)])],[(7,.box (aT (bP s (dH u s.now)).1))]⟩ ?_ (fun hD3=>?_)
     ·
      refine aG 9 [] (by kernel_rfl) ⟨?_,trivial⟩
      ·
       refine⟨_,rfl,rfl,(ao rfl (aE aA 1 rfl (aF (ag hD1 rfl rfl rfl))))⟩
     refine aM 3 #[true,true,true,true,true,true,true,true,true,true,false,false,false] ⟨92,[(3,.adr (aT s)),(4,.adr (cL p q t)),(43,.agg (aT (bP s (dH u s.now)).1)),(44,.s (.int .i64 (bP s (dH u s.now)).2))],[]⟩ ?_ (fun hD4=>?_)
     ·
      refine aG 10 [] (by kernel_rfl) ⟨?_,trivial⟩
      ·
       refine⟨_,rfl,rfl,(ao rfl (aW hf rfl rfl rfl bA (aF (ag hD2 rfl rfl rfl))))⟩
     refine aM 3 #[true,true,true,true,true,true,true,true,true,false,true,false,false] ⟨92,[(3,.adr (aT s)),(4,.adr (cL p q t)),(7,.ref 7 0 0 0),(35,.tup [.agg (aT (bP s (dH u s.now)).1),.s (.int .i64 (bP s (dH u s.now)).2)]),(43,.agg (aT (bP s (dH u s.now)).1))],[(7,.box [.s (.int .i64 0),.s (.int .i64 0),.s (.slice none 0 0),.s (.slice none 0 0),.s (.slice none 0 0),.s (.slice none 0 0)])]⟩ ?_ (fun hD5=>?_)
     ·
      refine aG 9 [11] (by kernel_rfl) ⟨?_,?_,trivial⟩
      ·
       refine⟨_,rfl,rfl,(ao rfl (aE aA 1 rfl (aF (ag hD2 rfl rfl rfl))))⟩
      ·
       refine⟨_,rfl,rfl,(ao rfl (bB hf rfl rfl cG rfl rfl (l1 rfl) (l4 rfl) rfl (aF (ag hD3 rfl rfl rfl))))⟩
     refine aM 3 #[true,true,true,true,true,true,true,true,false,true,true,false,false] ⟨92,[(3,.adr (aT s)),(4,.adr (cL p q t)),(7,.ref 7 0 0 0),(35,.tup [.agg (aT (bP s (dH u s.now)).1),.s (.int .i64 (bP s (dH u s.now)).2)]),(44,.s (.int .i64 (bP s (dH u s.now)).2))],[(7,.box [.s (.int .i64 0),.s (.int .i64 0),.s (.slice none 0 0),.s (.slice none 0 0),.s (.slice none 0 0),.s (.slice none 0 0)])]⟩ ?_ (fun hD6=>?_)
     ·
      refine aG 8 [] (by kernel_rfl) ⟨?_,trivial⟩
      ·
       refine⟨_,rfl,rfl,(ao rfl (aE aA 1 rfl (aF (ag hD2 rfl rfl rfl))))⟩
     refine aM 4 #[true,true,true,true,true,true,true,true,true,false,false,false,false] ⟨92,[(3,.adr (aT s)),(4,.adr (cL p q t)),(35,.tup [.agg (aT (bP s (dH u s.now)).1),.s (.int .i64 (bP s (dH u s.now)).2)]),(43,.agg (aT (bP s (dH u s.now)).1))],[]⟩ ?_ (fun hD7=>?_)
     ·
      refine aG 9 [10] (by kernel_rfl) ⟨?_,?_,trivial⟩
      ·
       refine⟨_,rfl,rfl,(ao rfl (aE aA 1 rfl (aF (ag hD4 rfl rfl rfl))))⟩
      ·
       refine⟨_,rfl,rfl,(ao rfl (aW hf rfl rfl rfl bA (aF (ag hD5 rfl rfl rfl))))⟩
     refine aM 4 #[true,true,true,true,true,true,true,true,false,true,false,false,false] ⟨92,[(3,.adr (aT s)),(4,.adr (cL p q t)),(35,.tup [.agg (aT (bP s (dH u s.now)).1),.s (.int .i64 (bP s (dH u s.now)).2)]),(44,.s (.int .i64 (bP s (dH u s.now)).2))],[]⟩ ?_ (fun hD8=>?_)
     ·
      refine aG 8 [10] (by kernel_rfl) ⟨?_,?_,trivial⟩
      ·
       refine⟨_,rfl,rfl,(ao rfl (aE aA 1 rfl (aF (ag hD4 rfl rfl rfl))))⟩
      ·
       refine⟨_,rfl,rfl,(ao rfl (aW hf rfl rfl rfl bA (aF (ag hD6 rfl rfl rfl))))⟩
     refine aM 4 #[true,true,true,true,true,true,true,true,false,false,true,false,false] ⟨92,[(3,.adr (aT s)),(4,.adr (cL p q t)),(7,.ref 7 0 0 0),(35,.tup [.agg (aT (bP s (dH u s.now)).1),.s (.int .i64 (bP s (dH u s.now)).2)])],[(7,.box [.s (.int .i64 0),.s (.int .i64 0),.s (.slice none 0 0),.s (.slice none 0 0),.s (.slice none 0 0),.s (.slice none 0 0)])]⟩ ?_ (fun hD9=>?_)
     ·
      refine aG 8 [9] (by kernel_rfl) ⟨?_,?_,trivial⟩
      ·
       refine⟨_,rfl,rfl,(ao rfl (aE aA 1 rfl (aF (ag hD5 rfl rfl rfl))))⟩
      ·
       refine⟨_,rfl,rfl,(ao rfl (aE aA 1 rfl (aF (ag hD6 rfl rfl rfl))))⟩
     refine aM 5 #[true,true,true,true,true,true,true,true,false,false,false,false,false] ⟨92,[(3,.adr (aT s)),(4,.adr (cL p q t)),(35,.tup [.agg (aT (bP s (dH u s.now)).1),.s (.int .i64 (bP s (dH u s.now)).2)])],[]⟩ ?_ (fun hD10=>?_)
     ·
      refine aG 8 [9,10] (by kernel_rfl) ⟨?_,?_,?_,trivial⟩
      ·
       refine⟨_,rfl,rfl,(ao rfl (aE aA 1 rfl (aF (ag hD7 rfl rfl rfl))))⟩
      ·
       refine⟨_,rfl,rfl,(ao rfl (aE aA 1 rfl (aF (ag hD8 rfl rfl rfl))))⟩
      ·
       refine⟨_,rfl,rfl,(ao rfl (aW hf rfl rfl rfl bA (aF (ag hD9 rfl rfl rfl))))⟩
     refine aM 5 #[true,true,true,true,true,true,true,false,false,false,true,false,false] ⟨92,[(3,.adr (aT s)),(4,.adr (cL p q t)),(7,.ref 7 0 0 0),(42,.tup [.agg (aT (bP s (dH u s.now)).1),.s (.int .i64 (bP s (dH u s.now)).2)])],[(7,.box [.s (.int .i64 0),.s (.int .i64 0),.s (.slice none 0 0),.s (.slice none 0 0),.s (.slice none 0 0),.s (.slice none 0 0)])]⟩ ?_ (fun hD11=>?_)
     ·
      refine aG 7 [] (by kernel_rfl) ⟨?_,trivial⟩
      ·
       refine⟨_,rfl,rfl,(ao rfl (aE aA 1 rfl (aF (ag hD9 rfl rfl rfl))))⟩
     refine aM 6 #[true,true,true,true,true,true,true,false,false,false,false,false,false] ⟨92,[(3,.adr (aT s)),(4,.adr (cL p q t)),(42,.tup [.agg (aT (bP s (dH u s.now)).1),.s (.int .i64 (bP s (dH u s.now)).2)])],[]⟩ ?_ (fun hD12=>?_)
     ·
      refine aG 7 [10] (by kernel_rfl) ⟨?_,?_,trivial⟩
      ·
       refine⟨_,rfl,rfl,(ao rfl (aE aA 1 rfl (aF (ag hD10 rfl rfl rfl))))⟩
      ·
       refine⟨_,rfl,rfl,(ao rfl (aW hf rfl rfl rfl bA (aF (ag hD11 rfl rfl rfl))))⟩
     refine aM 6 #[true,true,true,true,true,true,false,false,false,false,true,false,false] ⟨92,[(3,.adr (aT s)),(4,.adr (cL p q t)),(7,.ref 7 0 0 0),(37,.agg (aT s)),(41,.agg (evC (dH u s.now)))],[(7,.box [.s (.int .i64 0),.s (.int .i64 0),.s (.slice none 0 0),.s (.slice none 0 0),.s (.slice none 0 0),.s (.slice none 0 0)])]⟩ ?_ (fun hD13=>?_)
     ·
      refine aG 6 [] (by kernel_rfl) ⟨?_,trivial⟩
      ·
       refine⟨_,rfl,rfl,(ao rfl (aI hf rfl (aK rfl rfl rV rfl (aLs s (dH u s.now) hzM hR hu0 (by show (0:Nat)≤_; omega))) ?_))⟩
       refine aF (ag hD11 rfl rfl rfl)
     refine aM 7 #[true,true,true,true,true,true,false,false,false,false,false,false,false] ⟨92,[(3,.adr (aT s)),(4,.adr (cL p q t)),(37,.agg (aT s)),(41,.agg (evC (dH u s.now)))],[]⟩ ?_ (fun hD14=>?_)
     ·
      refine aG 6 [10] (by kernel_rfl) ⟨?_,?_,trivial⟩
      ·
       refine⟨_,rfl,rfl,(ao rfl (aI hf rfl (aK rfl rfl rV rfl (aLs s (dH u s.now) hzM hR hu0 (by show (0:Nat)≤_; omega))) ?_))⟩
       refine aF (ag hD12 rfl rfl rfl)
      ·
       refine⟨_,rfl,rfl,(ao rfl (aW hf rfl rfl rfl bA (aF (ag hD13 rfl rfl rfl))))⟩
     refine aM 7 #[true,true,true,true,true,false,false,false,false,false,true,false,false] ⟨92,[(3,.adr (aT s)),(4,.adr (cL p q t)),(7,.ref 7 0 0 0),(37,.agg (aT s)),(39,.s (.int .i64 s.now)),(40,.s (.string u))],[(7,.box [.s (.int .i64 0),.s (.int .i64 0),.s (.slice none 0 0),.s (.slice none 0 0),.s (.slice none 0 0),.s (.slice none 0 0)])]⟩ ?_ (fun hD15=>?_)
     ·
      refine aG 5 [] (by kernel_rfl) ⟨?_,trivial⟩
      ·
       refine⟨_,rfl,rfl,(ao rfl (aH rfl (bR rfl gZ gQ (l3 rfl) rfl) (aF (ag hD13 rfl rfl rfl))))⟩
     refine aM 7 #[true,false,true,true,true,true,false,false,false,false,true,false,false] ⟨92,[(3,.adr (aT s)),(4,.adr (cL p q t)),(7,.ref 7 0 0 0),(36,.agg (aT s)),(41,.agg (evC (dH u s.now)))],[(7,.box [.s (.int .i64 0),.s (.int .i64 0),.s (.slice none 0 0),.s (.slice none 0 0),.s (.slice none 0 0),.s (.slice none 0 0)])]⟩ ?_ (fun hD16=>?_)
     ·
      refine aG 1 [] (by kernel_rfl) ⟨?_,trivial⟩
      ·
       refine⟨_,rfl,rfl,(ao rfl (aI hf rfl (aK rfl rfl cS rfl (nQ s hzM)) (aF (ag hD13 rfl rfl rfl))))⟩
     refine aM 8 #[true,true,true,true,true,false,false,false,false,false,false,false,false] ⟨92,[(3,.adr (aT s)),(4,.adr (cL p q t)),(37,.agg (aT s)),(39,.s (.int .i64 s.now)),(40,.s (.string u))],[]⟩ ?_ (fun hD17=>?_)
     ·
      refine aG 5 [10] (by kernel_rfl) ⟨?_,?_,trivial⟩
      ·
       refine⟨_,rfl,rfl,(ao rfl (aH rfl (bR rfl gZ gQ (l3 rfl) rfl) (aF (ag hD14 rfl rfl rfl))))⟩
      ·
       refine⟨_,rfl,rfl,(ao rfl (aW hf rfl rfl rfl bA (aF (ag hD15 rfl rfl rfl))))⟩
     refine aM 8 #[true,true,true,false,true,false,false,false,false,false,true,false,false] ⟨92,[(3,.adr (aT s)),(4,.adr (cL p q t)),(7,.ref 7 0 0 0),(37,.agg (aT s)),(38,.adr (aT s)),(40,.s (.string u))],[(7,.box [.s (.int .i64 0),.s (.int .i64 0),.s (.slice none 0 0),.s (.slice none 0 0),.s (.slice none 0 0),.s (.slice none 0 0)])]⟩ ?_ (fun hD18=>?_)
     ·
      refine aG 3 [] (by kernel_rfl) ⟨?_,trivial⟩
      ·
       refine⟨_,rfl,rfl,(ao rfl (aE aA 1 rfl (aF (ag hD15 rfl rfl rfl))))⟩
     refine aM 8 #[true,false,true,true,true,true,false,false,false,false,false,false,false] ⟨92,[(3,.adr (aT s)),(4,.adr (cL p q t)),(36,.agg (aT s)),(41,.agg (evC (dH u s.now)))],[]⟩ ?_ (fun hD19=>?_)
     ·
      refine aG 1 [10] (by kernel_rfl) ⟨?_,?_,trivial⟩
      ·
       refine⟨_,rfl,rfl,(ao rfl (aI hf rfl (aK rfl rfl cS rfl (nQ s hzM)) (aF (ag hD14 rfl rfl rfl))))⟩
      ·
       refine⟨_,rfl,rfl,(ao rfl (aW hf rfl rfl rfl bA (aF (ag hD16 rfl rfl rfl))))⟩
     refine aM 8 #[true,false,true,true,true,false,false,false,false,false,true,false,false] ⟨92,[(3,.adr (aT s)),(4,.adr (cL p q t)),(7,.ref 7 0 0 0),(36,.agg (aT s)),(39,.s (.int .i64 s.now)),(40,.s (.string u))],[(7,.box [.s (.int .i64 0),.s (.int .i64 0),.s (.slice none 0 0),.s (.slice none 0 0),.s (.slice none 0 0),.s (.slice none 0 0)])]⟩ ?_ (fun hD20=>?_)
     ·
      refine aG 1 [5] (by kernel_rfl) ⟨?_,?_,trivial⟩
      ·
       refine⟨_,rfl,rfl,(ao rfl (aI hf rfl (aK rfl rfl cS rfl (nQ s hzM)) (aF (ag hD15 rfl rfl rfl))))⟩
      ·
       refine⟨_,rfl,rfl,(ao rfl (aH rfl (bR rfl gZ gQ (l3 rfl) rfl) (aF (ag hD16 rfl rfl rfl))))⟩
     refine aM 8 #[false,false,true,true,true,true,false,false,false,false,true,false,false] ⟨92,[(3,.adr (aT s)),(4,.adr (cL p q t)),(7,.ref 7 0 0 0),(41,.agg (evC (dH u s.now)))],[(7,.box [.s (.int .i64 0),.s (.int .i64 0),.s (.slice none 0 0),.s (.slice none 0 0),.s (.slice none 0 0),.s (.slice none 0 0)])]⟩ ?_ (fun hD21=>?_)
     ·
      refine aG 0 [] (by kernel_rfl) ⟨?_,trivial⟩
      ·
       refine⟨_,rfl,rfl,(ao rfl (aE aA 1 rfl (aF (ag hD16 rfl rfl rfl))))⟩
     refine aM 9 #[true,true,true,false,true,false,false,false,false,false,false,false,false] ⟨92,[(3,.adr (aT s)),(4,.adr (cL p q t)),(37,.agg (aT s)),(38,.adr (aT s)),(40,.s (.string u))],[]⟩ ?_ (fun hD22=>?_)
     ·
      refine aG 3 [10] (by kernel_rfl) ⟨?_,?_,trivial⟩
      ·
       refine⟨_,rfl,rfl,(ao rfl (aE aA 1 rfl (aF (ag hD17 rfl rfl rfl))))⟩
      ·
       refine⟨_,rfl,rfl,(ao rfl (aW hf rfl rfl rfl bA (aF (ag hD18 rfl rfl rfl))))⟩
     refine aM 9 #[true,false,true,true,true,false,false,false,false,false,false,false,false] ⟨92,[(3,.adr (aT s)),(4,.adr (cL p q t)),(36,.agg (aT s)),(39,.s (.int .i64 s.now)),(40,.s (.string u))],[]⟩ ?_ (fun hD23=>?_)
     ·
      refine aG 1 [5,10] (by kernel_rfl) ⟨?_,?_,?_,trivial⟩
      ·
       refine⟨_,rfl,rfl,(ao rfl (aI hf rfl (aK rfl rfl cS rfl (nQ s hzM)) (aF (ag hD17 rfl rfl rfl))))⟩
      ·
       refine⟨_,rfl,rfl,(ao rfl (aH rfl (bR rfl gZ gQ (l3 rfl) rfl) (aF (ag hD19 rfl rfl rfl))))⟩
      ·
       refine⟨_,rfl,rfl,(ao rfl (aW hf rfl rfl rfl bA (aF (ag hD20 rfl rfl rfl))))⟩
     refine aM 9 #[true,false,true,false,true,false,false,false,false,false,true,false,false] ⟨92,[(3,.adr (aT s)),(4,.adr (cL p q t)),(7,.ref 7 0 0 0),(36,.agg (aT s)),(38,.adr (aT s)),(40,.s (.string u))],[(7,.box [.s (.int .i64 0),.s (.int .i64 0),.s (.slice none 0 0),.s (.slice none 0 0),.s (.slice none 0 0),.s (.slice none 0 0)])]⟩ ?_ (fun hD24=>?_)
     ·
      refine aG 1 [3] (by kernel_rfl) ⟨?_,?_,trivial⟩
      ·
       refine⟨_,rfl,rfl,(ao rfl (aI hf rfl (aK rfl rfl cS rfl (nQ s hzM)) (aF (ag hD18 rfl rfl rfl))))⟩
      ·
       refine⟨_,rfl,rfl,(ao rfl (aE aA 1 rfl (aF (ag hD20 rfl rfl rfl))))⟩
     refine aM 9 #[false,false,true,true,true,true,false,false,false,false,false,false,false] ⟨92,[(3,.adr (aT s)),(4,.adr (cL p q t)),(41,.agg (evC (dH u s.now)))],[]⟩ ?_ (fun hD25=>?_)
     ·
      refine aG 0 [10] (by kernel_rfl) ⟨?_,?_,trivial⟩
      ·
       refine⟨_,rfl,rfl,(ao rfl (aE aA 1 rfl (aF (ag hD19 rfl rfl rfl))))⟩
      ·
       refine⟨_,rfl,rfl,(ao rfl (aW hf rfl rfl rfl bA (aF (ag hD21 rfl rfl rfl))))⟩
     refine aM 9 #[false,false,true,true,true,false,false,false,false,false,true,false,false] ⟨92,[(3,.adr (aT s)),(4,.adr (cL p q t)),(7,.ref 7 0 0 0),(39,.s (.int .i64 s.now)),(40,.s (.string u))],[(7,.box [.s (.int .i64 0),.s (.int .i64 0),.s (.slice none 0 0),.s (.slice none 0 0),.s (.slice none 0 0),.s (.slice none 0 0)])]⟩ ?_ (fun hD26=>?_)
     ·
      refine aG 0 [5] (by kernel_rfl) ⟨?_,?_,trivial⟩
      ·
       refine⟨_,rfl,rfl,(ao rfl (aE aA 1 rfl (aF (ag hD20 rfl rfl rfl))))⟩
      ·
       refine⟨_,rfl,rfl,(ao rfl (aH rfl (bR rfl gZ gQ (l3 rfl) rfl) (aF (ag hD21 rfl rfl rfl))))⟩
     refine aM 10 #[true,false,true,false,true,false,false,false,false,false,false,false,false] ⟨92,[(3,.adr (aT s)),(4,.adr (cL p q t)),(36,.agg (aT s)),(38,.adr (aT s)),(40,.s (.string u))],[]⟩ ?_ (fun hD27=>?_)
     ·
      refine aG 1 [3,10] (by kernel_rfl) ⟨?_,?_,?_,trivial⟩
      ·
       refine⟨_,rfl,rfl,(ao rfl (aI hf rfl (aK rfl rfl cS rfl (nQ s hzM)) (aF (ag hD22 rfl rfl rfl))))⟩
      ·
       refine⟨_,rfl,rfl,(ao rfl (aE aA 1 rfl (aF (ag hD23 rfl rfl rfl))))⟩
      ·
       refine⟨_,rfl,rfl,(ao rfl (aW hf rfl rfl rfl bA (aF (ag hD24 rfl rfl rfl))))⟩
     refine aM 10 #[false,false,true,true,true,false,false,false,false,false,false,false,false] ⟨92,[(3,.adr (aT s)),(4,.adr (cL p q t)),(39,.s (.int .i64 s.now)),(40,.s (.string u))],[]⟩ ?_ (fun hD28=>?_)
     ·
      refine aG 0 [5,10] (by kernel_rfl) ⟨?_,?_,?_,trivial⟩
      ·
       refine⟨_,rfl,rfl,(ao rfl (aE aA 1 rfl (aF (ag hD23 rfl rfl rfl))))⟩
      ·
       refine⟨_,rfl,rfl,(ao rfl (aH rfl (bR rfl gZ gQ (l3 rfl) rfl) (aF (ag hD25 rfl rfl rfl))))⟩
      ·
       refine⟨_,rfl,rfl,(ao rfl (aW hf rfl rfl rfl bA (aF (ag hD26 rfl rfl rfl))))⟩
     refine aM 10 #[false,false,true,false,true,false,false,false,false,false,true,false,false] ⟨92,[(3,.adr (aT s)),(4,.adr (cL p q t)),(7,.ref 7 0 0 0),(38,.adr (aT s)),(40,.s (.string u))],[(7,.box [.s (.int .i64 0),.s (.int .i64 0),.s (.slice none 0 0),.s (.slice none 0 0),.s (.slice none 0 0),.s (.slice none 0 0)])]⟩ ?_ (fun hD29=>?_)
     ·
      refine aG 0 [3] (by kernel_rfl) ⟨?_,?_,trivial⟩
      ·
       refine⟨_,rfl,rfl,(ao rfl (aE aA 1 rfl (aF (ag hD24 rfl rfl rfl))))⟩
      ·
       refine⟨_,rfl,rfl,(ao rfl (aE aA 1 rfl (aF (ag hD26 rfl rfl rfl))))⟩
     refine kQ (sX (sl':=[(3,.adr (aT s)),(4,.adr (cL p q t)),(38,.adr (aT s)),(40,.s (.string u))]) (m':=[]) rfl rfl rfl) (aG 0 [3,10] (by kernel_rfl) ⟨?_,?_,?_,trivial⟩)
     ·
      refine⟨_,rfl,rfl,(ao rfl (aE aA 1 rfl (aF (ag hD27 rfl rfl rfl))))⟩
     ·
      refine⟨_,rfl,rfl,(ao rfl (aE aA 1 rfl (aF (ag hD28 rfl rfl rfl))))⟩
     ·
      refine⟨_,rfl,rfl,(ao rfl (aW hf rfl rfl rfl bA (aF (ag hD29 rfl rfl rfl))))⟩
   ·
    simp only[bs] at hg3
    refine aE aA 5 rfl (aD (hK3 _ (bW rfl (aN (hK2 _ (aC (fun K12 hK12=>?_)))))))
    have hR:RightP s:=jV.1 (by simp_all)
    have hu:u=p.2∨u=p.1:=by
     exact .inl (toList_inj.1 (by assumption))
    have hzX:SzS 140737488353280 (bP s (dH u s.now)).1:=aLt hz hR.usr (by omega)
    refine eH bE ?_
    refine bV (listed':=#[false,false,true,false,false,false,false,false,false,false,false,false,false]) 2 rfl (by kernel_rfl) (by kernel_rfl) (by kernel_rfl) rfl (fun _ _ h=>h) (jT rfl sQ cA rfl) ?_
    refine bV (listed':=#[false,false,true,false,true,false,false,false,false,false,false,false,false]) 4 rfl (by kernel_rfl) (by kernel_rfl) (by kernel_rfl) rfl (fun _ _ h=>h) (eA rfl) ?_
    refine aM 0 #[true,true,true,true,true,true,true,true,true,true,true,true,true] ⟨92,[(3,.adr (aT s)),(4,.adr (cL p q t)),(7,.ref 7 0 0 0),(8,.s (.int .i64 (bP s (dH u s.now)).2))],[(7,.box (aT (bP s (dH u s.now)).1))]⟩ ?_ (fun hD0=>?_)
    ·
     refine bX (by kernel_rfl) ?_
     refine hK12 _ (aC (fun K13 hK13=>(aC (fun K14 hK14=>(aB (aE aA 2 rfl (aD (hK14 _ (aL rfl (fun hc7=>?_) (fun hc7=>?_))))))))))
     ·
      simp only[bs] at hc7
      refine aC (fun K15 hK15=>(aB (aI hf rfl (aK rfl rfl cW rfl (cN)) (aE aA 1 rfl (aD (hK15 _ (aJ ?_)))))))
      refine⟨_,rfl,?_⟩
      rfl
     ·
      simp only[bs] at hc7
      have h0:(bP s (dH u s.now)).2=0:=by simp_all
      have hX:=aC5 (s:=s) (e:=(dH u s.now)) rfl h0
      have hRX:RightP (bP s (dH u s.now)).1:=wY hR h0
      have hzz:∀ q t,(dE (bP s (dH u s.now)).1 p.2 t).length*(dC (dK (bP s (dH u s.now)).1 p q)).length=0:=fun q t=>by rw[hX]; exact aC4 hR hu
      have hrX:∀ q t,eC (bP s (dH u s.now)).1 p q t=[]:=fun q t=>by rw[hX]; exact aAi hR hu
      have hwX:fU (bP s (dH u s.now)).1 p t=fU s p t:=xN (by rw[hX]; rfl)
      have hlX:mE (bP s (dH u s.now)).1 p t=(0,false):=by rw[mE,hrX]; rfl
      refine aN (hK13 _ (aC (fun K16 hK16=>(cP hf bE (by kernel_rfl) rfl (aV aA 2 rfl (bJ [(50,_)] rfl rfl ⟨⟨rfl,rfl⟩,trivial⟩ rfl (aK rfl rfl eF rfl (fH p q t)) (bJ [(49,_),(51,_)] rfl rfl ⟨⟨rfl,rfl⟩,⟨rfl,rfl⟩,trivial⟩ rfl (aK rfl rfl gA rfl ((show Den Tryz.prog _ _ (·=.tup [.sl 4 (([]).map stC),.s (.int .i64 (fU s p t))]) from kO (zD (bP s (dH u s.now)).1 p q t h1 h2 hzX hRX (hzz q t)) (by rw[hrX,hwX])))) ?_)))))))
      refine aV aA 5 rfl (cT [3,4,7,9,10] rfl rfl rfl (hK16 _ (aC (fun K17 hK17=>(cP hf bE (by kernel_rfl) rfl (aV aA 2 rfl (bJ [(57,_)] rfl rfl ⟨⟨rfl,rfl⟩,trivial⟩ rfl (aK rfl rfl eF rfl (fH p q t)) (aV aA 3 rfl (bJ [(56,_),(59,_),(61,_)] rfl rfl ⟨⟨rfl,rfl⟩,⟨rfl,rfl⟩,⟨rfl,rfl⟩,trivial⟩ rfl (aK rfl rfl lQ rfl ((show Den Tryz.prog _ _ (·=.tup [.s (.int .i64 0),.s (.bool false),.s (.int .i64 (fU s p t))]) from kO (aJl (bP s (dH u s.now)).1 p t h1 h2 hzX hRX (hzz _ t)) (by rw[hlX,hwX])))) ?_)))))))))
      refine aV aA 7 rfl (cT [3,4,9,10,11,12,13] rfl rfl rfl (hK17 _ (aC (fun K18 hK18=>(aB (aI hf rfl (aK rfl rfl cW rfl (cN)) (aE aA 9 rfl (aX rfl rfl rfl (aI hf rfl (aK rfl rfl aHo rfl (aAh s p q t h1 h2)) (aX rfl rfl rfl (aH rfl (fG rfl rfl (iO (rfl))) (aE aA 12 rfl (aX rfl rfl rfl ?_)))))))))))))
      refine aH rfl (fG rfl rfl (iO (rfl))) (aE aA 2 rfl (aD (hK18 _ (aJ ?_))))
      refine⟨_,rfl,?_⟩
      rfl
    refine aM 1 #[true,true,true,true,true,true,true,true,true,true,true,true,false] ⟨92,[(3,.adr (aT s)),(4,.adr (cL p q t)),(7,.ref 7 0 0 0),(44,.s (.int .i64 (bP s (dH u s.now)).2))],[(7,.box (aT (bP s (dH u s.now)).1))]⟩ ?_ (fun hD1=>?_)
    ·
     refine aG 12 [] (by kernel_rfl) ⟨?_,trivial⟩
     ·
      refine⟨_,rfl,rfl,(ao rfl (aE aA 1 rfl (aF (ag hD0 rfl rfl rfl))))⟩
    refine aM 2 #[true,true,true,true,true,true,true,true,true,true,true,false,false] ⟨92,[(3,.adr (aT s)),(4,.adr (cL p q t)),(7,.ref 7 0 0 0),(43,.agg (aT (bP s (dH u s.now)).1)),(44,.s (.int .i64 (bP s (dH u s.now)).2))],[(7,.box [.s (.int .i64 0),.s (.int .i64 0),.s (.slice none 0 0),.s (.slice none 0 0),.s (.slice none 0 0),.s (.slice none 0 0)])]⟩ ?_ (fun hD2=>?_)
    ·
     refine aG 11 [] (by kernel_rfl) ⟨?_,trivial⟩
     ·
      refine⟨_,rfl,rfl,(ao rfl (bB hf rfl rfl cG rfl rfl (l1 rfl) (l4 rfl) rfl (aF (ag hD1 rfl rfl rfl))))⟩
    refine aM 2 #[true,true,true,true,true,true,true,true,true,false,true,true,false] ⟨92,[(3,.adr (aT s)),(4,.adr (cL p q t)),(7,.ref 7 0 0 0),(35,.tup [.agg (aT (bP s (dH u s.now)).1),.s (.int .i64 (bP s (dH u s.now)).2)])],[(7,.box (aT (bP s (dH u s.now)).1))]⟩ ?_ (fun hD3=>?_)
    ·
     refine aG 9 [] (by kernel_rfl) ⟨?_,trivial⟩
     ·
      refine⟨_,rfl,rfl,(ao rfl (aE aA 1 rfl (aF (ag hD1 rfl rfl rfl))))⟩
    refine aM 3 #[true,true,true,true,true,true,true,true,true,true,false,false,false] ⟨92,[(3,.adr (aT s)),(4,.adr (cL p q t)),(43,.agg (aT (bP s (dH u s.now)).1)),(44,.s (.int .i64 (bP s (dH u s.now)).2))],[]⟩ ?_ (fun hD4=>?_)
    ·
     refine aG 10 [] (by kernel_rfl) ⟨?_,trivial⟩
     ·
      refine⟨_,rfl,rfl,(ao rfl (aW hf rfl rfl rfl bA (aF (ag hD2 rfl rfl rfl))))⟩
    refine aM 3 #[true,true,true,true,true,true,true,true,true,false,true,false,false] ⟨92,[(3,.adr (aT s)),(4,.adr (cL p q t)),(7,.ref 7 0 0 0),(35,.tup [.agg (aT (bP s (dH u s.now)).1),.s (.int .i64 (bP s (dH u s.now)).2)]),(43,.agg (aT (bP s (dH u s.now)).1))],[(7,.box [.s (.int .i64 0),.s (.int .i64 0),.s (.slice none 0 0),.s (.slice none 0 0),.s (.slice none 0 0),.s (.slice none 0 0)])]⟩ ?_ (fun hD5=>?_)
    ·
     refine aG 9 [11] (by kernel_rfl) ⟨?_,?_,trivial⟩
     ·
      refine⟨_,rfl,rfl,(ao rfl (aE aA 1 rfl (aF (ag hD2 rfl rfl rfl))))⟩
     ·
      refine⟨_,rfl,rfl,(ao rfl (bB hf rfl rfl cG rfl rfl (l1 rfl) (l4 rfl) rfl (aF (ag hD3 rfl rfl rfl))))⟩
    refine aM 3 #[true,true,true,true,true,true,true,true,false,true,true,false,false] ⟨92,[(3,.adr (aT s)),(4,.adr (cL p q t)),(7,.ref 7 0 0 0),(35,.tup [.agg (aT (bP s (dH u s.now)).1),.s (.int .i64 (bP s (dH u s.now)).2)]),(44,.s (.int .i64 (bP s (dH u s.now)).2))],[(7,.box [.s (.int .i64 0),.s (.int .i64 0),.s (.slice none 0 0),.s (.slice none 0 0),.s (.slice none 0 0),.s (.slice none 0 0)])]⟩ ?_ (fun hD6=>?_)
    ·
     refine aG 8 [] (by kernel_rfl) ⟨?_,trivial⟩
     ·
      refine⟨_,rfl,rfl,(ao rfl (aE aA 1 rfl (aF (ag hD2 rfl rfl rfl))))⟩
    refine aM 4 #[true,true,true,true,true,true,true,true,true,false,false,false,false] ⟨92,[(3,.adr (aT s)),(4,.adr (cL p q t)),(35,.tup [.agg (aT (bP s (dH u s.now)).1),.s (.int .i64 (bP s (dH u s.now)).2)]),(43,.agg (aT (bP s (dH u s.now)).1))],[]⟩ ?_ (fun hD7=>?_)
    ·
     refine aG 9 [10] (by kernel_rfl) ⟨?_,?_,trivial⟩
     ·
      refine⟨_,rfl,rfl,(ao rfl (aE aA 1 rfl (aF (ag hD4 rfl rfl rfl))))⟩
     ·
      refine⟨_,rfl,rfl,(ao rfl (aW hf rfl rfl rfl bA (aF (ag hD5 rfl rfl rfl))))⟩
    refine aM 4 #[true,true,true,true,true,true,true,true,false,true,false,false,false] ⟨92,[(3,.adr (aT s)),(4,.adr (cL p q t)),(35,.tup [.agg (aT (bP s (dH u s.now)).1),.s (.int .i64 (bP s (dH u s.now)).2)]),(44,.s (.int .i64 (bP s (dH u s.now)).2))],[]⟩ ?_ (fun hD8=>?_)
    ·
     refine aG 8 [10] (by kernel_rfl) ⟨?_,?_,trivial⟩
     ·
      refine⟨_,rfl,rfl,(ao rfl (aE aA 1 rfl (aF (ag hD4 rfl rfl rfl))))⟩
     ·
      refine⟨_,rfl,rfl,(ao rfl (aW hf rfl rfl rfl bA (aF (ag hD6 rfl rfl rfl))))⟩
    refine aM 4 #[true,true,true,true,true,true,true,true,false,false,true,false,false] ⟨92,[(3,.adr (aT s)),(4,.adr (cL p q t)),(7,.ref 7 0 0 0),(35,.tup [.agg (aT (bP s (dH u s.now)).1),.s (.int .i64 (bP s (dH u s.now)).2)])],[(7,.box [.s (.int .i64 0),.s (.int .i64 0),.s (.slice none 0 0),.s (.slice none 0 0),.s (.slice none 0 0),.s (.slice none 0 0)])]⟩ ?_ (fun hD9=>?_)
    ·
     refine aG 8 [9] (by kernel_rfl) ⟨?_,?_,trivial⟩
     ·
      refine⟨_,rfl,rfl,(ao rfl (aE aA 1 rfl (aF (ag hD5 rfl rfl rfl))))⟩
     ·
      refine⟨_,rfl,rfl,(ao rfl (aE aA 1 rfl (aF (ag hD6 rfl rfl rfl))))⟩
    refine aM 5 #[true,true,true,true,true,true,true,true,false,false,false,false,false] ⟨92,[(3,.adr (aT s)),(4,.adr (cL p q t)),(35,.tup [.agg (aT (bP s (dH u s.now)).1),.s (.int .i64 (bP s (dH u s.now)).2)])],[]⟩ ?_ (fun hD10=>?_)
    ·
     refine aG 8 [9,10] (by kernel_rfl) ⟨?_,?_,?_,trivial⟩
     ·
      refine⟨_,rfl,rfl,(ao rfl (aE aA 1 rfl (aF (ag hD7 rfl rfl rfl))))⟩
     ·
      refine⟨_,rfl,rfl,(ao rfl (aE aA 1 rfl (aF (ag hD8 rfl rfl rfl))))⟩
     ·
      refine⟨_,rfl,rfl,(ao rfl (aW hf rfl rfl rfl bA (aF (ag hD9 rfl rfl rfl))))⟩
    refine aM 5 #[true,true,true,true,true,true,true,false,false,false,true,false,false] ⟨92,[(3,.adr (aT s)),(4,.adr (cL p q t)),(7,.ref 7 0 0 0),(42,.tup [.agg (aT (bP s (dH u s.now)).1),.s (.int .i64 (bP s (dH u s.now)).2)])],[(7,.box [.s (.int .i64 0),.s (.int .i64 0),.s (.slice none 0 0),.s (.slice none 0 0),.s (.slice none 0 0),.s (.slice none 0 0)])]⟩ ?_ (fun hD11=>?_)
    ·
     refine aG 7 [] (by kernel_rfl) ⟨?_,trivial⟩
     ·
      refine⟨_,rfl,rfl,(ao rfl (aE aA 1 rfl (aF (ag hD9 rfl rfl rfl))))⟩
    refine aM 6 #[true,true,true,true,true,true,true,false,false,false,false,false,false] ⟨92,[(3,.adr (aT s)),(4,.adr (cL p q t)),(42,.tup [.agg (aT (bP s (dH u s.now)).1),.s (.int .i64 (bP s (dH u s.now)).2)])],[]⟩ ?_ (fun hD12=>?_)
    ·
     refine aG 7 [10] (by kernel_rfl) ⟨?_,?_,trivial⟩
     ·
      refine⟨_,rfl,rfl,(ao rfl (aE aA 1 rfl (aF (ag hD10 rfl rfl rfl))))⟩
     ·
      refine⟨_,rfl,rfl,(ao rfl (aW hf rfl rfl rfl bA (aF (ag hD11 rfl rfl rfl))))⟩
    refine aM 6 #[true,true,true,true,true,true,false,false,false,false,true,false,false] ⟨92,[(3,.adr (aT s)),(4,.adr (cL p q t)),(7,.ref 7 0 0 0),(37,.agg (aT s)),(41,.agg (evC (dH u s.now)))],[(7,.box [.s (.int .i64 0),.s (.int .i64 0),.s (.slice none 0 0),.s (.slice none 0 0),.s (.slice none 0 0),.s (.slice none 0 0)])]⟩ ?_ (fun hD13=>?_)
    ·
     refine aG 6 [] (by kernel_rfl) ⟨?_,trivial⟩
     ·
      refine⟨_,rfl,rfl,(ao rfl (aI hf rfl (aK rfl rfl rV rfl (aLs s (dH u s.now) hzM hR hu0 (by show (0:Nat)≤_; omega))) ?_))⟩
      refine aF (ag hD11 rfl rfl rfl)
    refine aM 7 #[true,true,true,true,true,true,false,false,false,false,false,false,false] ⟨92,[(3,.adr (aT s)),(4,.adr (cL p q t)),(37,.agg (aT s)),(41,.agg (evC (dH u s.now)))],[]⟩ ?_ (fun hD14=>?_)
    ·
     refine aG 6 [10] (by kernel_rfl) ⟨?_,?_,trivial⟩
     ·
      refine⟨_,rfl,rfl,(ao rfl (aI hf rfl (aK rfl rfl rV rfl (aLs s (dH u s.now) hzM hR hu0 (by show (0:Nat)≤_; omega))) ?_))⟩
      refine aF (ag hD12 rfl rfl rfl)
     ·
      refine⟨_,rfl,rfl,(ao rfl (aW hf rfl rfl rfl bA (aF (ag hD13 rfl rfl rfl))))⟩
    refine aM 7 #[true,true,true,true,true,false,false,false,false,false,true,false,false] ⟨92,[(3,.adr (aT s)),(4,.adr (cL p q t)),(7,.ref 7 0 0 0),(37,.agg (aT s)),(39,.s (.int .i64 s.now)),(40,.s (.string u))],[(7,.box [.s (.int .i64 0),.s (.int .i64 0),.s (.slice none 0 0),.s (.slice none 0 0),.s (.slice none 0 0),.s (.slice none 0 0)])]⟩ ?_ (fun hD15=>?_)
    ·
     refine aG 5 [] (by kernel_rfl) ⟨?_,trivial⟩
     ·
      refine⟨_,rfl,rfl,(ao rfl (aH rfl (bR rfl gZ gQ (l3 rfl) rfl) (aF (ag hD13 rfl rfl rfl))))⟩
    refine aM 7 #[true,false,true,true,true,true,false,false,false,false,true,false,false] ⟨92,[(3,.adr (aT s)),(4,.adr (cL p q t)),(7,.ref 7 0 0 0),(36,.agg (aT s)),(41,.agg (evC (dH u s.now)))],[(7,.box [.s (.int .i64 0),.s (.int .i64 0),.s (.slice none 0 0),.s (.slice none 0 0),.s (.slice none 0 0),.s (.slice none 0 0)])]⟩ ?_ (fun hD16=>?_)
    ·
     refine aG 1 [] (by kernel_rfl) ⟨?_,trivial⟩
     ·
      refine⟨_,rfl,rfl,(ao rfl (aI hf rfl (aK rfl rfl cS rfl (nQ s hzM)) (aF (ag hD13 rfl rfl rfl))))⟩
    refine aM 8 #[true,true,true,true,true,false,false,false,false,false,false,false,false] ⟨92,[(3,.adr (aT s)),(4,.adr (cL p q t)),(37,.agg (aT s)),(39,.s (.int .i64 s.now)),(40,.s (.string u))],[]⟩ ?_ (fun hD17=>?_)
    ·
     refine aG 5 [10] (by kernel_rfl) ⟨?_,?_,trivial⟩
     ·
      refine⟨_,rfl,rfl,(ao rfl (aH rfl (bR rfl gZ gQ (l3 rfl) rfl) (aF (ag hD14 rfl rfl rfl))))⟩
     ·
      refine⟨_,rfl,rfl,(ao rfl (aW hf rfl rfl rfl bA (aF (ag hD15 rfl rfl rfl))))⟩
    refine aM 8 #[true,true,true,false,true,false,false,false,false,false,true,false,false] ⟨92,[(3,.adr (aT s)),(4,.adr (cL p q t)),(7,.ref 7 0 0 0),(37,.agg (aT s)),(38,.adr (aT s)),(40,.s (.string u))],[(7,.box [.s (.int .i64 0),.s (.int .i64 0),.s (.slice none 0 0),.s (.slice none 0 0),.s (.slice none 0 0),.s (.slice none 0 0)])]⟩ ?_ (fun hD18=>?_)
    ·
     refine aG 3 [] (by kernel_rfl) ⟨?_,trivial⟩
     ·
      refine⟨_,rfl,rfl,(ao rfl (aE aA 1 rfl (aF (ag hD15 rfl rfl rfl))))⟩
    refine aM 8 #[true,false,true,true,true,true,false,false,false,false,false,false,false] ⟨92,[(3,.adr (aT s)),(4,.adr (cL p q t)),(36,.agg (aT s)),(41,.agg (evC (dH u s.now)))],[]⟩ ?_ (fun hD19=>?_)
    ·
     refine aG 1 [10] (by kernel_rfl) ⟨?_,?_,trivial⟩
     ·
      refine⟨_,rfl,rfl,(ao rfl (aI hf rfl (aK rfl rfl cS rfl (nQ s hzM)) (aF (ag hD14 rfl rfl rfl))))⟩
     ·
      refine⟨_,rfl,rfl,(ao rfl (aW hf rfl rfl rfl bA (aF (ag hD16 rfl rfl rfl))))⟩
    refine aM 8 #[true,false,true,true,true,false,false,false,false,false,true,false,false] ⟨92,[(3,.adr (aT s)),(4,.adr (cL p q t)),(7,.ref 7 0 0 0),(36,.agg (aT s)),(39,.s (.int .i64 s.now)),(40,.s (.string u))],[(7,.box [.s (.int .i64 0),.s (.int .i64 0),.s (.slice none 0 0),.s (.slice none 0 0),.s (.slice none 0 0),.s (.slice none 0 0)])]⟩ ?_ (fun hD20=>?_)
    ·
     refine aG 1 [5] (by kernel_rfl) ⟨?_,?_,trivial⟩
     ·
      refine⟨_,rfl,rfl,(ao rfl (aI hf rfl (aK rfl rfl cS rfl (nQ s hzM)) (aF (ag hD15 rfl rfl rfl))))⟩
     ·
      refine⟨_,rfl,rfl,(ao rfl (aH rfl (bR rfl gZ gQ (l3 rfl) rfl) (aF (ag hD16 rfl rfl rfl))))⟩
    refine aM 8 #[false,false,true,true,true,true,false,false,false,false,true,false,false] ⟨92,[(3,.adr (aT s)),(4,.adr (cL p q t)),(7,.ref 7 0 0 0),(41,.agg (evC (dH u s.now)))],[(7,.box [.s (.int .i64 0),.s (.int .i64 0),.s (.slice none 0 0),.s (.slice none 0 0),.s (.slice none 0 0),.s (.slice none 0 0)])]⟩ ?_ (fun hD21=>?_)
    ·
     refine aG 0 [] (by kernel_rfl) ⟨?_,trivial⟩
     ·
      refine⟨_,rfl,rfl,(ao rfl (aE aA 1 rfl (aF (ag hD16 rfl rfl rfl))))⟩
    refine aM 9 #[true,true,true,false,true,false,false,false,false,false,false,false,false] ⟨92,[(3,.adr (aT s)),(4,.adr (cL p q t)),(37,.agg (aT s)),(38,.adr (aT s)),(40,.s (.string u))],[]⟩ ?_ (fun hD22=>?_)
    ·
     refine aG 3 [10] (by kernel_rfl) ⟨?_,?_,trivial⟩
     ·
      refine⟨_,rfl,rfl,(ao rfl (aE aA 1 rfl (aF (ag hD17 rfl rfl rfl))))⟩
     ·
      refine⟨_,rfl,rfl,(ao rfl (aW hf rfl rfl rfl bA (aF (ag hD18 rfl rfl rfl))))⟩
    refine aM 9 #[true,false,true,true,true,false,false,false,false,false,false,false,false] ⟨92,[(3,.adr (aT s)),(4,.adr (cL p q t)),(36,.agg (aT s)),(39,.s (.int .i64 s.now)),(40,.s (.string u))],[]⟩ ?_ (fun hD23=>?_)
    ·
     refine aG 1 [5,10] (by kernel_rfl) ⟨?_,?_,?_,trivial⟩
     ·
      refine⟨_,rfl,rfl,(ao rfl (aI hf rfl (aK rfl rfl cS rfl (nQ s hzM)) (aF (ag hD17 rfl rfl rfl))))⟩
     ·
      refine⟨_,rfl,rfl,(ao rfl (aH rfl (bR rfl gZ gQ (l3 rfl) rfl) (aF (ag hD19 rfl rfl rfl))))⟩
     ·
      refine⟨_,rfl,rfl,(ao rfl (aW hf rfl rfl rfl bA (aF (ag hD20 rfl rfl rfl))))⟩
    refine aM 9 #[true,false,true,false,true,false,false,false,false,false,true,false,false] ⟨92,[(3,.adr (aT s)),(4,.adr (cL p q t)),(7,.ref 7 0 0 0),(36,.agg (aT s)),(38,.adr (aT s)),(40,.s (.string u))],[(7,.box [.s (.int .i64 0),.s (.int .i64 0),.s (.slice none 0 0),.s (.slice none 0 0),.s (.slice none 0 0),.s (.slice none 0 0)])]⟩ ?_ (fun hD24=>?_)
    ·
     refine aG 1 [3] (by kernel_rfl) ⟨?_,?_,trivial⟩
     ·
      refine⟨_,rfl,rfl,(ao rfl (aI hf rfl (aK rfl rfl cS rfl (nQ s hzM)) (aF (ag hD18 rfl rfl rfl))))⟩
     ·
      refine⟨_,rfl,rfl,(ao rfl (aE aA 1 rfl (aF (ag hD20 rfl rfl rfl))))⟩
    refine aM 9 #[false,false,true,true,true,true,false,false,false,false,false,false,false] ⟨92,[(3,.adr (aT s)),(4,.adr (cL p q t)),(41,.agg (evC (dH u s.now)))],[]⟩ ?_ (fun hD25=>?_)
    ·
     refine aG 0 [10] (by kernel_rfl) ⟨?_,?_,trivial⟩
     ·
      refine⟨_,rfl,rfl,(ao rfl (aE aA 1 rfl (aF (ag hD19 rfl rfl rfl))))⟩
     ·
      refine⟨_,rfl,rfl,(ao rfl (aW hf rfl rfl rfl bA (aF (ag hD21 rfl rfl rfl))))⟩
    refine aM 9 #[false,false,true,true,true,false,false,false,false,false,true,false,false] ⟨92,[(3,.adr (aT s)),(4,.adr (cL p q t)),(7,.ref 7 0 0 0),(39,.s (.int .i64 s.now)),(40,.s (.string u))],[(7,.box [.s (.int .i64 0),.s (.int .i64 0),.s (.slice none 0 0),.s (.slice none 0 0),.s (.slice none 0 0),.s (.slice none 0 0)])]⟩ ?_ (fun hD26=>?_)
    ·
     refine aG 0 [5] (by kernel_rfl) ⟨?_,?_,trivial⟩
     ·
      refine⟨_,rfl,rfl,(ao rfl (aE aA 1 rfl (aF (ag hD20 rfl rfl rfl))))⟩
     ·
      refine⟨_,rfl,rfl,(ao rfl (aH rfl (bR rfl gZ gQ (l3 rfl) rfl) (aF (ag hD21 rfl rfl rfl))))⟩
    refine aM 10 #[true,false,true,false,true,false,false,false,false,false,false,false,false] ⟨92,[(3,.adr (aT s)),(4,.adr (cL p q t)),(36,.agg (aT s)),(38,.adr (aT s)),(40,.s (.string u))],[]⟩ ?_ (fun hD27=>?_)
    ·
     refine aG 1 [3,10] (by kernel_rfl) ⟨?_,?_,?_,trivial⟩
     ·
      refine⟨_,rfl,rfl,(ao rfl (aI hf rfl (aK rfl rfl cS rfl (nQ s hzM)) (aF (ag hD22 rfl rfl rfl))))⟩
     ·
      refine⟨_,rfl,rfl,(ao rfl (aE aA 1 rfl (aF (ag hD23 rfl rfl rfl))))⟩
     ·
      refine⟨_,rfl,rfl,(ao rfl (aW hf rfl rfl rfl bA (aF (ag hD24 rfl rfl rfl))))⟩
    refine aM 10 #[false,false,true,true,true,false,false,false,false,false,false,false,false] ⟨92,[(3,.adr (aT s)),(4,.adr (cL p q t)),(39,.s (.int .i64 s.now)),(40,.s (.string u))],[]⟩ ?_ (fun hD28=>?_)
    ·
     refine aG 0 [5,10] (by kernel_rfl) ⟨?_,?_,?_,trivial⟩
     ·
      refine⟨_,rfl,rfl,(ao rfl (aE aA 1 rfl (aF (ag hD23 rfl rfl rfl))))⟩
     ·
      refine⟨_,rfl,rfl,(ao rfl (aH rfl (bR rfl gZ gQ (l3 rfl) rfl) (aF (ag hD25 rfl rfl rfl))))⟩
     ·
      refine⟨_,rfl,rfl,(ao rfl (aW hf rfl rfl rfl bA (aF (ag hD26 rfl rfl rfl))))⟩
    refine aM 10 #[false,false,true,false,true,false,false,false,false,false,true,false,false] ⟨92,[(3,.adr (aT s)),(4,.adr (cL p q t)),(7,.ref 7 0 0 0),(38,.adr (aT s)),(40,.s (.string u))],[(7,.box [.s (.int .i64 0),.s (.int .i64 0),.s (.slice none 0 0),.s (.slice none 0 0),.s (.slice none 0 0),.s (.slice none 0 0)])]⟩ ?_ (fun hD29=>?_)
    ·
     refine aG 0 [3] (by kernel_rfl) ⟨?_,?_,trivial⟩
     ·
      refine⟨_,rfl,rfl,(ao rfl (aE aA 1 rfl (aF (ag hD24 rfl rfl rfl))))⟩
     ·
      refine⟨_,rfl,rfl,(ao rfl (aE aA 1 rfl (aF (ag hD26 rfl rfl rfl))))⟩
    refine kQ (sX (sl':=[(3,.adr (aT s)),(4,.adr (cL p q t)),(38,.adr (aT s)),(40,.s (.string u))]) (m':=[]) rfl rfl rfl) (aG 0 [3,10] (by kernel_rfl) ⟨?_,?_,?_,trivial⟩)
    ·
     refine⟨_,rfl,rfl,(ao rfl (aE aA 1 rfl (aF (ag hD27 rfl rfl rfl))))⟩
    ·
     refine⟨_,rfl,rfl,(ao rfl (aE aA 1 rfl (aF (ag hD28 rfl rfl rfl))))⟩
    ·
     refine⟨_,rfl,rfl,(ao rfl (aW hf rfl rfl rfl bA (aF (ag hD29 rfl rfl rfl))))⟩
  ·
   simp only[bs] at hg2
   refine aE aA 4 rfl (dI rfl rfl rfl ?_)
   refine dI rfl rfl rfl ?_
   refine dI rfl rfl rfl ?_
   refine dI rfl rfl rfl ?_
   refine aE aA 2 rfl (aD (hK3 _ (bN rfl (aC (fun K19 hK19=>(aB (aI hf rfl (aK rfl rfl cW rfl (cN)) (aE aA 1 rfl (aD (hK19 _ (aJ ?_)))))))))))
   refine⟨_,rfl,?_⟩
   rfl
 ·
  simp only[bs] at hg1
  refine aE aA 9 rfl (dI rfl rfl rfl ?_)
  refine dI rfl rfl rfl ?_
  refine dI rfl rfl rfl ?_
  refine dI rfl rfl rfl ?_
  refine aE aA 2 rfl (aD (hK3 _ (bN rfl (aC (fun K20 hK20=>(aB (aI hf rfl (aK rfl rfl cW rfl (cN)) (aE aA 1 rfl (aD (hK20 _ (aJ ?_)))))))))))
  refine⟨_,rfl,?_⟩
  rfl
end Go.Proofs.YtpkanhklapfajaaGreat
set_option linter.unusedVariables false
set_option linter.unusedSimpArgs false
namespace Go.Proofs.YtpkanhklapfajaaGreat
open Go Go.Abs
end Go.Proofs.YtpkanhklapfajaaGreat
set_option linter.unusedVariables false
set_option linter.unusedSimpArgs false
namespace Go.Proofs.YtpkanhklapfajaaGreat
open Go Go.Abs
end Go.Proofs.YtpkanhklapfajaaGreat
set_option linter.unusedVariables false
set_option linter.unusedSimpArgs false
namespace Go.Proofs.YtpkanhklapfajaaGreat
open Go Go.Abs
end Go.Proofs.YtpkanhklapfajaaGreat
set_option linter.unusedVariables false
set_option linter.unusedSimpArgs false
namespace Go.Proofs.YtpkanhklapfajaaGreat
open Go Go.Abs
end Go.Proofs.YtpkanhklapfajaaGreat
namespace Go.Proofs.YtpkanhklapfajaaGreat
open Go.ChangeShapes Go.WideShapes Go.ChangeAt Go.RowKit Go.Abs
set_option linter.unusedVariables false
theorem own:ownKnob Tryz.prog.godebug=none:=by kernel_rfl
theorem laid:laidOutB Tryz.prog=true:=by kernel_rfl
theorem td9:tdOf? Tryz.prog 16 9=some (.str):=by kernel_rfl
theorem aKf:tdOf? Tryz.prog 16 27=some (.agg [.int .i64,.int .i64,.sl 40 (.agg [.int .i64,.str,.int .i64,.int .i64]),.sl 40 (.agg [.str,.sl 32 (.agg [.int .i64,.int .i64,.int .i64,.int .i64])]),.sl 48 (.agg [.str,.str,.int .i64,.int .i64]),.sl 24 (.agg [.str,.int .i64])]):=by kernel_rfl
theorem aKe:tdOf? Tryz.prog 16 29=some (.agg [.str,.str,.int .i64,.int .i64,.int .i64]):=by kernel_rfl
set_option maxRecDepth 100000 in
theorem yJ (H:Type) (enc:TypeId×Value→H) (W:World) (base:Nat) (args:Array Value) (ds gs:List (DataW H)) (before:List MemPlace)
    (hval:∀ (j:Nat) t v,Tryz.f6.params[j]?=some t→args[j]?=some v→Value.okWide Tryz.prog W .any base t v)
    (hW:DataW.Whole enc Tryz.prog Tryz.f6.params.toList Rows.gateErasedSpec.vars false W args.toList ds gs before)
    (hsz:(DataW.weightsEach Tryz.prog (Tryz.f6.params.toList++Rows.gateErasedSpec.plain.varTypes Tryz.prog) (ds++gs)).all (·≤reachBytes)=true) :
    Calls Tryz.prog 6 args W fun e W'=>∃ v,e=.returned v∧Rows.gateErasedSpec.post enc Tryz.prog Tryz.f6 false true false false W args v W':=by
  have hW':=hW
  obtain ⟨p,q,hA0,hV,rfl,hfz,hnd⟩:=hW
  have hA:DataW.TrodAll enc Tryz.prog W 0 (fun _=>true) true Tryz.f6.params.toList args.toList ds p:=hA0
  rw[Tryz.params6] at hA hval
  obtain ⟨v0,vs0,d0,ds0,p0,q0,hargs,rfl,rfl,h0,r0⟩:=trodAll_cons hA
  obtain ⟨v1,vs1,d1,ds1,p1,q1,rfl,rfl,rfl,h1,r1⟩:=trodAll_cons r0
  obtain ⟨v2,vs2,d2,ds2,p2,q2,rfl,rfl,rfl,h2,r2⟩:=trodAll_cons r1
  obtain ⟨rfl,rfl,rfl⟩:=trodAll_nil r2
  obtain rfl:args=#[v0,v1,v2]:=by cases args; simp_all
  obtain ⟨c0,y0,a0⟩:=sF aKf mO (hval 0 27 v0 rfl rfl) h0 (iE (i:=0) hsz (by rw[Tryz.params6]; rfl) rfl)
  obtain ⟨s,rfl,hz,ts⟩:=aE2 (by simpa only[Ty] using y0)
  obtain ⟨c1,y1,a1⟩:=sF aKe wZ (hval 1 29 v1 rfl rfl) h1 (iE (i:=1) hsz (by rw[Tryz.params6]; rfl) rfl)
  obtain ⟨p,q,t,rfl,hp1,hp2,ht0,ht1⟩:=aE4 (by simpa only[Ty] using y1)
  obtain ⟨c2,y2,a2⟩:=aTq td9 aUd (hval 2 9 v2 rfl rfl) h2 (iE (i:=2) hsz (by rw[Tryz.params6]; rfl) rfl)
  obtain ⟨u,rfl,hu⟩:=aWk y2
  have huT:TS u:=Nat.le_trans hu (by decide)
  refine(aEh s hz ts p q t hp1 hp2 u huT (fun _=>False) W [v0,v1,v2] (fun _ h=>h.elim) ⟨rfl,fun i c v hc hv=>?_⟩).mono fun e W' ⟨v,r,he,hr,hE,hv⟩=>?_
  · match i,hc,hv with
    | 0,hc,hv=>cases hc; cases hv; exact a0
    | 1,hc,hv=>cases hc; cases hv; exact a1
    | 2,hc,hv=>cases hc; cases hv; exact a2
  · subst hr
    cases hv
    exact⟨_,he,tE (t:=4) hW' (oE hE) laid (by rw[Tryz.params6]; decide +kernel) rfl (fun _=>rfl) (by kernel_rfl) (by kernel_rfl) Tryz.underlying4⟩
set_option maxRecDepth 100000 in
theorem aA4 (os:Os) (started:os.Started) (H:Type) (enc:TypeId×Value→H) (F:Stop.Interp) :
    ReturnsInHanded {} Tryz.checked os 6 .any (Rows.gateErasedSpec.pre6 enc Tryz.prog Tryz.f6 Rows.gateErasedRow.domain false) (Rows.gateErasedSpec.post enc Tryz.prog Tryz.f6 false true false false):=by
  refine returnsInHanded_of_change_sized (C:=Tryz.checked) (s:=Rows.gateErasedSpec) own started (by kernel_rfl) Tryz.func6
    (ChangeSpec.witness6 (enc:=enc) (C:=Tryz.checked) (s:=Rows.gateErasedSpec) false ⟨#[],#[.agg #[.int .i64 0,.int .i64 0,.slice none 0 0,.slice none 0 0,.slice none 0 0,.slice none 0 0],.agg #[.string ⟨#[]⟩,.string ⟨#[]⟩,.int .i64 0,.int .i64 0,.int .i64 0],.string ⟨#[]⟩],[]⟩ 8 (by kernel_rfl) (by kernel_rfl) (by kernel_rfl) (by kernel_rfl)) ?_
  intro W base args ds gs before hval hW _ hsz _
  exact yJ H enc W base args ds gs before hval hW hsz
theorem aIm:(Rows.gateErasedRow.wf (OpenSpec.ofChange Rows.gateErasedSpec)&&laidOutB Tryz.prog&&mapsRowed Tryz.prog)=true:=by kernel_rfl
theorem aIl:(Rows.gateErasedRow.inPlace == Tryz.prog.inPlace 6)=true:=by kernel_rfl
theorem aIk:(Rows.gateErasedRow.unfollowed == Tryz.prog.unfollowed 6)=true:=by kernel_rfl
theorem aIj:(Rows.gateErasedRow.recurses == Tryz.prog.recurses 6)=true:=by kernel_rfl
theorem aIi:(Rows.gateErasedRow.named == Tryz.prog.varsNamed 6)=true:=by kernel_rfl
theorem aA5:joinedFacts Tryz.prog 6 Tryz.f6 Rows.gateErasedSpec Rows.gateErasedRow=true:=by
  have h0:=aIm
  simp only[Bool.and_eq_true] at h0
  obtain ⟨⟨h5,h6⟩,h7⟩:=h0
  unfold joinedFacts
  repeat (rw[Bool.and_eq_true]; refine And.intro ?_ ?_)
  all_goals with_reducible first | exact aIl | exact aIk | exact aIj | exact aIi | exact h5 | exact h6 | exact h7 | kernel_rfl
theorem gateErased_proved:Rows.GateErasedSaid :=
  OpenClaim.holds_of_wide 6 Tryz.f6 rfl rfl rfl rfl rfl rfl rfl ⟨rfl,rfl,rfl,rfl,rfl⟩ rfl rfl rfl rfl rfl (by kernel_rfl) Tryz.func6 aA5
    (of_decide_eq_true (by kernel_rfl)) (by unfold Func.isWrapper; first | (rw[if_pos (by decide +kernel)]; kernel_rfl) | (rw[if_neg (by decide +kernel)]; exact⟨rfl,rfl⟩))
    (fun os started H enc _=>aA4 os started H enc default)
end Go.Proofs.YtpkanhklapfajaaGreat
