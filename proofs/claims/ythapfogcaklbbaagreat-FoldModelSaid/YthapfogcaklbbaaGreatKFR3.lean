/-
  The law FoldModel: whatever the events, the user and the time, the call returns true, and all read behind it as they read before. No condition beyond the row's own.
-/
import Derived.Test.YthapfogcaklbbaaGreatRows
import Derived.WalkKit
import Derived.ProofKit
import Derived.OpenShut
import Derived.JoinedCond
import Derived.SizedLaws
import Derived.Test.YthapfogcaklbbaaGreatK1
import Derived.Test.YthapfogcaklbbaaGreatK2
import Derived.Test.YthapfogcaklbbaaGreatK3
import Derived.Test.YthapfogcaklbbaaGreatK4
import Derived.Test.YthapfogcaklbbaaGreatK5
import Derived.Test.YthapfogcaklbbaaGreatK6
set_option maxRecDepth 20000
set_option maxHeartbeats 16000000
set_option linter.unusedVariables false
set_option linter.unusedSimpArgs false
namespace Go.Proofs.YthapfogcaklbbaaGreat
open Go Go.Abs
end Go.Proofs.YthapfogcaklbbaaGreat
set_option linter.unusedVariables false
set_option linter.unusedSimpArgs false
namespace Go.Proofs.YthapfogcaklbbaaGreat
open Go Go.Abs
theorem aRg (l:List Ev) (ht:∀ e∈l,TS e.user∧TS e.other) (u:ByteArray) (d:Int) :Den Tryz.prog 4 [.sl 6 (l.map evC),.s (.string u),.s (.int .i64 d)]  (·=.s (.bool true)):=by
 refine aU Tryz.func4 rfl (Nat.le_of_ble_eq_true rfl) (fun w0 A hf=>(aC (fun K1 hK1=>(aB (aE aA 1 rfl (aD (hK1 _ (aC (fun K2 hK2=>(aC (fun K3 hK3=>(aB (aE aA 4 rfl (aV rfl rfl rfl (fun hg1=>?_) (fun hg1=>?_)))))))))))))))
 ·
  simp only[bs] at hg1
  refine aG rfl (gD rfl) (aE aA 3 rfl (aV rfl rfl rfl (fun hg2=>?_) (fun hg2=>?_)))
  ·
   simp only[bs] at hg2
   refine aG rfl (gD rfl) (aE aA 2 rfl (aD (hK3 _ (aK rfl (fun hc3=>?_) (fun hc3=>?_)))))
   ·
    simp only[bs] at hc3
    refine aC (fun K4 hK4=>(aB (aM hf rfl (aQ rfl rfl nJ rfl (lJ)) (aE aA 1 rfl (aD (hK4 _ (aJ ?_)))))))
    refine⟨_,rfl,?_⟩
    rfl
   ·
    simp only[bs] at hc3
    have hz0:SzS 140737488351232 oE:=yB _
    have hl40:l.length≤40:=by omega
    have hl60:l.length≤60:=by omega
    have hF0:fH oE (dB oE l)=(fH oE l):=(aP6 l oE).1
    have hT0:∀ x∈fX oE (dB oE l),x=0:=(aP6 l oE).2.1
    have hzF:SzS 140737488353280 (fH oE l):=(aMq l hz0 sH).mono (by omega)
    have hRF:RightP (fH oE l):=zQ l sH
    have hlT:=uQ l oE
    have hn0:=hRF.n0
    have hn1:=hRF.n1
    have hzb:=hzF.b
    have hst:=aSe (k:=(dB oE l)) (u:=u) (t:=((fH oE l).now+d)) hT0
    rw[hF0] at hst
    refine aN (hK2 _ (aC (fun K5 hK5=>(aB (bJ hf rfl rfl rfl bC (aD (hK5 _ (aC (fun K6 hK6=>(aM3 (aSw 7 (aY oE) rfl oI) (eS bI ?_)))))))))))
    refine bK (listed':=#[false,true,false,false,false,false,false,false,false,false]) 1 rfl (by kernel_rfl) (by kernel_rfl) (by kernel_rfl) rfl (fun _ _ h=>h) (dJ rfl) ?_
    refine aR 0 #[true,true,true,true,true,true,true,true,true,true] ⟨52,[(0,.sl 6 (l.map evC)),(1,.s (.string u)),(2,.s (.int .i64 d)),(8,.ref 8 0 0 0)],[(8,.box (aY (fH oE l))),(7,.box (aY oE))]⟩ ?_ (fun hD0=>?_)
    ·
     refine dC (by kernel_rfl) ?_
     refine hK6 _ (aC (fun K7 hK7=>(aB (aG rfl (cS rfl aO7 aPh (l3 rfl) rfl) (cD (rN oI) (aE aA 1 rfl (aM hf rfl (aQ rfl rfl aSl rfl (aRo oE l hz0 sH hl60 ht)) (aE aA 1 rfl (aD (hK7 _ (aC (fun K8 hK8=>(eB hf bI (by kernel_rfl) rfl (bT [] rfl rfl trivial rfl (aQ rfl rfl nJ rfl (lJ)) ?_))))))))))))))
     refine aX aA 6 rfl (bL [(38,_),(39,_)] rfl rfl ⟨⟨rfl,rfl⟩,⟨rfl,rfl⟩,trivial⟩ rfl (bO rfl rfl (by omega) (by omega)) (bT [(35,_),(36,_),(40,_)] rfl rfl ⟨⟨rfl,rfl⟩,⟨rfl,rfl⟩,⟨rfl,rfl⟩,trivial⟩ rfl (aQ rfl rfl aJc rfl (aYu (fH oE l) u ((fH oE l).now+d) hzF hRF)) (bT [(41,_)] rfl rfl ⟨⟨rfl,rfl⟩,trivial⟩ rfl (aQ rfl rfl aOn rfl (aOg (fH oE l) u ((fH oE l).now+d) hzF hRF)) (aX aA 5 rfl (bL [(46,_),(47,_)] rfl rfl ⟨⟨rfl,rfl⟩,⟨rfl,rfl⟩,trivial⟩ rfl (bO rfl rfl (by omega) (by omega)) ?_)))))
     refine bT [(43,_),(44,_),(48,_)] rfl rfl ⟨⟨rfl,rfl⟩,⟨rfl,rfl⟩,⟨rfl,rfl⟩,trivial⟩ rfl (aQ rfl rfl aSk rfl ((show Den Tryz.prog _ _ (·=.sl 4 ((aDz (fH oE l) u ((fH oE l).now+d)).map stC)) from aC3 (aQw (dB oE l) u ((fH oE l).now+d) (by omega)) (by rw[hst])))) ?_
     refine bT [(42,_),(49,_)] rfl rfl ⟨⟨rfl,rfl⟩,⟨rfl,rfl⟩,trivial⟩ rfl (aQ rfl rfl aOo rfl (aOf (fH oE l) u ((fH oE l).now+d) hzF hRF)) (aX aA 2 rfl (eE [6] rfl rfl rfl (hK8 _ (aJ ?_))))
     refine⟨_,rfl,?_⟩
     rfl
    refine aR 1 #[true,true,true,true,true,true,true,true,true,false] ⟨52,[(0,.sl 6 (l.map evC)),(1,.s (.string u)),(2,.s (.int .i64 d)),(8,.ref 8 0 0 0),(29,.sl 1 (oY (fX oE l)))],[(8,.box (aY (fH oE l))),(7,.box (aY oE))]⟩ ?_ (fun hD1=>?_)
    ·
     refine aI 9 [] (by kernel_rfl) ⟨?_,trivial⟩
     ·
      refine⟨_,rfl,rfl,(ao rfl (aE aA 1 rfl (aF (ag hD0 rfl rfl rfl))))⟩
    refine aR 2 #[true,true,true,true,true,true,true,true,false,false] ⟨52,[(0,.sl 6 (l.map evC)),(1,.s (.string u)),(2,.s (.int .i64 d)),(8,.ref 8 0 0 0),(28,.agg (aY (fH oE l))),(29,.sl 1 (oY (fX oE l)))],[(8,.box [.s (.int .i64 0),.s (.int .i64 0),.s (.slice none 0 0),.s (.slice none 0 0),.s (.slice none 0 0),.s (.slice none 0 0)]),(7,.box (aY oE))]⟩ ?_ (fun hD2=>?_)
    ·
     refine aI 8 [] (by kernel_rfl) ⟨?_,trivial⟩
     ·
      refine⟨_,rfl,rfl,(ao rfl (aT hf rfl rfl cF rfl rfl (l1 rfl) (l4 rfl) rfl (aF (ag hD1 rfl rfl rfl))))⟩
    refine aR 2 #[true,true,true,true,true,true,false,true,true,false] ⟨52,[(0,.sl 6 (l.map evC)),(1,.s (.string u)),(2,.s (.int .i64 d)),(8,.ref 8 0 0 0),(23,.tup [.agg (aY (fH oE l)),.sl 1 (oY (fX oE l))])],[(8,.box (aY (fH oE l))),(7,.box (aY oE))]⟩ ?_ (fun hD3=>?_)
    ·
     refine aI 6 [] (by kernel_rfl) ⟨?_,trivial⟩
     ·
      refine⟨_,rfl,rfl,(ao rfl (aE aA 1 rfl (aF (ag hD1 rfl rfl rfl))))⟩
    refine aR 3 #[true,true,true,true,true,true,true,false,false,false] ⟨52,[(0,.sl 6 (l.map evC)),(1,.s (.string u)),(2,.s (.int .i64 d)),(28,.agg (aY (fH oE l))),(29,.sl 1 (oY (fX oE l)))],[(7,.box (aY oE))]⟩ ?_ (fun hD4=>?_)
    ·
     refine aI 7 [] (by kernel_rfl) ⟨?_,trivial⟩
     ·
      refine⟨_,rfl,rfl,(ao rfl (bJ hf rfl rfl rfl bC (aF (ag hD2 rfl rfl rfl))))⟩
    refine aR 3 #[true,true,true,true,true,true,false,true,false,false] ⟨52,[(0,.sl 6 (l.map evC)),(1,.s (.string u)),(2,.s (.int .i64 d)),(8,.ref 8 0 0 0),(23,.tup [.agg (aY (fH oE l)),.sl 1 (oY (fX oE l))]),(28,.agg (aY (fH oE l)))],[(8,.box [.s (.int .i64 0),.s (.int .i64 0),.s (.slice none 0 0),.s (.slice none 0 0),.s (.slice none 0 0),.s (.slice none 0 0)]),(7,.box (aY oE))]⟩ ?_ (fun hD5=>?_)
    ·
     refine aI 6 [8] (by kernel_rfl) ⟨?_,?_,trivial⟩
     ·
      refine⟨_,rfl,rfl,(ao rfl (aE aA 1 rfl (aF (ag hD2 rfl rfl rfl))))⟩
     ·
      refine⟨_,rfl,rfl,(ao rfl (aT hf rfl rfl cF rfl rfl (l1 rfl) (l4 rfl) rfl (aF (ag hD3 rfl rfl rfl))))⟩
    refine aR 3 #[true,true,true,true,true,false,true,true,false,false] ⟨52,[(0,.sl 6 (l.map evC)),(1,.s (.string u)),(2,.s (.int .i64 d)),(8,.ref 8 0 0 0),(23,.tup [.agg (aY (fH oE l)),.sl 1 (oY (fX oE l))]),(29,.sl 1 (oY (fX oE l)))],[(8,.box [.s (.int .i64 0),.s (.int .i64 0),.s (.slice none 0 0),.s (.slice none 0 0),.s (.slice none 0 0),.s (.slice none 0 0)]),(7,.box (aY oE))]⟩ ?_ (fun hD6=>?_)
    ·
     refine aI 5 [] (by kernel_rfl) ⟨?_,trivial⟩
     ·
      refine⟨_,rfl,rfl,(ao rfl (aE aA 1 rfl (aF (ag hD2 rfl rfl rfl))))⟩
    refine aR 4 #[true,true,true,true,true,true,false,false,false,false] ⟨52,[(0,.sl 6 (l.map evC)),(1,.s (.string u)),(2,.s (.int .i64 d)),(23,.tup [.agg (aY (fH oE l)),.sl 1 (oY (fX oE l))]),(28,.agg (aY (fH oE l)))],[(7,.box (aY oE))]⟩ ?_ (fun hD7=>?_)
    ·
     refine aI 6 [7] (by kernel_rfl) ⟨?_,?_,trivial⟩
     ·
      refine⟨_,rfl,rfl,(ao rfl (aE aA 1 rfl (aF (ag hD4 rfl rfl rfl))))⟩
     ·
      refine⟨_,rfl,rfl,(ao rfl (bJ hf rfl rfl rfl bC (aF (ag hD5 rfl rfl rfl))))⟩
    refine aR 4 #[true,true,true,true,true,false,true,false,false,false] ⟨52,[(0,.sl 6 (l.map evC)),(1,.s (.string u)),(2,.s (.int .i64 d)),(23,.tup [.agg (aY (fH oE l)),.sl 1 (oY (fX oE l))]),(29,.sl 1 (oY (fX oE l)))],[(7,.box (aY oE))]⟩ ?_ (fun hD8=>?_)
    ·
     refine aI 5 [7] (by kernel_rfl) ⟨?_,?_,trivial⟩
     ·
      refine⟨_,rfl,rfl,(ao rfl (aE aA 1 rfl (aF (ag hD4 rfl rfl rfl))))⟩
     ·
      refine⟨_,rfl,rfl,(ao rfl (bJ hf rfl rfl rfl bC (aF (ag hD6 rfl rfl rfl))))⟩
    refine aR 4 #[true,true,true,true,true,false,false,true,false,false] ⟨52,[(0,.sl 6 (l.map evC)),(1,.s (.string u)),(2,.s (.int .i64 d)),(8,.ref 8 0 0 0),(23,.tup [.agg (aY (fH oE l)),.sl 1 (oY (fX oE l))])],[(8,.box [.s (.int .i64 0),.s (.int .i64 0),.s (.slice none 0 0),.s (.slice none 0 0),.s (.slice none 0 0),.s (.slice none 0 0)]),(7,.box (aY oE))]⟩ ?_ (fun hD9=>?_)
    ·
     refine aI 5 [6] (by kernel_rfl) ⟨?_,?_,trivial⟩
     ·
      refine⟨_,rfl,rfl,(ao rfl (aE aA 1 rfl (aF (ag hD5 rfl rfl rfl))))⟩
     ·
      refine⟨_,rfl,rfl,(ao rfl (aE aA 1 rfl (aF (ag hD6 rfl rfl rfl))))⟩
    refine aR 5 #[true,true,true,true,true,false,false,false,false,false] ⟨52,[(0,.sl 6 (l.map evC)),(1,.s (.string u)),(2,.s (.int .i64 d)),(23,.tup [.agg (aY (fH oE l)),.sl 1 (oY (fX oE l))])],[(7,.box (aY oE))]⟩ ?_ (fun hD10=>?_)
    ·
     refine aI 5 [6,7] (by kernel_rfl) ⟨?_,?_,?_,trivial⟩
     ·
      refine⟨_,rfl,rfl,(ao rfl (aE aA 1 rfl (aF (ag hD7 rfl rfl rfl))))⟩
     ·
      refine⟨_,rfl,rfl,(ao rfl (aE aA 1 rfl (aF (ag hD8 rfl rfl rfl))))⟩
     ·
      refine⟨_,rfl,rfl,(ao rfl (bJ hf rfl rfl rfl bC (aF (ag hD9 rfl rfl rfl))))⟩
    refine aR 5 #[true,true,true,true,false,false,false,true,false,false] ⟨52,[(0,.sl 6 (l.map evC)),(1,.s (.string u)),(2,.s (.int .i64 d)),(8,.ref 8 0 0 0),(27,.tup [.agg (aY (fH oE l)),.sl 1 (oY (fX oE l))])],[(8,.box [.s (.int .i64 0),.s (.int .i64 0),.s (.slice none 0 0),.s (.slice none 0 0),.s (.slice none 0 0),.s (.slice none 0 0)]),(7,.box (aY oE))]⟩ ?_ (fun hD11=>?_)
    ·
     refine aI 4 [] (by kernel_rfl) ⟨?_,trivial⟩
     ·
      refine⟨_,rfl,rfl,(ao rfl (aE aA 1 rfl (aF (ag hD9 rfl rfl rfl))))⟩
    refine aR 6 #[true,true,true,true,false,false,false,false,false,false] ⟨52,[(0,.sl 6 (l.map evC)),(1,.s (.string u)),(2,.s (.int .i64 d)),(27,.tup [.agg (aY (fH oE l)),.sl 1 (oY (fX oE l))])],[(7,.box (aY oE))]⟩ ?_ (fun hD12=>?_)
    ·
     refine aI 4 [7] (by kernel_rfl) ⟨?_,?_,trivial⟩
     ·
      refine⟨_,rfl,rfl,(ao rfl (aE aA 1 rfl (aF (ag hD10 rfl rfl rfl))))⟩
     ·
      refine⟨_,rfl,rfl,(ao rfl (bJ hf rfl rfl rfl bC (aF (ag hD11 rfl rfl rfl))))⟩
    refine aR 6 #[true,true,true,false,false,false,false,true,false,false] ⟨52,[(0,.sl 6 (l.map evC)),(1,.s (.string u)),(2,.s (.int .i64 d)),(8,.ref 8 0 0 0),(24,.agg (aY oE)),(26,.sl 6 (l.map evC))],[(8,.box [.s (.int .i64 0),.s (.int .i64 0),.s (.slice none 0 0),.s (.slice none 0 0),.s (.slice none 0 0),.s (.slice none 0 0)]),(7,.box (aY oE))]⟩ ?_ (fun hD13=>?_)
    ·
     refine aI 3 [] (by kernel_rfl) ⟨?_,trivial⟩
     ·
      refine⟨_,rfl,rfl,(ao rfl (aM hf rfl (aQ rfl rfl tA rfl (zR oE l hz0 sH hl60 ht)) (aF (ag hD11 rfl rfl rfl))))⟩
    refine aR 7 #[true,true,true,false,false,false,false,false,false,false] ⟨52,[(0,.sl 6 (l.map evC)),(1,.s (.string u)),(2,.s (.int .i64 d)),(24,.agg (aY oE)),(26,.sl 6 (l.map evC))],[(7,.box (aY oE))]⟩ ?_ (fun hD14=>?_)
    ·
     refine aI 3 [7] (by kernel_rfl) ⟨?_,?_,trivial⟩
     ·
      refine⟨_,rfl,rfl,(ao rfl (aM hf rfl (aQ rfl rfl tA rfl (zR oE l hz0 sH hl60 ht)) (aF (ag hD12 rfl rfl rfl))))⟩
     ·
      refine⟨_,rfl,rfl,(ao rfl (bJ hf rfl rfl rfl bC (aF (ag hD13 rfl rfl rfl))))⟩
    refine aR 7 #[true,true,false,false,false,false,false,true,false,false] ⟨52,[(0,.sl 6 (l.map evC)),(1,.s (.string u)),(2,.s (.int .i64 d)),(8,.ref 8 0 0 0),(24,.agg (aY oE)),(25,.sl 6 (l.map evC))],[(8,.box [.s (.int .i64 0),.s (.int .i64 0),.s (.slice none 0 0),.s (.slice none 0 0),.s (.slice none 0 0),.s (.slice none 0 0)]),(7,.box (aY oE))]⟩ ?_ (fun hD15=>?_)
    ·
     refine aI 2 [] (by kernel_rfl) ⟨?_,trivial⟩
     ·
      refine⟨_,rfl,rfl,(ao rfl (aM hf rfl (aQ rfl rfl aAq rfl (aBp _ (by omega))) (aF (ag hD13 rfl rfl rfl))))⟩
    refine aR 7 #[false,true,true,false,false,false,false,true,false,false] ⟨52,[(0,.sl 6 (l.map evC)),(1,.s (.string u)),(2,.s (.int .i64 d)),(7,.ref 7 0 0 0),(8,.ref 8 0 0 0),(26,.sl 6 (l.map evC))],[(8,.box [.s (.int .i64 0),.s (.int .i64 0),.s (.slice none 0 0),.s (.slice none 0 0),.s (.slice none 0 0),.s (.slice none 0 0)]),(7,.box (aY oE))]⟩ ?_ (fun hD16=>?_)
    ·
     refine aI 0 [] (by kernel_rfl) ⟨?_,trivial⟩
     ·
      refine⟨_,rfl,rfl,(ao rfl (aE aA 1 rfl (aF (ag hD13 rfl rfl rfl))))⟩
    refine aR 8 #[true,true,false,false,false,false,false,false,false,false] ⟨52,[(0,.sl 6 (l.map evC)),(1,.s (.string u)),(2,.s (.int .i64 d)),(24,.agg (aY oE)),(25,.sl 6 (l.map evC))],[(7,.box (aY oE))]⟩ ?_ (fun hD17=>?_)
    ·
     refine aI 2 [7] (by kernel_rfl) ⟨?_,?_,trivial⟩
     ·
      refine⟨_,rfl,rfl,(ao rfl (aM hf rfl (aQ rfl rfl aAq rfl (aBp _ (by omega))) (aF (ag hD14 rfl rfl rfl))))⟩
     ·
      refine⟨_,rfl,rfl,(ao rfl (bJ hf rfl rfl rfl bC (aF (ag hD15 rfl rfl rfl))))⟩
    refine aR 8 #[false,true,true,false,false,false,false,false,false,false] ⟨52,[(0,.sl 6 (l.map evC)),(1,.s (.string u)),(2,.s (.int .i64 d)),(7,.ref 7 0 0 0),(26,.sl 6 (l.map evC))],[(7,.box (aY oE))]⟩ ?_ (fun hD18=>?_)
    ·
     refine aI 0 [7] (by kernel_rfl) ⟨?_,?_,trivial⟩
     ·
      refine⟨_,rfl,rfl,(ao rfl (aE aA 1 rfl (aF (ag hD14 rfl rfl rfl))))⟩
     ·
      refine⟨_,rfl,rfl,(ao rfl (bJ hf rfl rfl rfl bC (aF (ag hD16 rfl rfl rfl))))⟩
    refine aR 8 #[false,true,false,false,false,false,false,true,false,false] ⟨52,[(0,.sl 6 (l.map evC)),(1,.s (.string u)),(2,.s (.int .i64 d)),(7,.ref 7 0 0 0),(8,.ref 8 0 0 0),(25,.sl 6 (l.map evC))],[(8,.box [.s (.int .i64 0),.s (.int .i64 0),.s (.slice none 0 0),.s (.slice none 0 0),.s (.slice none 0 0),.s (.slice none 0 0)]),(7,.box (aY oE))]⟩ ?_ (fun hD19=>?_)
    ·
     refine aI 0 [2] (by kernel_rfl) ⟨?_,?_,trivial⟩
     ·
      refine⟨_,rfl,rfl,(ao rfl (aE aA 1 rfl (aF (ag hD15 rfl rfl rfl))))⟩
     ·
      refine⟨_,rfl,rfl,(ao rfl (aM hf rfl (aQ rfl rfl aAq rfl (aBp _ (by omega))) (aF (ag hD16 rfl rfl rfl))))⟩
    refine kZ (aCu (sl':=[(0,.sl 6 (l.map evC)),(1,.s (.string u)),(2,.s (.int .i64 d)),(7,.ref 7 0 0 0),(25,.sl 6 (l.map evC))]) (m':=[(7,.box (aY oE))]) rfl rfl rfl) (aI 0 [2,7] (by kernel_rfl) ⟨?_,?_,?_,trivial⟩)
    ·
     refine⟨_,rfl,rfl,(ao rfl (aE aA 1 rfl (aF (ag hD17 rfl rfl rfl))))⟩
    ·
     refine⟨_,rfl,rfl,(ao rfl (aM hf rfl (aQ rfl rfl aAq rfl (aBp _ (by omega))) (aF (ag hD18 rfl rfl rfl))))⟩
    ·
     refine⟨_,rfl,rfl,(ao rfl (bJ hf rfl rfl rfl bC (aF (ag hD19 rfl rfl rfl))))⟩
  ·
   simp only[bs] at hg2
   refine aE aA 2 rfl (aD (hK3 _ (bU rfl (aC (fun K9 hK9=>(aB (aM hf rfl (aQ rfl rfl nJ rfl (lJ)) (aE aA 1 rfl (aD (hK9 _ (aJ ?_)))))))))))
   refine⟨_,rfl,?_⟩
   rfl
 ·
  simp only[bs] at hg1
  refine aE aA 6 rfl (aD (hK3 _ (bU rfl (aC (fun K10 hK10=>(aB (aM hf rfl (aQ rfl rfl nJ rfl (lJ)) (aE aA 1 rfl (aD (hK10 _ (aJ ?_)))))))))))
  refine⟨_,rfl,?_⟩
  rfl
end Go.Proofs.YthapfogcaklbbaaGreat
namespace Go.Proofs.YthapfogcaklbbaaGreat
open Go.ChangeShapes Go.WideShapes Go.ChangeAt Go.RowKit Go.Abs
set_option linter.unusedVariables false
theorem own:ownKnob Tryz.prog.godebug=none:=by kernel_rfl
theorem laid:laidOutB Tryz.prog=true:=by kernel_rfl
theorem td3:tdOf? Tryz.prog 16 3=some (.int .i64):=by kernel_rfl
theorem td9:tdOf? Tryz.prog 16 9=some (.str):=by kernel_rfl
theorem aYp:tdOf? Tryz.prog 16 28=some (.sl 64 (.agg [.int .i64,.int .i64,.str,.str,.int .i64,.int .i64])):=by kernel_rfl
set_option maxRecDepth 100000 in
theorem aP7 (H:Type) (enc:TypeId×Value→H) (W:World) (base:Nat) (args:Array Value) (ds gs:List (DataW H)) (before:List MemPlace)
    (hval:∀ (j:Nat) t v,Tryz.f4.params[j]?=some t→args[j]?=some v→Value.okWide Tryz.prog W .any base t v)
    (hW:DataW.Whole enc Tryz.prog Tryz.f4.params.toList Rows.foldModelSpec.vars false W args.toList ds gs before)
    (hsz:(DataW.weightsEach Tryz.prog (Tryz.f4.params.toList++Rows.foldModelSpec.plain.varTypes Tryz.prog) (ds++gs)).all (·≤reachBytes)=true) :
    Calls Tryz.prog 4 args W fun e W'=>∃ v,e=.returned v∧Rows.foldModelSpec.post enc Tryz.prog Tryz.f4 false true false false W args v W':=by
  have hW':=hW
  obtain ⟨p,q,hA0,hV,rfl,hfz,hnd⟩:=hW
  have hA:DataW.TrodAll enc Tryz.prog W 0 (fun _=>true) true Tryz.f4.params.toList args.toList ds p:=hA0
  rw[Tryz.params4] at hA hval
  obtain ⟨v0,vs0,d0,ds0,p0,q0,hargs,rfl,rfl,h0,r0⟩:=trodAll_cons hA
  obtain ⟨v1,vs1,d1,ds1,p1,q1,rfl,rfl,rfl,h1,r1⟩:=trodAll_cons r0
  obtain ⟨v2,vs2,d2,ds2,p2,q2,rfl,rfl,rfl,h2,r2⟩:=trodAll_cons r1
  obtain ⟨rfl,rfl,rfl⟩:=trodAll_nil r2
  obtain rfl:args=#[v0,v1,v2]:=by cases args; simp_all
  obtain ⟨c0,y0,a0⟩:=aOq aYp aNk (hval 0 28 v0 rfl rfl) h0 (aBq (i:=0) hsz (by rw[Tryz.params4]; rfl) rfl)
  obtain ⟨l,rfl,_,hl⟩:=aYo y0
  obtain ⟨c1,y1,a1⟩:=aOq td9 aOs (hval 1 9 v1 rfl rfl) h1 (aBq (i:=1) hsz (by rw[Tryz.params4]; rfl) rfl)
  obtain ⟨u,rfl,hu⟩:=aO5 y1
  have huT:TS u:=Nat.le_trans hu (by decide)
  obtain ⟨c2,y2,a2⟩:=aOq td3 aSt (hval 2 3 v2 rfl rfl) h2 (aBq (i:=2) hsz (by rw[Tryz.params4]; rfl) rfl)
  obtain ⟨t0,rfl,ht0⟩:=aLw y2
  refine(aRg l hl u t0 (fun _=>False) W [v0,v1,v2] (fun _ h=>h.elim) ⟨rfl,fun i c v hc hv=>?_⟩).mono fun e W' ⟨v,r,he,hr,hE,hv⟩=>?_
  · match i,hc,hv with
    | 0,hc,hv=>cases hc; cases hv; exact a0
    | 1,hc,hv=>cases hc; cases hv; exact a1
    | 2,hc,hv=>cases hc; cases hv; exact a2
  · subst hr
    cases hv
    exact⟨_,he,aKg (t:=4) hW' (aC9 hE) laid (by rw[Tryz.params4]; decide +kernel) rfl (fun _=>rfl) (by kernel_rfl) (by kernel_rfl) Tryz.underlying4⟩
set_option maxRecDepth 100000 in
theorem aQh (os:Os) (started:os.Started) (H:Type) (enc:TypeId×Value→H) (F:Stop.Interp) :
    ReturnsInHanded {} Tryz.checked os 4 .any (Rows.foldModelSpec.pre6 enc Tryz.prog Tryz.f4 Rows.foldModelRow.domain false) (Rows.foldModelSpec.post enc Tryz.prog Tryz.f4 false true false false):=by
  refine returnsInHanded_of_change_sized (C:=Tryz.checked) (s:=Rows.foldModelSpec) own started (by kernel_rfl) Tryz.func4
    (ChangeSpec.witness6 (enc:=enc) (C:=Tryz.checked) (s:=Rows.foldModelSpec) false ⟨#[],#[.slice none 0 0,.string ⟨#[]⟩,.int .i64 0],[]⟩ 8 (by kernel_rfl) (by kernel_rfl) (by kernel_rfl) (by kernel_rfl)) ?_
  intro W base args ds gs before hval hW _ hsz _
  exact aP7 H enc W base args ds gs before hval hW hsz
theorem aY6:(Rows.foldModelRow.wf (OpenSpec.ofChange Rows.foldModelSpec)&&laidOutB Tryz.prog&&mapsRowed Tryz.prog)=true:=by kernel_rfl
theorem aY5:(Rows.foldModelRow.inPlace == Tryz.prog.inPlace 4)=true:=by kernel_rfl
theorem aY4:(Rows.foldModelRow.unfollowed == Tryz.prog.unfollowed 4)=true:=by kernel_rfl
theorem aY3:(Rows.foldModelRow.recurses == Tryz.prog.recurses 4)=true:=by kernel_rfl
theorem aY2:(Rows.foldModelRow.named == Tryz.prog.varsNamed 4)=true:=by kernel_rfl
theorem hU:joinedFacts Tryz.prog 4 Tryz.f4 Rows.foldModelSpec Rows.foldModelRow=true:=by
  have h0:=aY6
  simp only[Bool.and_eq_true] at h0
  obtain ⟨⟨h5,h6⟩,h7⟩:=h0
  unfold joinedFacts
  repeat (rw[Bool.and_eq_true]; refine And.intro ?_ ?_)
  all_goals with_reducible first | exact aY5 | exact aY4 | exact aY3 | exact aY2 | exact h5 | exact h6 | exact h7 | kernel_rfl
theorem foldModel_proved:Rows.FoldModelSaid :=
  OpenClaim.holds_of_wide 4 Tryz.f4 rfl rfl rfl rfl rfl rfl rfl ⟨rfl,rfl,rfl,rfl,rfl⟩ rfl rfl rfl rfl rfl (by kernel_rfl) Tryz.func4 hU
    (of_decide_eq_true (by kernel_rfl)) (by unfold Func.isWrapper; first | (rw[if_pos (by decide +kernel)]; kernel_rfl) | (rw[if_neg (by decide +kernel)]; exact⟨rfl,rfl⟩))
    (fun os started H enc _=>aQh os started H enc default)
end Go.Proofs.YthapfogcaklbbaaGreat
