/-
  The law StateGoes: whatever the events, the call returns true, and they read behind it as they read before. No condition beyond the row's own.
-/
import Derived.Test.YtckjaledibkghaaGreatRows
import Derived.WalkKit
import Derived.ProofKit
import Derived.OpenShut
import Derived.JoinedCond
import Derived.SizedLaws
import Derived.Test.YtckjaledibkghaaGreatK1
import Derived.Test.YtckjaledibkghaaGreatK2
import Derived.Test.YtckjaledibkghaaGreatK3
import Derived.Test.YtckjaledibkghaaGreatK4
import Derived.Test.YtckjaledibkghaaGreatK5
import Derived.Test.YtckjaledibkghaaGreatK6
set_option maxRecDepth 20000
set_option maxHeartbeats 16000000
set_option linter.unusedVariables false
set_option linter.unusedSimpArgs false
namespace Go.Proofs.YtckjaledibkghaaGreat
open Go Go.Abs
end Go.Proofs.YtckjaledibkghaaGreat
set_option linter.unusedVariables false
set_option linter.unusedSimpArgs false
namespace Go.Proofs.YtckjaledibkghaaGreat
open Go Go.Abs
end Go.Proofs.YtckjaledibkghaaGreat
set_option linter.unusedVariables false
set_option linter.unusedSimpArgs false
namespace Go.Proofs.YtckjaledibkghaaGreat
open Go Go.Abs
end Go.Proofs.YtckjaledibkghaaGreat
set_option linter.unusedVariables false
set_option linter.unusedSimpArgs false
namespace Go.Proofs.YtckjaledibkghaaGreat
open Go Go.Abs
theorem aHl (l:List Ev) (ht:∀ e∈l,TS e.user∧TS e.other) :Den Tryz.prog 4 [.sl 6 (l.map evC)]  (·=.s (.bool true)):=by
 refine aS Tryz.func4 rfl (Nat.le_of_ble_eq_true rfl) (fun w0 A hf=>(aC (fun K1 hK1=>(aB (aE aA 1 rfl (aD (hK1 _ (aC (fun K2 hK2=>(aC (fun K3 hK3=>(aB (aE aA 3 rfl (aD (hK3 _ (aL rfl (fun hc1=>?_) (fun hc1=>?_)))))))))))))))))
 ·
  simp only[bs] at hc1
  refine aC (fun K4 hK4=>(aB (aJ hf rfl (aK rfl rfl dB rfl (cV)) (aE aA 1 rfl (aD (hK4 _ (aI ?_)))))))
  refine⟨_,rfl,?_⟩
  rfl
 ·
  simp only[bs] at hc1
  refine aM (hK2 _ (aC (fun K5 hK5=>(aB (aX hf rfl rfl rfl bA (aD (hK5 _ (aC (fun K6 hK6=>(aB (aX hf rfl rfl rfl bY (aD (hK6 _ (aC (fun K7 hK7=>?_)))))))))))))))
  refine aC (fun K8 hK8=>(aB (bO (aI5 3 (aO mY) rfl hJ) (bO (aI5 4 (aO mY) rfl hJ) (aE aA 1 rfl (aJ hf rfl (aK rfl rfl aSb rfl (aTy l (by omega))) (aE aA 2 rfl (aD (hK8 _ (aQ (bR (ι:=Nat×Sta) (fun(⟨k,st⟩:Nat×Sta)=>⟨57,[(0,.sl 6 (l.map evC)),(3,.ref 3 0 0 0),(4,.ref 4 0 0 0),(16,.sl 6 (l.map evC)),(17,.s (.int .i64 ((l.map evC).length:Nat))),(18,.s (.int .i64 (k:Nat)))],[(4,.box (aO st)),(3,.box (aO st))]⟩) (fun(⟨k,st⟩:Nat×Sta)=>k≤l.length∧RightP st∧SzS (48*k) st) (fun(⟨k,st⟩:Nat×Sta)=>l.length - k) (0,mY) ?_ ?_ ?_)))))))))))
  · exact⟨Nat.zero_le _,uE,aJ1 _⟩
  · exact oY rfl rfl rfl
  ·
   rintro ⟨k,st⟩ hC
   obtain ⟨h1,h2,h3⟩:=hC
   refine aC (fun K9 hK9=>(aB (aE aA 1 rfl (aD (hK9 _ (aC (fun K10 hK10=>(aL rfl (fun hc2=>?_) (fun hc2=>?_)))))))))
   ·
    simp only[bs] at hc2
    refine aM (hK10 _ (aC (fun K11 hK11=>(aQ (aC (fun K12 hK12=>(aB ?_)))))))
    have hk:k<l.length:=by omega
    have hz3:SzS 140737488352000 st:=h3.mono (by omega)
    obtain ⟨hu,ho⟩:=ht _ (List.getElem_mem hk)
    have hzN:SzS (48*(k+1)) (aR st l[k]).1:=xU h3 h2.usr (by omega)
    have hzA:SzS 140737488352000 (aR st l[k]).1:=hzN.mono (by omega)
    have hRA:RightP (aR st l[k]).1:=oP h2 l[k]
    refine aE aA 1 rfl ?_
    refine aG rfl (aY rfl rfl aWt hY (by first | exact ixm (by omega) | assumption | exact⟨by decide,rfl⟩)) ?_
    refine aE aA 1 rfl (aX hf rfl rfl rfl oS (aE aA 1 rfl (aU hf rfl rfl hY rfl rfl (l1 rfl) (l4 rfl) rfl (bO (mB (nee 6) (sl':=[(0,_),(3,_),(4,_),(5,_),(6,_),(16,_),(17,_),(18,_)]) (m':=[(4,.box (aO st)),(3,.box (aO st))]) ⟨⟨_,rfl,rfl⟩,⟨_,rfl,rfl⟩,⟨_,rfl,rfl⟩,⟨_,rfl,rfl⟩,⟨_,rfl,rfl⟩,⟨_,rfl,rfl⟩,⟨_,rfl,rfl⟩,⟨_,rfl,rfl⟩,trivial⟩ rfl) (aD (hK12 _ (aC (fun K13 hK13=>(aB (aE aA 2 rfl (aJ hf rfl (aK rfl rfl gR rfl (wO st l[k] hz3 h2 hu ho)) (aE aA 3 rfl ?_))))))))))))
    refine bV hf rfl bA rfl cC rfl rfl rfl rfl (lf rfl) (aE aA 1 rfl (aD (hK13 _ (aC (fun K14 hK14=>(dY bE ?_))))))
    refine cE (listed':=#[false,true,false,false,false,false,false,false,false,false,false,false]) 1 rfl (by kernel_rfl) (by kernel_rfl) (by kernel_rfl) rfl (fun _ _ h=>h) (eO rfl) ?_
    refine cE (listed':=#[false,true,true,false,false,false,false,false,false,false,false,false]) 2 rfl (by kernel_rfl) (by kernel_rfl) (by kernel_rfl) rfl (fun _ _ h=>h) (eO rfl) ?_
    refine cE (listed':=#[false,true,true,true,false,false,false,false,false,false,false,false]) 3 rfl (by kernel_rfl) (by kernel_rfl) (by kernel_rfl) rfl (fun _ _ h=>h) (aU4 rfl rfl aPt aHd (by first | exact ixm (by omega) | assumption | exact⟨by decide,rfl⟩)) ?_
    refine aN 0 #[true,true,true,true,true,true,true,true,true,true,true,true] ⟨57,[(0,.sl 6 (l.map evC)),(3,.ref 3 0 0 0),(4,.ref 4 0 0 0),(7,.adr (aO (aR st l[k]).1)),(8,.s (.int .i64 (aR st l[k]).2)),(9,.ref 9 0 0 0),(10,.s (.int .i64 (aR st l[k]).2)),(16,.sl 6 (l.map evC)),(17,.s (.int .i64 ((l.map evC).length:Nat))),(18,.s (.int .i64 (k:Nat)))],[(9,.box (aO (aR st l[k]).1)),(4,.box (aO st)),(3,.box (aO st))]⟩ ?_ (fun hD0=>?_)
    ·
     refine dF (by kernel_rfl) ?_
     refine hK14 _ (aC (fun K15 hK15=>(aC (fun K16 hK16=>(cM hf bE (by kernel_rfl) rfl (aT aA 2 rfl (bL [(38,_),(39,_)] rfl rfl ⟨⟨rfl,rfl⟩,⟨rfl,rfl⟩,trivial⟩ rfl (cU rfl rfl (aSq rfl)) (aT aA 2 rfl (aZ [(42,_)] rfl rfl ⟨⟨rfl,rfl⟩,trivial⟩ rfl (aK rfl rfl nD rfl (aQh (aR st l[k]).1 hzA)) (aT aA 1 rfl (aZ [(43,_),(44,_)] rfl rfl ⟨⟨rfl,rfl⟩,⟨rfl,rfl⟩,trivial⟩ rfl (aK rfl rfl nE rfl (tL (aR st l[k]).1 hzA)) (aT aA 2 rfl (cP [0,3,4,7,8,9,16,17,18,47] rfl rfl rfl ?_)))))))))))))
     refine hK16 _ (bG rfl (aM (hK15 _ (aC (fun K17 hK17=>(aC (fun K18 hK18=>(aB (bO (mB (nee 9) (sl':=[(0,_),(3,_),(4,_),(7,_),(8,_),(9,_),(16,_),(17,_),(18,_)]) (m':=[(4,.box (aO st)),(3,.box (aO st))]) ⟨⟨_,rfl,rfl⟩,⟨_,rfl,rfl⟩,⟨_,rfl,rfl⟩,⟨_,rfl,rfl⟩,⟨_,rfl,rfl⟩,⟨_,rfl,rfl⟩,⟨_,rfl,rfl⟩,⟨_,rfl,rfl⟩,⟨_,rfl,rfl⟩,trivial⟩ rfl) (aE aA 2 rfl (aD (hK18 _ (aL rfl (fun hc4=>?_) (fun hc4=>?_))))))))))))))
     ·
      simp only[bs] at hc4
      refine dY bE ?_
      refine aN 0 #[true,true,true,true] ⟨57,[(0,.sl 6 (l.map evC)),(3,.ref 3 0 0 0),(4,.ref 4 0 0 0),(16,.sl 6 (l.map evC)),(17,.s (.int .i64 ((l.map evC).length:Nat))),(18,.s (.int .i64 (k:Nat)))],[(4,.box (aO (aR st l[k]).1)),(3,.box (aO (aR st l[k]).1))]⟩ ?_ (fun hD0=>?_)
      ·
       refine dF (by kernel_rfl) ?_
       refine hK17 _ (aC (fun K19 hK19=>(aB (aE aA 1 rfl (aJ hf rfl (aK rfl rfl nC rfl (aFi _ (by assumption) (by assumption))) (aE aA 1 rfl (aD (hK19 _ (bG rfl (aM (hK11 _ (aB ?_))))))))))))
       refine aG rfl (bN rfl rfl (by omega) (by omega)) ?_
       refine aE aA 1 rfl (aD ?_)
       exact⟨(k+1,(aR st l[k]).1),⟨by omega,hRA,hzN⟩,by simp only; omega,oY rfl rfl rfl⟩
      refine aN 1 #[true,true,true,false] ⟨57,[(0,.sl 6 (l.map evC)),(3,.ref 3 0 0 0),(4,.ref 4 0 0 0),(16,.sl 6 (l.map evC)),(17,.s (.int .i64 ((l.map evC).length:Nat))),(18,.s (.int .i64 (k:Nat))),(51,.agg (aO (aR st l[k]).1))],[(4,.box (aO st)),(3,.box (aO (aR st l[k]).1))]⟩ ?_ (fun hD1=>?_)
      ·
       refine aH 3 [] (by kernel_rfl) ⟨?_,trivial⟩
       ·
        refine⟨_,rfl,rfl,(ao rfl (aU hf rfl rfl cG rfl rfl (l1 rfl) (l4 rfl) rfl (aF (ag hD0 rfl rfl rfl))))⟩
      refine aN 2 #[true,true,false,false] ⟨57,[(0,.sl 6 (l.map evC)),(3,.ref 3 0 0 0),(4,.ref 4 0 0 0),(16,.sl 6 (l.map evC)),(17,.s (.int .i64 ((l.map evC).length:Nat))),(18,.s (.int .i64 (k:Nat))),(50,.agg (aO (aR st l[k]).1)),(51,.agg (aO (aR st l[k]).1))],[(4,.box (aO st)),(3,.box (aO st))]⟩ ?_ (fun hD2=>?_)
      ·
       refine aH 2 [] (by kernel_rfl) ⟨?_,trivial⟩
       ·
        refine⟨_,rfl,rfl,(ao rfl (aU hf rfl rfl cC rfl rfl (l1 rfl) (l4 rfl) rfl (aF (ag hD1 rfl rfl rfl))))⟩
      refine aN 2 #[true,false,true,false] ⟨57,[(0,.sl 6 (l.map evC)),(3,.ref 3 0 0 0),(4,.ref 4 0 0 0),(9,.adr (aO (aR st l[k]).1)),(16,.sl 6 (l.map evC)),(17,.s (.int .i64 ((l.map evC).length:Nat))),(18,.s (.int .i64 (k:Nat)))],[(4,.box (aO st)),(3,.box (aO (aR st l[k]).1))]⟩ ?_ (fun hD3=>?_)
      ·
       refine aH 1 [] (by kernel_rfl) ⟨?_,trivial⟩
       ·
        refine⟨_,rfl,rfl,(ao rfl (aE aA 1 rfl (aF (ag hD1 rfl rfl rfl))))⟩
      refine aN 3 #[true,false,false,false] ⟨57,[(0,.sl 6 (l.map evC)),(3,.ref 3 0 0 0),(4,.ref 4 0 0 0),(9,.adr (aO (aR st l[k]).1)),(16,.sl 6 (l.map evC)),(17,.s (.int .i64 ((l.map evC).length:Nat))),(18,.s (.int .i64 (k:Nat))),(50,.agg (aO (aR st l[k]).1))],[(4,.box (aO st)),(3,.box (aO st))]⟩ ?_ (fun hD4=>?_)
      ·
       refine aH 1 [2] (by kernel_rfl) ⟨?_,?_,trivial⟩
       ·
        refine⟨_,rfl,rfl,(ao rfl (aE aA 1 rfl (aF (ag hD2 rfl rfl rfl))))⟩
       ·
        refine⟨_,rfl,rfl,(ao rfl (aU hf rfl rfl cC rfl rfl (l1 rfl) (l4 rfl) rfl (aF (ag hD3 rfl rfl rfl))))⟩
      refine aN 3 #[false,true,false,false] ⟨57,[(0,.sl 6 (l.map evC)),(3,.ref 3 0 0 0),(4,.ref 4 0 0 0),(7,.adr (aO (aR st l[k]).1)),(16,.sl 6 (l.map evC)),(17,.s (.int .i64 ((l.map evC).length:Nat))),(18,.s (.int .i64 (k:Nat))),(51,.agg (aO (aR st l[k]).1))],[(4,.box (aO st)),(3,.box (aO st))]⟩ ?_ (fun hD5=>?_)
      ·
       refine aH 0 [] (by kernel_rfl) ⟨?_,trivial⟩
       ·
        refine⟨_,rfl,rfl,(ao rfl (aE aA 1 rfl (aF (ag hD2 rfl rfl rfl))))⟩
      refine jM (oY (sl':=[(0,.sl 6 (l.map evC)),(3,.ref 3 0 0 0),(4,.ref 4 0 0 0),(7,.adr (aO (aR st l[k]).1)),(9,.adr (aO (aR st l[k]).1)),(16,.sl 6 (l.map evC)),(17,.s (.int .i64 ((l.map evC).length:Nat))),(18,.s (.int .i64 (k:Nat)))]) (m':=[(4,.box (aO st)),(3,.box (aO st))]) rfl rfl rfl) (aH 0 [1] (by kernel_rfl) ⟨?_,?_,trivial⟩)
      ·
       refine⟨_,rfl,rfl,(ao rfl (aE aA 1 rfl (aF (ag hD4 rfl rfl rfl))))⟩
      ·
       refine⟨_,rfl,rfl,(ao rfl (aE aA 1 rfl (aF (ag hD5 rfl rfl rfl))))⟩
     ·
      simp only[bs] at hc4
      refine aM (hK17 _ (aC (fun K20 hK20=>(aB (aE aA 1 rfl (aJ hf rfl (aK rfl rfl nC rfl (aFi _ (by assumption) (by assumption))) (aE aA 1 rfl (aD (hK20 _ (bG rfl (aM (hK11 _ (aB ?_)))))))))))))
      refine aG rfl (bN rfl rfl (by omega) (by omega)) ?_
      refine aE aA 1 rfl (aD ?_)
      exact⟨(k+1,st),⟨by omega,h2,h3.mono (by omega)⟩,by simp only; omega,oY rfl rfl rfl⟩
    refine aN 1 #[true,true,true,true,true,true,true,true,true,true,true,false] ⟨57,[(0,.sl 6 (l.map evC)),(3,.ref 3 0 0 0),(4,.ref 4 0 0 0),(7,.adr (aO (aR st l[k]).1)),(8,.s (.int .i64 (aR st l[k]).2)),(9,.ref 9 0 0 0),(16,.sl 6 (l.map evC)),(17,.s (.int .i64 ((l.map evC).length:Nat))),(18,.s (.int .i64 (k:Nat))),(37,.s (.int .i64 (aR st l[k]).2))],[(9,.box (aO (aR st l[k]).1)),(4,.box (aO st)),(3,.box (aO st))]⟩ ?_ (fun hD1=>?_)
    ·
     refine aH 11 [] (by kernel_rfl) ⟨?_,trivial⟩
     ·
      refine⟨_,rfl,rfl,(ao rfl (aE aA 1 rfl (aF (ag hD0 rfl rfl rfl))))⟩
    refine aN 2 #[true,true,true,true,true,true,true,true,true,true,false,false] ⟨57,[(0,.sl 6 (l.map evC)),(3,.ref 3 0 0 0),(4,.ref 4 0 0 0),(7,.adr (aO (aR st l[k]).1)),(8,.s (.int .i64 (aR st l[k]).2)),(9,.ref 9 0 0 0),(16,.sl 6 (l.map evC)),(17,.s (.int .i64 ((l.map evC).length:Nat))),(18,.s (.int .i64 (k:Nat))),(36,.agg (aO (aR st l[k]).1)),(37,.s (.int .i64 (aR st l[k]).2))],[(9,.box [.s (.int .i64 0),.s (.int .i64 0),.s (.slice none 0 0),.s (.slice none 0 0),.s (.slice none 0 0),.s (.slice none 0 0)]),(4,.box (aO st)),(3,.box (aO st))]⟩ ?_ (fun hD2=>?_)
    ·
     refine aH 10 [] (by kernel_rfl) ⟨?_,trivial⟩
     ·
      refine⟨_,rfl,rfl,(ao rfl (aU hf rfl rfl cG rfl rfl (l1 rfl) (l4 rfl) rfl (aF (ag hD1 rfl rfl rfl))))⟩
    refine aN 2 #[true,true,true,true,true,true,true,true,false,true,true,false] ⟨57,[(0,.sl 6 (l.map evC)),(3,.ref 3 0 0 0),(4,.ref 4 0 0 0),(7,.adr (aO (aR st l[k]).1)),(8,.s (.int .i64 (aR st l[k]).2)),(9,.ref 9 0 0 0),(16,.sl 6 (l.map evC)),(17,.s (.int .i64 ((l.map evC).length:Nat))),(18,.s (.int .i64 (k:Nat))),(29,.tup [.agg (aO (aR st l[k]).1),.s (.int .i64 (aR st l[k]).2)])],[(9,.box (aO (aR st l[k]).1)),(4,.box (aO st)),(3,.box (aO st))]⟩ ?_ (fun hD3=>?_)
    ·
     refine aH 8 [] (by kernel_rfl) ⟨?_,trivial⟩
     ·
      refine⟨_,rfl,rfl,(ao rfl (aE aA 1 rfl (aF (ag hD1 rfl rfl rfl))))⟩
    refine aN 3 #[true,true,true,true,true,true,true,true,true,false,false,false] ⟨57,[(0,.sl 6 (l.map evC)),(3,.ref 3 0 0 0),(4,.ref 4 0 0 0),(7,.adr (aO (aR st l[k]).1)),(8,.s (.int .i64 (aR st l[k]).2)),(16,.sl 6 (l.map evC)),(17,.s (.int .i64 ((l.map evC).length:Nat))),(18,.s (.int .i64 (k:Nat))),(36,.agg (aO (aR st l[k]).1)),(37,.s (.int .i64 (aR st l[k]).2))],[(4,.box (aO st)),(3,.box (aO st))]⟩ ?_ (fun hD4=>?_)
    ·
     refine aH 9 [] (by kernel_rfl) ⟨?_,trivial⟩
     ·
      refine⟨_,rfl,rfl,(ao rfl (aX hf rfl rfl rfl bY (aF (ag hD2 rfl rfl rfl))))⟩
    refine aN 3 #[true,true,true,true,true,true,true,true,false,true,false,false] ⟨57,[(0,.sl 6 (l.map evC)),(3,.ref 3 0 0 0),(4,.ref 4 0 0 0),(7,.adr (aO (aR st l[k]).1)),(8,.s (.int .i64 (aR st l[k]).2)),(9,.ref 9 0 0 0),(16,.sl 6 (l.map evC)),(17,.s (.int .i64 ((l.map evC).length:Nat))),(18,.s (.int .i64 (k:Nat))),(29,.tup [.agg (aO (aR st l[k]).1),.s (.int .i64 (aR st l[k]).2)]),(36,.agg (aO (aR st l[k]).1))],[(9,.box [.s (.int .i64 0),.s (.int .i64 0),.s (.slice none 0 0),.s (.slice none 0 0),.s (.slice none 0 0),.s (.slice none 0 0)]),(4,.box (aO st)),(3,.box (aO st))]⟩ ?_ (fun hD5=>?_)
    ·
     refine aH 8 [10] (by kernel_rfl) ⟨?_,?_,trivial⟩
     ·
      refine⟨_,rfl,rfl,(ao rfl (aE aA 1 rfl (aF (ag hD2 rfl rfl rfl))))⟩
     ·
      refine⟨_,rfl,rfl,(ao rfl (aU hf rfl rfl cG rfl rfl (l1 rfl) (l4 rfl) rfl (aF (ag hD3 rfl rfl rfl))))⟩
    refine aN 3 #[true,true,true,true,true,true,true,false,true,true,false,false] ⟨57,[(0,.sl 6 (l.map evC)),(3,.ref 3 0 0 0),(4,.ref 4 0 0 0),(7,.adr (aO (aR st l[k]).1)),(8,.s (.int .i64 (aR st l[k]).2)),(9,.ref 9 0 0 0),(16,.sl 6 (l.map evC)),(17,.s (.int .i64 ((l.map evC).length:Nat))),(18,.s (.int .i64 (k:Nat))),(29,.tup [.agg (aO (aR st l[k]).1),.s (.int .i64 (aR st l[k]).2)]),(37,.s (.int .i64 (aR st l[k]).2))],[(9,.box [.s (.int .i64 0),.s (.int .i64 0),.s (.slice none 0 0),.s (.slice none 0 0),.s (.slice none 0 0),.s (.slice none 0 0)]),(4,.box (aO st)),(3,.box (aO st))]⟩ ?_ (fun hD6=>?_)
    ·
     refine aH 7 [] (by kernel_rfl) ⟨?_,trivial⟩
     ·
      refine⟨_,rfl,rfl,(ao rfl (aE aA 1 rfl (aF (ag hD2 rfl rfl rfl))))⟩
    refine aN 4 #[true,true,true,true,true,true,true,true,false,false,false,false] ⟨57,[(0,.sl 6 (l.map evC)),(3,.ref 3 0 0 0),(4,.ref 4 0 0 0),(7,.adr (aO (aR st l[k]).1)),(8,.s (.int .i64 (aR st l[k]).2)),(16,.sl 6 (l.map evC)),(17,.s (.int .i64 ((l.map evC).length:Nat))),(18,.s (.int .i64 (k:Nat))),(29,.tup [.agg (aO (aR st l[k]).1),.s (.int .i64 (aR st l[k]).2)]),(36,.agg (aO (aR st l[k]).1))],[(4,.box (aO st)),(3,.box (aO st))]⟩ ?_ (fun hD7=>?_)
    ·
     refine aH 8 [9] (by kernel_rfl) ⟨?_,?_,trivial⟩
     ·
      refine⟨_,rfl,rfl,(ao rfl (aE aA 1 rfl (aF (ag hD4 rfl rfl rfl))))⟩
     ·
      refine⟨_,rfl,rfl,(ao rfl (aX hf rfl rfl rfl bY (aF (ag hD5 rfl rfl rfl))))⟩
    refine aN 4 #[true,true,true,true,true,true,true,false,true,false,false,false] ⟨57,[(0,.sl 6 (l.map evC)),(3,.ref 3 0 0 0),(4,.ref 4 0 0 0),(7,.adr (aO (aR st l[k]).1)),(8,.s (.int .i64 (aR st l[k]).2)),(16,.sl 6 (l.map evC)),(17,.s (.int .i64 ((l.map evC).length:Nat))),(18,.s (.int .i64 (k:Nat))),(29,.tup [.agg (aO (aR st l[k]).1),.s (.int .i64 (aR st l[k]).2)]),(37,.s (.int .i64 (aR st l[k]).2))],[(4,.box (aO st)),(3,.box (aO st))]⟩ ?_ (fun hD8=>?_)
    ·
     refine aH 7 [9] (by kernel_rfl) ⟨?_,?_,trivial⟩
     ·
      refine⟨_,rfl,rfl,(ao rfl (aE aA 1 rfl (aF (ag hD4 rfl rfl rfl))))⟩
     ·
      refine⟨_,rfl,rfl,(ao rfl (aX hf rfl rfl rfl bY (aF (ag hD6 rfl rfl rfl))))⟩
    refine aN 4 #[true,true,true,true,true,true,true,false,false,true,false,false] ⟨57,[(0,.sl 6 (l.map evC)),(3,.ref 3 0 0 0),(4,.ref 4 0 0 0),(7,.adr (aO (aR st l[k]).1)),(8,.s (.int .i64 (aR st l[k]).2)),(9,.ref 9 0 0 0),(16,.sl 6 (l.map evC)),(17,.s (.int .i64 ((l.map evC).length:Nat))),(18,.s (.int .i64 (k:Nat))),(29,.tup [.agg (aO (aR st l[k]).1),.s (.int .i64 (aR st l[k]).2)])],[(9,.box [.s (.int .i64 0),.s (.int .i64 0),.s (.slice none 0 0),.s (.slice none 0 0),.s (.slice none 0 0),.s (.slice none 0 0)]),(4,.box (aO st)),(3,.box (aO st))]⟩ ?_ (fun hD9=>?_)
    ·
     refine aH 7 [8] (by kernel_rfl) ⟨?_,?_,trivial⟩
     ·
      refine⟨_,rfl,rfl,(ao rfl (aE aA 1 rfl (aF (ag hD5 rfl rfl rfl))))⟩
     ·
      refine⟨_,rfl,rfl,(ao rfl (aE aA 1 rfl (aF (ag hD6 rfl rfl rfl))))⟩
    refine aN 5 #[true,true,true,true,true,true,true,false,false,false,false,false] ⟨57,[(0,.sl 6 (l.map evC)),(3,.ref 3 0 0 0),(4,.ref 4 0 0 0),(7,.adr (aO (aR st l[k]).1)),(8,.s (.int .i64 (aR st l[k]).2)),(16,.sl 6 (l.map evC)),(17,.s (.int .i64 ((l.map evC).length:Nat))),(18,.s (.int .i64 (k:Nat))),(29,.tup [.agg (aO (aR st l[k]).1),.s (.int .i64 (aR st l[k]).2)])],[(4,.box (aO st)),(3,.box (aO st))]⟩ ?_ (fun hD10=>?_)
    ·
     refine aH 7 [8,9] (by kernel_rfl) ⟨?_,?_,?_,trivial⟩
     ·
      refine⟨_,rfl,rfl,(ao rfl (aE aA 1 rfl (aF (ag hD7 rfl rfl rfl))))⟩
     ·
      refine⟨_,rfl,rfl,(ao rfl (aE aA 1 rfl (aF (ag hD8 rfl rfl rfl))))⟩
     ·
      refine⟨_,rfl,rfl,(ao rfl (aX hf rfl rfl rfl bY (aF (ag hD9 rfl rfl rfl))))⟩
    refine aN 5 #[true,true,true,true,true,true,false,false,false,true,false,false] ⟨57,[(0,.sl 6 (l.map evC)),(3,.ref 3 0 0 0),(4,.ref 4 0 0 0),(7,.adr (aO (aR st l[k]).1)),(8,.s (.int .i64 (aR st l[k]).2)),(9,.ref 9 0 0 0),(16,.sl 6 (l.map evC)),(17,.s (.int .i64 ((l.map evC).length:Nat))),(18,.s (.int .i64 (k:Nat))),(35,.tup [.agg (aO (aR st l[k]).1),.s (.int .i64 (aR st l[k]).2)])],[(9,.box [.s (.int .i64 0),.s (.int .i64 0),.s (.slice none 0 0),.s (.slice none 0 0),.s (.slice none 0 0),.s (.slice none 0 0)]),(4,.box (aO st)),(3,.box (aO st))]⟩ ?_ (fun hD11=>?_)
    ·
     refine aH 6 [] (by kernel_rfl) ⟨?_,trivial⟩
     ·
      refine⟨_,rfl,rfl,(ao rfl (aE aA 1 rfl (aF (ag hD9 rfl rfl rfl))))⟩
    refine aN 6 #[true,true,true,true,true,true,false,false,false,false,false,false] ⟨57,[(0,.sl 6 (l.map evC)),(3,.ref 3 0 0 0),(4,.ref 4 0 0 0),(7,.adr (aO (aR st l[k]).1)),(8,.s (.int .i64 (aR st l[k]).2)),(16,.sl 6 (l.map evC)),(17,.s (.int .i64 ((l.map evC).length:Nat))),(18,.s (.int .i64 (k:Nat))),(35,.tup [.agg (aO (aR st l[k]).1),.s (.int .i64 (aR st l[k]).2)])],[(4,.box (aO st)),(3,.box (aO st))]⟩ ?_ (fun hD12=>?_)
    ·
     refine aH 6 [9] (by kernel_rfl) ⟨?_,?_,trivial⟩
     ·
      refine⟨_,rfl,rfl,(ao rfl (aE aA 1 rfl (aF (ag hD10 rfl rfl rfl))))⟩
     ·
      refine⟨_,rfl,rfl,(ao rfl (aX hf rfl rfl rfl bY (aF (ag hD11 rfl rfl rfl))))⟩
    refine aN 6 #[true,true,true,true,true,false,false,false,false,true,false,false] ⟨57,[(0,.sl 6 (l.map evC)),(3,.ref 3 0 0 0),(4,.ref 4 0 0 0),(7,.adr (aO (aR st l[k]).1)),(8,.s (.int .i64 (aR st l[k]).2)),(9,.ref 9 0 0 0),(16,.sl 6 (l.map evC)),(17,.s (.int .i64 ((l.map evC).length:Nat))),(18,.s (.int .i64 (k:Nat))),(30,.agg (aO st)),(34,.agg (evC l[k]))],[(9,.box [.s (.int .i64 0),.s (.int .i64 0),.s (.slice none 0 0),.s (.slice none 0 0),.s (.slice none 0 0),.s (.slice none 0 0)]),(4,.box (aO st)),(3,.box (aO st))]⟩ ?_ (fun hD13=>?_)
    ·
     refine aH 5 [] (by kernel_rfl) ⟨?_,trivial⟩
     ·
      refine⟨_,rfl,rfl,(ao rfl (aJ hf rfl (aK rfl rfl zV rfl (aBs st l[k] hz3 h2 hu ho)) (aF (ag hD11 rfl rfl rfl))))⟩
    refine aN 7 #[true,true,true,true,true,false,false,false,false,false,false,false] ⟨57,[(0,.sl 6 (l.map evC)),(3,.ref 3 0 0 0),(4,.ref 4 0 0 0),(7,.adr (aO (aR st l[k]).1)),(8,.s (.int .i64 (aR st l[k]).2)),(16,.sl 6 (l.map evC)),(17,.s (.int .i64 ((l.map evC).length:Nat))),(18,.s (.int .i64 (k:Nat))),(30,.agg (aO st)),(34,.agg (evC l[k]))],[(4,.box (aO st)),(3,.box (aO st))]⟩ ?_ (fun hD14=>?_)
    ·
     refine aH 5 [9] (by kernel_rfl) ⟨?_,?_,trivial⟩
     ·
      refine⟨_,rfl,rfl,(ao rfl (aJ hf rfl (aK rfl rfl zV rfl (aBs st l[k] hz3 h2 hu ho)) (aF (ag hD12 rfl rfl rfl))))⟩
     ·
      refine⟨_,rfl,rfl,(ao rfl (aX hf rfl rfl rfl bY (aF (ag hD13 rfl rfl rfl))))⟩
    refine aN 7 #[true,true,true,true,false,false,false,false,false,true,false,false] ⟨57,[(0,.sl 6 (l.map evC)),(3,.ref 3 0 0 0),(4,.ref 4 0 0 0),(7,.adr (aO (aR st l[k]).1)),(8,.s (.int .i64 (aR st l[k]).2)),(9,.ref 9 0 0 0),(16,.sl 6 (l.map evC)),(17,.s (.int .i64 ((l.map evC).length:Nat))),(18,.s (.int .i64 (k:Nat))),(30,.agg (aO st)),(33,.adr (evC l[k]))],[(9,.box [.s (.int .i64 0),.s (.int .i64 0),.s (.slice none 0 0),.s (.slice none 0 0),.s (.slice none 0 0),.s (.slice none 0 0)]),(4,.box (aO st)),(3,.box (aO st))]⟩ ?_ (fun hD15=>?_)
    ·
     refine aH 4 [] (by kernel_rfl) ⟨?_,trivial⟩
     ·
      refine⟨_,rfl,rfl,(ao rfl (aE aA 1 rfl (aF (ag hD13 rfl rfl rfl))))⟩
    refine aN 7 #[false,true,true,true,true,false,false,false,false,true,false,false] ⟨57,[(0,.sl 6 (l.map evC)),(3,.ref 3 0 0 0),(4,.ref 4 0 0 0),(7,.adr (aO (aR st l[k]).1)),(8,.s (.int .i64 (aR st l[k]).2)),(9,.ref 9 0 0 0),(16,.sl 6 (l.map evC)),(17,.s (.int .i64 ((l.map evC).length:Nat))),(18,.s (.int .i64 (k:Nat))),(34,.agg (evC l[k]))],[(9,.box [.s (.int .i64 0),.s (.int .i64 0),.s (.slice none 0 0),.s (.slice none 0 0),.s (.slice none 0 0),.s (.slice none 0 0)]),(4,.box (aO st)),(3,.box (aO st))]⟩ ?_ (fun hD16=>?_)
    ·
     refine aH 0 [] (by kernel_rfl) ⟨?_,trivial⟩
     ·
      refine⟨_,rfl,rfl,(ao rfl (aE aA 1 rfl (aF (ag hD13 rfl rfl rfl))))⟩
    refine aN 8 #[true,true,true,true,false,false,false,false,false,false,false,false] ⟨57,[(0,.sl 6 (l.map evC)),(3,.ref 3 0 0 0),(4,.ref 4 0 0 0),(7,.adr (aO (aR st l[k]).1)),(8,.s (.int .i64 (aR st l[k]).2)),(16,.sl 6 (l.map evC)),(17,.s (.int .i64 ((l.map evC).length:Nat))),(18,.s (.int .i64 (k:Nat))),(30,.agg (aO st)),(33,.adr (evC l[k]))],[(4,.box (aO st)),(3,.box (aO st))]⟩ ?_ (fun hD17=>?_)
    ·
     refine aH 4 [9] (by kernel_rfl) ⟨?_,?_,trivial⟩
     ·
      refine⟨_,rfl,rfl,(ao rfl (aE aA 1 rfl (aF (ag hD14 rfl rfl rfl))))⟩
     ·
      refine⟨_,rfl,rfl,(ao rfl (aX hf rfl rfl rfl bY (aF (ag hD15 rfl rfl rfl))))⟩
    refine aN 8 #[false,true,true,true,true,false,false,false,false,false,false,false] ⟨57,[(0,.sl 6 (l.map evC)),(3,.ref 3 0 0 0),(4,.ref 4 0 0 0),(7,.adr (aO (aR st l[k]).1)),(8,.s (.int .i64 (aR st l[k]).2)),(16,.sl 6 (l.map evC)),(17,.s (.int .i64 ((l.map evC).length:Nat))),(18,.s (.int .i64 (k:Nat))),(34,.agg (evC l[k]))],[(4,.box (aO st)),(3,.box (aO st))]⟩ ?_ (fun hD18=>?_)
    ·
     refine aH 0 [9] (by kernel_rfl) ⟨?_,?_,trivial⟩
     ·
      refine⟨_,rfl,rfl,(ao rfl (aE aA 1 rfl (aF (ag hD14 rfl rfl rfl))))⟩
     ·
      refine⟨_,rfl,rfl,(ao rfl (aX hf rfl rfl rfl bY (aF (ag hD16 rfl rfl rfl))))⟩
    refine aN 8 #[false,true,true,true,false,false,false,false,false,true,false,false] ⟨57,[(0,.sl 6 (l.map evC)),(3,.ref 3 0 0 0),(4,.ref 4 0 0 0),(7,.adr (aO (aR st l[k]).1)),(8,.s (.int .i64 (aR st l[k]).2)),(9,.ref 9 0 0 0),(16,.sl 6 (l.map evC)),(17,.s (.int .i64 ((l.map evC).length:Nat))),(18,.s (.int .i64 (k:Nat))),(33,.adr (evC l[k]))],[(9,.box [.s (.int .i64 0),.s (.int .i64 0),.s (.slice none 0 0),.s (.slice none 0 0),.s (.slice none 0 0),.s (.slice none 0 0)]),(4,.box (aO st)),(3,.box (aO st))]⟩ ?_ (fun hD19=>?_)
    ·
     refine aH 0 [4] (by kernel_rfl) ⟨?_,?_,trivial⟩
     ·
      refine⟨_,rfl,rfl,(ao rfl (aE aA 1 rfl (aF (ag hD15 rfl rfl rfl))))⟩
     ·
      refine⟨_,rfl,rfl,(ao rfl (aE aA 1 rfl (aF (ag hD16 rfl rfl rfl))))⟩
    refine jM (oY (sl':=[(0,.sl 6 (l.map evC)),(3,.ref 3 0 0 0),(4,.ref 4 0 0 0),(7,.adr (aO (aR st l[k]).1)),(8,.s (.int .i64 (aR st l[k]).2)),(16,.sl 6 (l.map evC)),(17,.s (.int .i64 ((l.map evC).length:Nat))),(18,.s (.int .i64 (k:Nat))),(33,.adr (evC l[k]))]) (m':=[(4,.box (aO st)),(3,.box (aO st))]) rfl rfl rfl) (aH 0 [4,9] (by kernel_rfl) ⟨?_,?_,?_,trivial⟩)
    ·
     refine⟨_,rfl,rfl,(ao rfl (aE aA 1 rfl (aF (ag hD17 rfl rfl rfl))))⟩
    ·
     refine⟨_,rfl,rfl,(ao rfl (aE aA 1 rfl (aF (ag hD18 rfl rfl rfl))))⟩
    ·
     refine⟨_,rfl,rfl,(ao rfl (aX hf rfl rfl rfl bY (aF (ag hD19 rfl rfl rfl))))⟩
   ·
    simp only[bs] at hc2
    refine bB (hK7 _ (aC (fun K21 hK21=>(aB (aJ hf rfl (aK rfl rfl dB rfl (cV)) (aE aA 1 rfl (aD (hK21 _ (aI ?_)))))))))
    refine⟨_,rfl,?_⟩
    rfl
end Go.Proofs.YtckjaledibkghaaGreat
namespace Go.Proofs.YtckjaledibkghaaGreat
open Go.ChangeShapes Go.WideShapes Go.ChangeAt Go.RowKit Go.Abs
set_option linter.unusedVariables false
theorem own:ownKnob Tryz.prog.godebug=none:=by kernel_rfl
theorem laid:laidOutB Tryz.prog=true:=by kernel_rfl
theorem td50:tdOf? Tryz.prog 16 50=some (.sl 64 (.agg [.int .i64,.int .i64,.str,.str,.int .i64,.int .i64])):=by kernel_rfl
set_option maxRecDepth 100000 in
theorem yY (H:Type) (enc:TypeId×Value→H) (W:World) (base:Nat) (args:Array Value) (ds gs:List (DataW H)) (before:List MemPlace)
    (hval:∀ (j:Nat) t v,Tryz.f4.params[j]?=some t→args[j]?=some v→Value.okWide Tryz.prog W .any base t v)
    (hW:DataW.Whole enc Tryz.prog Tryz.f4.params.toList Rows.stateGoesSpec.vars false W args.toList ds gs before)
    (hsz:(DataW.weightsEach Tryz.prog (Tryz.f4.params.toList++Rows.stateGoesSpec.plain.varTypes Tryz.prog) (ds++gs)).all (·≤reachBytes)=true) :
    Calls Tryz.prog 4 args W fun e W'=>∃ v,e=.returned v∧Rows.stateGoesSpec.post enc Tryz.prog Tryz.f4 false true false false W args v W':=by
  have hW':=hW
  obtain ⟨p,q,hA0,hV,rfl,hfz,hnd⟩:=hW
  have hA:DataW.TrodAll enc Tryz.prog W 0 (fun _=>true) true Tryz.f4.params.toList args.toList ds p:=hA0
  rw[Tryz.params4] at hA hval
  obtain ⟨v0,vs0,d0,ds0,p0,q0,hargs,rfl,rfl,h0,r0⟩:=trodAll_cons hA
  obtain ⟨rfl,rfl,rfl⟩:=trodAll_nil r0
  obtain rfl:args=#[v0]:=by cases args; simp_all
  obtain ⟨c0,y0,a0⟩:=aAn td50 aWs (hval 0 50 v0 rfl rfl) h0 (fY (i:=0) hsz (by rw[Tryz.params4]; rfl) rfl)
  obtain ⟨l,rfl,_,hl⟩:=ty_evs y0
  refine(aHl l hl (fun _=>False) W [v0] (fun _ h=>h.elim) ⟨rfl,fun i c v hc hv=>?_⟩).mono fun e W' ⟨v,r,he,hr,hE,hv⟩=>?_
  · match i,hc,hv with
    | 0,hc,hv=>cases hc; cases hv; exact a0
  · subst hr
    cases hv
    exact⟨_,he,nI (t:=4) hW' (iY hE) laid (by rw[Tryz.params4]; decide +kernel) rfl (fun _=>rfl) (by kernel_rfl) (by kernel_rfl) Tryz.underlying4⟩
set_option maxRecDepth 100000 in
theorem aBl (os:Os) (started:os.Started) (H:Type) (enc:TypeId×Value→H) (F:Stop.Interp) :
    ReturnsInHanded {} Tryz.checked os 4 .any (Rows.stateGoesSpec.pre6 enc Tryz.prog Tryz.f4 Rows.stateGoesRow.domain false) (Rows.stateGoesSpec.post enc Tryz.prog Tryz.f4 false true false false):=by
  refine returnsInHanded_of_change_sized (C:=Tryz.checked) (s:=Rows.stateGoesSpec) own started (by kernel_rfl) Tryz.func4
    (ChangeSpec.witness6 (enc:=enc) (C:=Tryz.checked) (s:=Rows.stateGoesSpec) false ⟨#[],#[.slice none 0 0],[]⟩ 8 (by kernel_rfl) (by kernel_rfl) (by kernel_rfl) (by kernel_rfl)) ?_
  intro W base args ds gs before hval hW _ hsz _
  exact yY H enc W base args ds gs before hval hW hsz
theorem stateGoes_proved:Rows.StateGoesSaid :=
  OpenClaim.holds_of_wide 4 Tryz.f4 rfl rfl rfl rfl rfl rfl rfl ⟨rfl,rfl,rfl,rfl,rfl⟩ rfl rfl rfl rfl rfl (by kernel_rfl) Tryz.func4 (by kernel_rfl)
    (of_decide_eq_true (by kernel_rfl)) (by unfold Func.isWrapper; first | (rw[if_pos (by decide +kernel)]; kernel_rfl) | (rw[if_neg (by decide +kernel)]; exact⟨rfl,rfl⟩))
    (fun os started H enc _=>aBl os started H enc default)
end Go.Proofs.YtckjaledibkghaaGreat
