/-
  The law FoldSees: whatever the events and the two users, the call returns true, and all read behind it as they read before. No condition beyond the row's own.
-/
import Derived.Test.YtijnkglkchhomaaGreatRows
import Derived.WalkKit
import Derived.ProofKit
import Derived.OpenShut
import Derived.JoinedCond
import Derived.SizedLaws
import Derived.Test.YtijnkglkchhomaaGreatKC1
import Derived.Test.YtijnkglkchhomaaGreatKC2
import Derived.Test.YtijnkglkchhomaaGreatKC3
import Derived.Test.YtijnkglkchhomaaGreatKC4
import Derived.Test.YtijnkglkchhomaaGreatKC5
import Derived.Test.YtijnkglkchhomaaGreatKC6
set_option maxRecDepth 20000
set_option maxHeartbeats 16000000
set_option linter.unusedVariables false
set_option linter.unusedSimpArgs false
namespace Go.Proofs.YtijnkglkchhomaaGreat
open Go Go.Abs
theorem aGa (l:List Ev) (ht:∀ e∈l,TS e.user∧TS e.other) (w u:ByteArray) :Den Tryz.prog 9 [.sl 6 (l.map evC),.s (.string w),.s (.string u)]  (·=.s (.bool true)):=by
 refine aS Tryz.func9 rfl (Nat.le_of_ble_eq_true rfl) (fun w0 A hf=>(aC (fun K1 hK1=>(aB (aE aA 1 rfl (aD (hK1 _ (aC (fun K2 hK2=>(aC (fun K3 hK3=>(aB (aE aA 3 rfl (aD (hK3 _ (aI rfl (fun hc1=>?_) (fun hc1=>?_)))))))))))))))))
 ·
  simp only[bs] at hc1
  refine aC (fun K4 hK4=>(aB (aK hf rfl (aR rfl rfl aDh rfl (zB)) (aE aA 1 rfl (aD (hK4 _ (aJ ?_)))))))
  refine⟨_,rfl,?_⟩
  rfl
 ·
  simp only[bs] at hc1
  have hz0:SzS 140737488351232 cU:=xL _
  have hl40:l.length≤40:=by omega
  have hl60:l.length≤60:=by omega
  have hF0:dF cU (eH cU l)=(dF cU l):=(vL l cU).1
  have hT0:∀ x∈cC cU (eH cU l),x=0:=(vL l cU).2.1
  have hzF:SzS 140737488353280 (dF cU l):=(aR4 l hz0 jG).mono (by omega)
  have hRF:RightP (dF cU l):=aCn l jG
  have hlT:=tW l cU
  have hn0:=hRF.n0
  have hn1:=hRF.n1
  have hzb:=hzF.b
  have hse:=aP2 (k:=(eH cU l)) (p:=(w,u)) hT0
  rw[hF0] at hse
  have hho:(dF cU l).hor=aMp (eH cU l):=by have:=aI0 (eH cU l) (s:=cU) hT0; rw[hF0] at this; exact this
  have hpl:=aH5 (dF cU l).sub (w,u)
  refine aL (hK2 _ (aC (fun K5 hK5=>(aB (bQ hf rfl rfl rfl cK (aD (hK5 _ (aC (fun K6 hK6=>(aFb (aPu 7 (bU cU) rfl fW) (eY bN ?_)))))))))))
  refine bR (listed':=#[false,true,false,false,false,false,false,false,false,false]) 1 rfl (by kernel_rfl) (by kernel_rfl) (by kernel_rfl) rfl (fun _ _ h=>h) (dO rfl) ?_
  refine bC 0 #[true,true,true,true,true,true,true,true,true,true] ⟨47,[(0,.sl 6 (l.map evC)),(1,.s (.string w)),(2,.s (.string u)),(8,.ref 8 0 0 0)],[(8,.box (bU (dF cU l))),(7,.box (bU cU))]⟩ ?_ (fun hD0=>?_)
  ·
   refine bW (by kernel_rfl) ?_
   refine hK6 _ (aC (fun K7 hK7=>(aB (aF rfl (bO rfl dA jS (l3 rfl) rfl) (aQ (iS fW) (aE aA 1 rfl (aK hf rfl (aR rfl rfl aN3 rfl (aFv cU l hz0 jG hl60 ht)) (aE aA 1 rfl (aD (hK7 _ (aC (fun K8 hK8=>(eQ hf bN (by kernel_rfl) rfl (cA [] rfl rfl trivial rfl (aR rfl rfl aDh rfl (zB)) ?_))))))))))))))
   refine bL aA 5 rfl (bY [(29,_),(30,_)] rfl rfl ⟨⟨rfl,rfl⟩,⟨rfl,rfl⟩,trivial⟩ rfl (bO rfl gU lW (l3 rfl) rfl) (cA [(28,_),(31,_)] rfl rfl ⟨⟨rfl,rfl⟩,⟨rfl,rfl⟩,trivial⟩ rfl (aR rfl rfl aNy rfl (aH6 (dF cU l).sub (w,u) (by omega))) (cA [(32,_)] rfl rfl ⟨⟨rfl,rfl⟩,trivial⟩ rfl (aR rfl rfl aNz rfl (aRp (qV (dF cU l).sub (w,u)) (by omega))) (bL aA 3 rfl (cA [(34,_),(35,_),(36,_)] rfl rfl ⟨⟨rfl,rfl⟩,⟨rfl,rfl⟩,⟨rfl,rfl⟩,trivial⟩ rfl (aR rfl rfl aNx rfl ((show Den Tryz.prog _ _ (·=.sl 2 ((qV (dF cU l).sub (w,u)).map spC)) from iM (xP (eH cU l) w u (by omega)) (by rw[hse])))) ?_)))))
   refine cA [(33,_),(37,_)] rfl rfl ⟨⟨rfl,rfl⟩,⟨rfl,rfl⟩,trivial⟩ rfl (aR rfl rfl aN0 rfl (aFw (qV (dF cU l).sub (w,u)) _ rfl (by omega))) (bL aA 5 rfl (cA [(43,_)] rfl rfl ⟨⟨rfl,rfl⟩,trivial⟩ rfl (aR rfl rfl aNw rfl (xQ (eH cU l) (by omega))) (bY [(42,_),(44,_)] rfl rfl ⟨⟨rfl,rfl⟩,⟨rfl,rfl⟩,trivial⟩ rfl (dB rfl rfl (hY (hho))) (bL aA 2 rfl (gE [6] rfl rfl rfl (hK8 _ (aJ ?_)))))))
   refine⟨_,rfl,?_⟩
   rfl
  refine bC 1 #[true,true,true,true,true,true,true,true,true,false] ⟨47,[(0,.sl 6 (l.map evC)),(1,.s (.string w)),(2,.s (.string u)),(8,.ref 8 0 0 0),(21,.sl 1 (dX (cC cU l)))],[(8,.box (bU (dF cU l))),(7,.box (bU cU))]⟩ ?_ (fun hD1=>?_)
  ·
   refine aH 9 [] (by kernel_rfl) ⟨?_,trivial⟩
   ·
    refine⟨_,rfl,rfl,(ao rfl (aE aA 1 rfl (aG (ag hD0 rfl rfl rfl))))⟩
  refine bC 2 #[true,true,true,true,true,true,true,true,false,false] ⟨47,[(0,.sl 6 (l.map evC)),(1,.s (.string w)),(2,.s (.string u)),(8,.ref 8 0 0 0),(20,.agg (bU (dF cU l))),(21,.sl 1 (dX (cC cU l)))],[(8,.box [.s (.int .i64 0),.s (.int .i64 0),.s (.slice none 0 0),.s (.slice none 0 0),.s (.slice none 0 0),.s (.slice none 0 0)]),(7,.box (bU cU))]⟩ ?_ (fun hD2=>?_)
  ·
   refine aH 8 [] (by kernel_rfl) ⟨?_,trivial⟩
   ·
    refine⟨_,rfl,rfl,(ao rfl (aP hf rfl rfl cW rfl rfl (l1 rfl) (l4 rfl) rfl (aG (ag hD1 rfl rfl rfl))))⟩
  refine bC 2 #[true,true,true,true,true,true,false,true,true,false] ⟨47,[(0,.sl 6 (l.map evC)),(1,.s (.string w)),(2,.s (.string u)),(8,.ref 8 0 0 0),(15,.tup [.agg (bU (dF cU l)),.sl 1 (dX (cC cU l))])],[(8,.box (bU (dF cU l))),(7,.box (bU cU))]⟩ ?_ (fun hD3=>?_)
  ·
   refine aH 6 [] (by kernel_rfl) ⟨?_,trivial⟩
   ·
    refine⟨_,rfl,rfl,(ao rfl (aE aA 1 rfl (aG (ag hD1 rfl rfl rfl))))⟩
  refine bC 3 #[true,true,true,true,true,true,true,false,false,false] ⟨47,[(0,.sl 6 (l.map evC)),(1,.s (.string w)),(2,.s (.string u)),(20,.agg (bU (dF cU l))),(21,.sl 1 (dX (cC cU l)))],[(7,.box (bU cU))]⟩ ?_ (fun hD4=>?_)
  ·
   refine aH 7 [] (by kernel_rfl) ⟨?_,trivial⟩
   ·
    refine⟨_,rfl,rfl,(ao rfl (bQ hf rfl rfl rfl cK (aG (ag hD2 rfl rfl rfl))))⟩
  refine bC 3 #[true,true,true,true,true,true,false,true,false,false] ⟨47,[(0,.sl 6 (l.map evC)),(1,.s (.string w)),(2,.s (.string u)),(8,.ref 8 0 0 0),(15,.tup [.agg (bU (dF cU l)),.sl 1 (dX (cC cU l))]),(20,.agg (bU (dF cU l)))],[(8,.box [.s (.int .i64 0),.s (.int .i64 0),.s (.slice none 0 0),.s (.slice none 0 0),.s (.slice none 0 0),.s (.slice none 0 0)]),(7,.box (bU cU))]⟩ ?_ (fun hD5=>?_)
  ·
   refine aH 6 [8] (by kernel_rfl) ⟨?_,?_,trivial⟩
   ·
    refine⟨_,rfl,rfl,(ao rfl (aE aA 1 rfl (aG (ag hD2 rfl rfl rfl))))⟩
   ·
    refine⟨_,rfl,rfl,(ao rfl (aP hf rfl rfl cW rfl rfl (l1 rfl) (l4 rfl) rfl (aG (ag hD3 rfl rfl rfl))))⟩
  refine bC 3 #[true,true,true,true,true,false,true,true,false,false] ⟨47,[(0,.sl 6 (l.map evC)),(1,.s (.string w)),(2,.s (.string u)),(8,.ref 8 0 0 0),(15,.tup [.agg (bU (dF cU l)),.sl 1 (dX (cC cU l))]),(21,.sl 1 (dX (cC cU l)))],[(8,.box [.s (.int .i64 0),.s (.int .i64 0),.s (.slice none 0 0),.s (.slice none 0 0),.s (.slice none 0 0),.s (.slice none 0 0)]),(7,.box (bU cU))]⟩ ?_ (fun hD6=>?_)
  ·
   refine aH 5 [] (by kernel_rfl) ⟨?_,trivial⟩
   ·
    refine⟨_,rfl,rfl,(ao rfl (aE aA 1 rfl (aG (ag hD2 rfl rfl rfl))))⟩
  refine bC 4 #[true,true,true,true,true,true,false,false,false,false] ⟨47,[(0,.sl 6 (l.map evC)),(1,.s (.string w)),(2,.s (.string u)),(15,.tup [.agg (bU (dF cU l)),.sl 1 (dX (cC cU l))]),(20,.agg (bU (dF cU l)))],[(7,.box (bU cU))]⟩ ?_ (fun hD7=>?_)
  ·
   refine aH 6 [7] (by kernel_rfl) ⟨?_,?_,trivial⟩
   ·
    refine⟨_,rfl,rfl,(ao rfl (aE aA 1 rfl (aG (ag hD4 rfl rfl rfl))))⟩
   ·
    refine⟨_,rfl,rfl,(ao rfl (bQ hf rfl rfl rfl cK (aG (ag hD5 rfl rfl rfl))))⟩
  refine bC 4 #[true,true,true,true,true,false,true,false,false,false] ⟨47,[(0,.sl 6 (l.map evC)),(1,.s (.string w)),(2,.s (.string u)),(15,.tup [.agg (bU (dF cU l)),.sl 1 (dX (cC cU l))]),(21,.sl 1 (dX (cC cU l)))],[(7,.box (bU cU))]⟩ ?_ (fun hD8=>?_)
  ·
   refine aH 5 [7] (by kernel_rfl) ⟨?_,?_,trivial⟩
   ·
    refine⟨_,rfl,rfl,(ao rfl (aE aA 1 rfl (aG (ag hD4 rfl rfl rfl))))⟩
   ·
    refine⟨_,rfl,rfl,(ao rfl (bQ hf rfl rfl rfl cK (aG (ag hD6 rfl rfl rfl))))⟩
  refine bC 4 #[true,true,true,true,true,false,false,true,false,false] ⟨47,[(0,.sl 6 (l.map evC)),(1,.s (.string w)),(2,.s (.string u)),(8,.ref 8 0 0 0),(15,.tup [.agg (bU (dF cU l)),.sl 1 (dX (cC cU l))])],[(8,.box [.s (.int .i64 0),.s (.int .i64 0),.s (.slice none 0 0),.s (.slice none 0 0),.s (.slice none 0 0),.s (.slice none 0 0)]),(7,.box (bU cU))]⟩ ?_ (fun hD9=>?_)
  ·
   refine aH 5 [6] (by kernel_rfl) ⟨?_,?_,trivial⟩
   ·
    refine⟨_,rfl,rfl,(ao rfl (aE aA 1 rfl (aG (ag hD5 rfl rfl rfl))))⟩
   ·
    refine⟨_,rfl,rfl,(ao rfl (aE aA 1 rfl (aG (ag hD6 rfl rfl rfl))))⟩
  refine bC 5 #[true,true,true,true,true,false,false,false,false,false] ⟨47,[(0,.sl 6 (l.map evC)),(1,.s (.string w)),(2,.s (.string u)),(15,.tup [.agg (bU (dF cU l)),.sl 1 (dX (cC cU l))])],[(7,.box (bU cU))]⟩ ?_ (fun hD10=>?_)
  ·
   refine aH 5 [6,7] (by kernel_rfl) ⟨?_,?_,?_,trivial⟩
   ·
    refine⟨_,rfl,rfl,(ao rfl (aE aA 1 rfl (aG (ag hD7 rfl rfl rfl))))⟩
   ·
    refine⟨_,rfl,rfl,(ao rfl (aE aA 1 rfl (aG (ag hD8 rfl rfl rfl))))⟩
   ·
    refine⟨_,rfl,rfl,(ao rfl (bQ hf rfl rfl rfl cK (aG (ag hD9 rfl rfl rfl))))⟩
  refine bC 5 #[true,true,true,true,false,false,false,true,false,false] ⟨47,[(0,.sl 6 (l.map evC)),(1,.s (.string w)),(2,.s (.string u)),(8,.ref 8 0 0 0),(19,.tup [.agg (bU (dF cU l)),.sl 1 (dX (cC cU l))])],[(8,.box [.s (.int .i64 0),.s (.int .i64 0),.s (.slice none 0 0),.s (.slice none 0 0),.s (.slice none 0 0),.s (.slice none 0 0)]),(7,.box (bU cU))]⟩ ?_ (fun hD11=>?_)
  ·
   refine aH 4 [] (by kernel_rfl) ⟨?_,trivial⟩
   ·
    refine⟨_,rfl,rfl,(ao rfl (aE aA 1 rfl (aG (ag hD9 rfl rfl rfl))))⟩
  refine bC 6 #[true,true,true,true,false,false,false,false,false,false] ⟨47,[(0,.sl 6 (l.map evC)),(1,.s (.string w)),(2,.s (.string u)),(19,.tup [.agg (bU (dF cU l)),.sl 1 (dX (cC cU l))])],[(7,.box (bU cU))]⟩ ?_ (fun hD12=>?_)
  ·
   refine aH 4 [7] (by kernel_rfl) ⟨?_,?_,trivial⟩
   ·
    refine⟨_,rfl,rfl,(ao rfl (aE aA 1 rfl (aG (ag hD10 rfl rfl rfl))))⟩
   ·
    refine⟨_,rfl,rfl,(ao rfl (bQ hf rfl rfl rfl cK (aG (ag hD11 rfl rfl rfl))))⟩
  refine bC 6 #[true,true,true,false,false,false,false,true,false,false] ⟨47,[(0,.sl 6 (l.map evC)),(1,.s (.string w)),(2,.s (.string u)),(8,.ref 8 0 0 0),(16,.agg (bU cU)),(18,.sl 6 (l.map evC))],[(8,.box [.s (.int .i64 0),.s (.int .i64 0),.s (.slice none 0 0),.s (.slice none 0 0),.s (.slice none 0 0),.s (.slice none 0 0)]),(7,.box (bU cU))]⟩ ?_ (fun hD13=>?_)
  ·
   refine aH 3 [] (by kernel_rfl) ⟨?_,trivial⟩
   ·
    refine⟨_,rfl,rfl,(ao rfl (aK hf rfl (aR rfl rfl sD rfl (wT cU l hz0 jG hl60 ht)) (aG (ag hD11 rfl rfl rfl))))⟩
  refine bC 7 #[true,true,true,false,false,false,false,false,false,false] ⟨47,[(0,.sl 6 (l.map evC)),(1,.s (.string w)),(2,.s (.string u)),(16,.agg (bU cU)),(18,.sl 6 (l.map evC))],[(7,.box (bU cU))]⟩ ?_ (fun hD14=>?_)
  ·
   refine aH 3 [7] (by kernel_rfl) ⟨?_,?_,trivial⟩
   ·
    refine⟨_,rfl,rfl,(ao rfl (aK hf rfl (aR rfl rfl sD rfl (wT cU l hz0 jG hl60 ht)) (aG (ag hD12 rfl rfl rfl))))⟩
   ·
    refine⟨_,rfl,rfl,(ao rfl (bQ hf rfl rfl rfl cK (aG (ag hD13 rfl rfl rfl))))⟩
  refine bC 7 #[true,true,false,false,false,false,false,true,false,false] ⟨47,[(0,.sl 6 (l.map evC)),(1,.s (.string w)),(2,.s (.string u)),(8,.ref 8 0 0 0),(16,.agg (bU cU)),(17,.sl 6 (l.map evC))],[(8,.box [.s (.int .i64 0),.s (.int .i64 0),.s (.slice none 0 0),.s (.slice none 0 0),.s (.slice none 0 0),.s (.slice none 0 0)]),(7,.box (bU cU))]⟩ ?_ (fun hD15=>?_)
  ·
   refine aH 2 [] (by kernel_rfl) ⟨?_,trivial⟩
   ·
    refine⟨_,rfl,rfl,(ao rfl (aK hf rfl (aR rfl rfl sE rfl (uF _ (by omega))) (aG (ag hD13 rfl rfl rfl))))⟩
  refine bC 7 #[false,true,true,false,false,false,false,true,false,false] ⟨47,[(0,.sl 6 (l.map evC)),(1,.s (.string w)),(2,.s (.string u)),(7,.ref 7 0 0 0),(8,.ref 8 0 0 0),(18,.sl 6 (l.map evC))],[(8,.box [.s (.int .i64 0),.s (.int .i64 0),.s (.slice none 0 0),.s (.slice none 0 0),.s (.slice none 0 0),.s (.slice none 0 0)]),(7,.box (bU cU))]⟩ ?_ (fun hD16=>?_)
  ·
   refine aH 0 [] (by kernel_rfl) ⟨?_,trivial⟩
   ·
    refine⟨_,rfl,rfl,(ao rfl (aE aA 1 rfl (aG (ag hD13 rfl rfl rfl))))⟩
  refine bC 8 #[true,true,false,false,false,false,false,false,false,false] ⟨47,[(0,.sl 6 (l.map evC)),(1,.s (.string w)),(2,.s (.string u)),(16,.agg (bU cU)),(17,.sl 6 (l.map evC))],[(7,.box (bU cU))]⟩ ?_ (fun hD17=>?_)
  ·
   refine aH 2 [7] (by kernel_rfl) ⟨?_,?_,trivial⟩
   ·
    refine⟨_,rfl,rfl,(ao rfl (aK hf rfl (aR rfl rfl sE rfl (uF _ (by omega))) (aG (ag hD14 rfl rfl rfl))))⟩
   ·
    refine⟨_,rfl,rfl,(ao rfl (bQ hf rfl rfl rfl cK (aG (ag hD15 rfl rfl rfl))))⟩
  refine bC 8 #[false,true,true,false,false,false,false,false,false,false] ⟨47,[(0,.sl 6 (l.map evC)),(1,.s (.string w)),(2,.s (.string u)),(7,.ref 7 0 0 0),(18,.sl 6 (l.map evC))],[(7,.box (bU cU))]⟩ ?_ (fun hD18=>?_)
  ·
   refine aH 0 [7] (by kernel_rfl) ⟨?_,?_,trivial⟩
   ·
    refine⟨_,rfl,rfl,(ao rfl (aE aA 1 rfl (aG (ag hD14 rfl rfl rfl))))⟩
   ·
    refine⟨_,rfl,rfl,(ao rfl (bQ hf rfl rfl rfl cK (aG (ag hD16 rfl rfl rfl))))⟩
  refine bC 8 #[false,true,false,false,false,false,false,true,false,false] ⟨47,[(0,.sl 6 (l.map evC)),(1,.s (.string w)),(2,.s (.string u)),(7,.ref 7 0 0 0),(8,.ref 8 0 0 0),(17,.sl 6 (l.map evC))],[(8,.box [.s (.int .i64 0),.s (.int .i64 0),.s (.slice none 0 0),.s (.slice none 0 0),.s (.slice none 0 0),.s (.slice none 0 0)]),(7,.box (bU cU))]⟩ ?_ (fun hD19=>?_)
  ·
   refine aH 0 [2] (by kernel_rfl) ⟨?_,?_,trivial⟩
   ·
    refine⟨_,rfl,rfl,(ao rfl (aE aA 1 rfl (aG (ag hD15 rfl rfl rfl))))⟩
   ·
    refine⟨_,rfl,rfl,(ao rfl (aK hf rfl (aR rfl rfl sE rfl (uF _ (by omega))) (aG (ag hD16 rfl rfl rfl))))⟩
  refine lD (aCc (sl':=[(0,.sl 6 (l.map evC)),(1,.s (.string w)),(2,.s (.string u)),(7,.ref 7 0 0 0),(17,.sl 6 (l.map evC))]) (m':=[(7,.box (bU cU))]) rfl rfl rfl) (aH 0 [2,7] (by kernel_rfl) ⟨?_,?_,?_,trivial⟩)
  ·
   refine⟨_,rfl,rfl,(ao rfl (aE aA 1 rfl (aG (ag hD17 rfl rfl rfl))))⟩
  ·
   refine⟨_,rfl,rfl,(ao rfl (aK hf rfl (aR rfl rfl sE rfl (uF _ (by omega))) (aG (ag hD18 rfl rfl rfl))))⟩
  ·
   refine⟨_,rfl,rfl,(ao rfl (bQ hf rfl rfl rfl cK (aG (ag hD19 rfl rfl rfl))))⟩
end Go.Proofs.YtijnkglkchhomaaGreat
namespace Go.Proofs.YtijnkglkchhomaaGreat
open Go.ChangeShapes Go.WideShapes Go.ChangeAt Go.RowKit Go.Abs
set_option linter.unusedVariables false
theorem own:ownKnob Tryz.prog.godebug=none:=by kernel_rfl
theorem laid:laidOutB Tryz.prog=true:=by kernel_rfl
theorem td9:tdOf? Tryz.prog 16 9=some (.str):=by kernel_rfl
theorem td28:tdOf? Tryz.prog 16 28=some (.sl 64 (.agg [.int .i64,.int .i64,.str,.str,.int .i64,.int .i64])):=by kernel_rfl
set_option maxRecDepth 100000 in
theorem wU (H:Type) (enc:TypeId×Value→H) (W:World) (base:Nat) (args:Array Value) (ds gs:List (DataW H)) (before:List MemPlace)
    (hval:∀ (j:Nat) t v,Tryz.f9.params[j]?=some t→args[j]?=some v→Value.okWide Tryz.prog W .any base t v)
    (hW:DataW.Whole enc Tryz.prog Tryz.f9.params.toList Rows.foldSeesSpec.vars false W args.toList ds gs before)
    (hsz:(DataW.weightsEach Tryz.prog (Tryz.f9.params.toList++Rows.foldSeesSpec.plain.varTypes Tryz.prog) (ds++gs)).all (·≤reachBytes)=true) :
    Calls Tryz.prog 9 args W fun e W'=>∃ v,e=.returned v∧Rows.foldSeesSpec.post enc Tryz.prog Tryz.f9 false true false false W args v W':=by
  have hW':=hW
  obtain ⟨p,q,hA0,hV,rfl,hfz,hnd⟩:=hW
  have hA:DataW.TrodAll enc Tryz.prog W 0 (fun _=>true) true Tryz.f9.params.toList args.toList ds p:=hA0
  rw[Tryz.params9] at hA hval
  obtain ⟨v0,vs0,d0,ds0,p0,q0,hargs,rfl,rfl,h0,r0⟩:=trodAll_cons hA
  obtain ⟨v1,vs1,d1,ds1,p1,q1,rfl,rfl,rfl,h1,r1⟩:=trodAll_cons r0
  obtain ⟨v2,vs2,d2,ds2,p2,q2,rfl,rfl,rfl,h2,r2⟩:=trodAll_cons r1
  obtain ⟨rfl,rfl,rfl⟩:=trodAll_nil r2
  obtain rfl:args=#[v0,v1,v2]:=by cases args; simp_all
  obtain ⟨c0,y0,a0⟩:=aFt td28 aSw (hval 0 28 v0 rfl rfl) h0 (xY (i:=0) hsz (by rw[Tryz.params9]; rfl) rfl)
  obtain ⟨l,rfl,_,hl⟩:=ty_evs y0
  obtain ⟨c1,y1,a1⟩:=aFt td9 aGr (hval 1 9 v1 rfl rfl) h1 (xY (i:=1) hsz (by rw[Tryz.params9]; rfl) rfl)
  obtain ⟨w,rfl,hw⟩:=aQ2 y1
  have hwT:TS w:=Nat.le_trans hw (by decide)
  obtain ⟨c2,y2,a2⟩:=aFt td9 aGr (hval 2 9 v2 rfl rfl) h2 (xY (i:=2) hsz (by rw[Tryz.params9]; rfl) rfl)
  obtain ⟨u,rfl,hu⟩:=aQ2 y2
  have huT:TS u:=Nat.le_trans hu (by decide)
  refine(aGa l hl w u (fun _=>False) W [v0,v1,v2] (fun _ h=>h.elim) ⟨rfl,fun i c v hc hv=>?_⟩).mono fun e W' ⟨v,r,he,hr,hE,hv⟩=>?_
  · match i,hc,hv with
    | 0,hc,hv=>cases hc; cases hv; exact a0
    | 1,hc,hv=>cases hc; cases hv; exact a1
    | 2,hc,hv=>cases hc; cases hv; exact a2
  · subst hr
    cases hv
    exact⟨_,he,aPb (t:=4) hW' (aGk hE) laid (by rw[Tryz.params9]; decide +kernel) rfl (fun _=>rfl) (by kernel_rfl) (by kernel_rfl) Tryz.underlying4⟩
set_option maxRecDepth 100000 in
theorem aAg (os:Os) (started:os.Started) (H:Type) (enc:TypeId×Value→H) (F:Stop.Interp) :
    ReturnsInHanded {} Tryz.checked os 9 .any (Rows.foldSeesSpec.pre6 enc Tryz.prog Tryz.f9 Rows.foldSeesRow.domain false) (Rows.foldSeesSpec.post enc Tryz.prog Tryz.f9 false true false false):=by
  refine returnsInHanded_of_change_sized (C:=Tryz.checked) (s:=Rows.foldSeesSpec) own started (by kernel_rfl) Tryz.func9
    (ChangeSpec.witness6 (enc:=enc) (C:=Tryz.checked) (s:=Rows.foldSeesSpec) false ⟨#[],#[.slice none 0 0,.string ⟨#[]⟩,.string ⟨#[]⟩],[]⟩ 8 (by kernel_rfl) (by kernel_rfl) (by kernel_rfl) (by kernel_rfl)) ?_
  intro W base args ds gs before hval hW _ hsz _
  exact wU H enc W base args ds gs before hval hW hsz
theorem aJa:(Rows.foldSeesRow.wf (OpenSpec.ofChange Rows.foldSeesSpec)&&laidOutB Tryz.prog&&mapsRowed Tryz.prog)=true:=by kernel_rfl
theorem aI9:(Rows.foldSeesRow.inPlace == Tryz.prog.inPlace 9)=true:=by kernel_rfl
theorem aI8:(Rows.foldSeesRow.unfollowed == Tryz.prog.unfollowed 9)=true:=by kernel_rfl
theorem aI7:(Rows.foldSeesRow.recurses == Tryz.prog.recurses 9)=true:=by kernel_rfl
theorem aI6:(Rows.foldSeesRow.named == Tryz.prog.varsNamed 9)=true:=by kernel_rfl
theorem aAh:joinedFacts Tryz.prog 9 Tryz.f9 Rows.foldSeesSpec Rows.foldSeesRow=true:=by
  have h0:=aJa
  simp only[Bool.and_eq_true] at h0
  obtain ⟨⟨h5,h6⟩,h7⟩:=h0
  unfold joinedFacts
  repeat (rw[Bool.and_eq_true]; refine And.intro ?_ ?_)
  all_goals with_reducible first | exact aI9 | exact aI8 | exact aI7 | exact aI6 | exact h5 | exact h6 | exact h7 | kernel_rfl
theorem foldSees_proved:Rows.FoldSeesSaid :=
  OpenClaim.holds_of_wide 9 Tryz.f9 rfl rfl rfl rfl rfl rfl rfl ⟨rfl,rfl,rfl,rfl,rfl⟩ rfl rfl rfl rfl rfl (by kernel_rfl) Tryz.func9 aAh
    (of_decide_eq_true (by kernel_rfl)) (by unfold Func.isWrapper; first | (rw[if_pos (by decide +kernel)]; kernel_rfl) | (rw[if_neg (by decide +kernel)]; exact⟨rfl,rfl⟩))
    (fun os started H enc _=>aAg os started H enc default)
end Go.Proofs.YtijnkglkchhomaaGreat
