/-
  The law StatePrunes: whatever the state and the event, the call returns true, and both read behind it as they read before. No condition beyond the row's own.
-/
import Derived.Test.YtckjaledibkghaaGreatRows
import Derived.WalkKit
import Derived.ProofKit
import Derived.OpenShut
import Derived.JoinedCond
import Derived.SizedLaws
import Derived.Test.YtckjaledibkghaaGreatK1
import Derived.Test.YtckjaledibkghaaGreatK2
import Derived.Test.YtckjaledibkghaaGreatK3
import Derived.Test.YtckjaledibkghaaGreatK4
import Derived.Test.YtckjaledibkghaaGreatK5
import Derived.Test.YtckjaledibkghaaGreatK6
set_option maxRecDepth 20000
set_option maxHeartbeats 16000000
set_option linter.unusedVariables false
set_option linter.unusedSimpArgs false
namespace Go.Proofs.YtckjaledibkghaaGreat
open Go Go.Abs
end Go.Proofs.YtckjaledibkghaaGreat
set_option linter.unusedVariables false
set_option linter.unusedSimpArgs false
namespace Go.Proofs.YtckjaledibkghaaGreat
open Go Go.Abs
theorem aDz (s:Sta) (hz:SzS 140737488351232 s) (ts:TsS s) (e:Ev) (hu:TS e.user) (ho:TS e.other) :Den Tryz.prog 11 [.agg (aO s),.agg (evC e)]  (·=.s (.bool true)):=by
 have hzM:SzS 140737488352000 s:=hz.mono (by omega)
 refine aS Tryz.func11 rfl (Nat.le_of_ble_eq_true rfl) (fun w0 A hf=>(aC (fun K1 hK1=>(aB (aJ hf rfl (cI rfl rfl (lf rfl)) (aJ hf rfl (cI rfl rfl (lf rfl)) (aE aA 1 rfl (aD (hK1 _ (aC (fun K2 hK2=>(aC (fun K3 hK3=>(aB (aE aA 1 rfl (aJ hf rfl (aK rfl rfl lV rfl (lJ s hzM)) ?_))))))))))))))))
 refine aE aA 2 rfl (aW rfl rfl rfl (fun hg1=>?_) (fun hg1=>?_))
 ·
  simp only[bs] at hg1
  refine aG rfl (sL rfl dJ cG rfl rfl) ?_
  refine bI rfl rfl rfl (aJ hf rfl (aK rfl rfl nF rfl (jH s (hz.mono (by omega)) ts)) (aE aA 2 rfl (aD (hK3 _ (aL rfl (fun hc2=>?_) (fun hc2=>?_))))))
  ·
   simp only[bs] at hc2
   refine aC (fun K4 hK4=>(aB (aJ hf rfl (aK rfl rfl dB rfl (cV)) (aE aA 1 rfl (aD (hK4 _ (aI ?_)))))))
   refine⟨_,rfl,?_⟩
   rfl
  ·
   simp only[bs] at hc2
   refine aM (hK2 _ (aC (fun K5 hK5=>(aB ?_))))
   have hR:RightP s:=gZ.1 (by simp_all)
   have hzA:SzS 140737488352000 (aR s e).1:=xU hz hR.usr (by omega)
   have hRA:RightP (aR s e).1:=oP hR e
   have hol:=qL hR
   have hRP:=aCm hR
   have holP:=qL hRP
   have hzR:SzS 140737488352000 (dI s):=aJ7 hz hR.usr (by omega)
   have hzP:SzS 140737488352000 (cF s):=uN hzM
   have hzB:SzS 140737488352000 (aR (cF s) e).1:=xU (uN hz) hRP.usr (by omega)
   have hzRP:SzS 140737488352000 (dI (cF s)):=aJ7 (uN hz) hRP.usr (by omega)
   obtain ⟨pa1,pa2⟩:=aMj (e:=e) hR
   refine aE aA 1 rfl (aJ hf rfl (aK rfl rfl gF rfl (aAv _ (by assumption))) (bV hf rfl bA rfl cC rfl rfl rfl rfl (lf rfl) (aD (hK5 _ (aC (fun K6 hK6=>(aB (aE aA 2 rfl (aJ hf rfl (aK rfl rfl gR rfl (wO s e hzM hR hu ho)) (aE aA 3 rfl (bV hf rfl bA rfl cC rfl rfl rfl rfl (lf rfl) (aE aA 1 rfl (aD ?_)))))))))))))
   refine hK6 _ (aC (fun K7 hK7=>(dY bE ?_)))
   refine aN 0 #[true,true,true,true,true,true,true,true,true,true] ⟨59,[(5,.adr (aO s)),(6,.adr (aO (aR s e).1)),(7,.s (.int .i64 (aR s e).2)),(8,.ref 8 0 0 0),(9,.s (.int .i64 (aR (cF s) e).2))],[(8,.box (aO (aR (cF s) e).1))]⟩ ?_ (fun hD0=>?_)
   ·
    refine dF (by kernel_rfl) ?_
    refine hK7 _ (aC (fun K8 hK8=>(cM hf bE (by kernel_rfl) rfl (aT aA 1 rfl (aZ [(35,_)] rfl rfl ⟨⟨rfl,rfl⟩,trivial⟩ rfl (aK rfl rfl gQ rfl (rE s hzM hR)) (aZ [(36,_)] rfl rfl ⟨⟨rfl,rfl⟩,trivial⟩ rfl (aK rfl rfl fW rfl (oH (dI s) hzR)) (aT aA 1 rfl (aZ [(38,_)] rfl rfl ⟨⟨rfl,rfl⟩,trivial⟩ rfl (aK rfl rfl fW rfl (oH s hzM)) (aZ [(39,_)] rfl rfl ⟨⟨rfl,rfl⟩,trivial⟩ rfl (aK rfl rfl gQ rfl (rE (cF s) hzP hRP)) (aZ [(40,_)] rfl rfl ⟨⟨rfl,rfl⟩,trivial⟩ rfl (aK rfl rfl fW rfl (oH (dI (cF s)) hzRP)) ?_))))))))))
    refine aZ [(37,_),(41,_)] rfl rfl ⟨⟨rfl,rfl⟩,⟨rfl,rfl⟩,trivial⟩ rfl (aK rfl rfl lU rfl (qQ (cF (dI s)) (cF (dI (cF s))) (aBt hR).symm ((uN hzR).mono (by omega)))) (aT aA 1 rfl (cP [6,7,8,9,10] rfl rfl rfl (hK8 _ (aC (fun K9 hK9=>(cM hf bE (by kernel_rfl) rfl (aZ [] rfl rfl trivial rfl (aK rfl rfl dB rfl (cV)) (aT aA 3 rfl (bL [(45,_),(46,_)] rfl rfl ⟨⟨rfl,rfl⟩,⟨rfl,rfl⟩,trivial⟩ rfl (cU rfl rfl (gK (pa1.symm))) (aT aA 3 rfl ?_))))))))))
    refine aZ [(50,_)] rfl rfl ⟨⟨rfl,rfl⟩,trivial⟩ rfl (aK rfl rfl fW rfl (oH (aR s e).1 hzA)) (aT aA 1 rfl (aZ [(52,_)] rfl rfl ⟨⟨rfl,rfl⟩,trivial⟩ rfl (aK rfl rfl fW rfl (oH (aR (cF s) e).1 hzB)) (aZ [(51,_),(53,_)] rfl rfl ⟨⟨rfl,rfl⟩,⟨rfl,rfl⟩,trivial⟩ rfl (aK rfl rfl lU rfl (qQ (cF (aR s e).1) (cF (aR (cF s) e).1) pa2.symm ((uN hzA).mono (by omega)))) (aT aA 5 rfl (cP [4] rfl rfl rfl (hK9 _ (aI ?_)))))))
    refine⟨_,rfl,?_⟩
    rfl
   refine aN 1 #[true,true,true,true,true,true,true,true,true,false] ⟨59,[(5,.adr (aO s)),(6,.adr (aO (aR s e).1)),(7,.s (.int .i64 (aR s e).2)),(8,.ref 8 0 0 0),(34,.s (.int .i64 (aR (cF s) e).2))],[(8,.box (aO (aR (cF s) e).1))]⟩ ?_ (fun hD1=>?_)
   ·
    refine aH 9 [] (by kernel_rfl) ⟨?_,trivial⟩
    ·
     refine⟨_,rfl,rfl,(ao rfl (aE aA 1 rfl (aF (ag hD0 rfl rfl rfl))))⟩
   refine aN 2 #[true,true,true,true,true,true,true,true,false,false] ⟨59,[(5,.adr (aO s)),(6,.adr (aO (aR s e).1)),(7,.s (.int .i64 (aR s e).2)),(8,.ref 8 0 0 0),(33,.agg (aO (aR (cF s) e).1)),(34,.s (.int .i64 (aR (cF s) e).2))],[(8,.box [.s (.int .i64 0),.s (.int .i64 0),.s (.slice none 0 0),.s (.slice none 0 0),.s (.slice none 0 0),.s (.slice none 0 0)])]⟩ ?_ (fun hD2=>?_)
   ·
    refine aH 8 [] (by kernel_rfl) ⟨?_,trivial⟩
    ·
     refine⟨_,rfl,rfl,(ao rfl (aU hf rfl rfl cC rfl rfl (l1 rfl) (l4 rfl) rfl (aF (ag hD1 rfl rfl rfl))))⟩
   refine aN 2 #[true,true,true,true,true,true,false,true,true,false] ⟨59,[(5,.adr (aO s)),(6,.adr (aO (aR s e).1)),(7,.s (.int .i64 (aR s e).2)),(8,.ref 8 0 0 0),(28,.tup [.agg (aO (aR (cF s) e).1),.s (.int .i64 (aR (cF s) e).2)])],[(8,.box (aO (aR (cF s) e).1))]⟩ ?_ (fun hD3=>?_)
   ·
    refine aH 6 [] (by kernel_rfl) ⟨?_,trivial⟩
    ·
     refine⟨_,rfl,rfl,(ao rfl (aE aA 1 rfl (aF (ag hD1 rfl rfl rfl))))⟩
   refine aN 3 #[true,true,true,true,true,true,true,false,false,false] ⟨59,[(5,.adr (aO s)),(6,.adr (aO (aR s e).1)),(7,.s (.int .i64 (aR s e).2)),(33,.agg (aO (aR (cF s) e).1)),(34,.s (.int .i64 (aR (cF s) e).2))],[]⟩ ?_ (fun hD4=>?_)
   ·
    refine aH 7 [] (by kernel_rfl) ⟨?_,trivial⟩
    ·
     refine⟨_,rfl,rfl,(ao rfl (aX hf rfl rfl rfl bA (aF (ag hD2 rfl rfl rfl))))⟩
   refine aN 3 #[true,true,true,true,true,true,false,true,false,false] ⟨59,[(5,.adr (aO s)),(6,.adr (aO (aR s e).1)),(7,.s (.int .i64 (aR s e).2)),(8,.ref 8 0 0 0),(28,.tup [.agg (aO (aR (cF s) e).1),.s (.int .i64 (aR (cF s) e).2)]),(33,.agg (aO (aR (cF s) e).1))],[(8,.box [.s (.int .i64 0),.s (.int .i64 0),.s (.slice none 0 0),.s (.slice none 0 0),.s (.slice none 0 0),.s (.slice none 0 0)])]⟩ ?_ (fun hD5=>?_)
   ·
    refine aH 6 [8] (by kernel_rfl) ⟨?_,?_,trivial⟩
    ·
     refine⟨_,rfl,rfl,(ao rfl (aE aA 1 rfl (aF (ag hD2 rfl rfl rfl))))⟩
    ·
     refine⟨_,rfl,rfl,(ao rfl (aU hf rfl rfl cC rfl rfl (l1 rfl) (l4 rfl) rfl (aF (ag hD3 rfl rfl rfl))))⟩
   refine aN 3 #[true,true,true,true,true,false,true,true,false,false] ⟨59,[(5,.adr (aO s)),(6,.adr (aO (aR s e).1)),(7,.s (.int .i64 (aR s e).2)),(8,.ref 8 0 0 0),(28,.tup [.agg (aO (aR (cF s) e).1),.s (.int .i64 (aR (cF s) e).2)]),(34,.s (.int .i64 (aR (cF s) e).2))],[(8,.box [.s (.int .i64 0),.s (.int .i64 0),.s (.slice none 0 0),.s (.slice none 0 0),.s (.slice none 0 0),.s (.slice none 0 0)])]⟩ ?_ (fun hD6=>?_)
   ·
    refine aH 5 [] (by kernel_rfl) ⟨?_,trivial⟩
    ·
     refine⟨_,rfl,rfl,(ao rfl (aE aA 1 rfl (aF (ag hD2 rfl rfl rfl))))⟩
   refine aN 4 #[true,true,true,true,true,true,false,false,false,false] ⟨59,[(5,.adr (aO s)),(6,.adr (aO (aR s e).1)),(7,.s (.int .i64 (aR s e).2)),(28,.tup [.agg (aO (aR (cF s) e).1),.s (.int .i64 (aR (cF s) e).2)]),(33,.agg (aO (aR (cF s) e).1))],[]⟩ ?_ (fun hD7=>?_)
   ·
    refine aH 6 [7] (by kernel_rfl) ⟨?_,?_,trivial⟩
    ·
     refine⟨_,rfl,rfl,(ao rfl (aE aA 1 rfl (aF (ag hD4 rfl rfl rfl))))⟩
    ·
     refine⟨_,rfl,rfl,(ao rfl (aX hf rfl rfl rfl bA (aF (ag hD5 rfl rfl rfl))))⟩
   refine aN 4 #[true,true,true,true,true,false,true,false,false,false] ⟨59,[(5,.adr (aO s)),(6,.adr (aO (aR s e).1)),(7,.s (.int .i64 (aR s e).2)),(28,.tup [.agg (aO (aR (cF s) e).1),.s (.int .i64 (aR (cF s) e).2)]),(34,.s (.int .i64 (aR (cF s) e).2))],[]⟩ ?_ (fun hD8=>?_)
   ·
    refine aH 5 [7] (by kernel_rfl) ⟨?_,?_,trivial⟩
    ·
     refine⟨_,rfl,rfl,(ao rfl (aE aA 1 rfl (aF (ag hD4 rfl rfl rfl))))⟩
    ·
     refine⟨_,rfl,rfl,(ao rfl (aX hf rfl rfl rfl bA (aF (ag hD6 rfl rfl rfl))))⟩
   refine aN 4 #[true,true,true,true,true,false,false,true,false,false] ⟨59,[(5,.adr (aO s)),(6,.adr (aO (aR s e).1)),(7,.s (.int .i64 (aR s e).2)),(8,.ref 8 0 0 0),(28,.tup [.agg (aO (aR (cF s) e).1),.s (.int .i64 (aR (cF s) e).2)])],[(8,.box [.s (.int .i64 0),.s (.int .i64 0),.s (.slice none 0 0),.s (.slice none 0 0),.s (.slice none 0 0),.s (.slice none 0 0)])]⟩ ?_ (fun hD9=>?_)
   ·
    refine aH 5 [6] (by kernel_rfl) ⟨?_,?_,trivial⟩
    ·
     refine⟨_,rfl,rfl,(ao rfl (aE aA 1 rfl (aF (ag hD5 rfl rfl rfl))))⟩
    ·
     refine⟨_,rfl,rfl,(ao rfl (aE aA 1 rfl (aF (ag hD6 rfl rfl rfl))))⟩
   refine aN 5 #[true,true,true,true,true,false,false,false,false,false] ⟨59,[(5,.adr (aO s)),(6,.adr (aO (aR s e).1)),(7,.s (.int .i64 (aR s e).2)),(28,.tup [.agg (aO (aR (cF s) e).1),.s (.int .i64 (aR (cF s) e).2)])],[]⟩ ?_ (fun hD10=>?_)
   ·
    refine aH 5 [6,7] (by kernel_rfl) ⟨?_,?_,?_,trivial⟩
    ·
     refine⟨_,rfl,rfl,(ao rfl (aE aA 1 rfl (aF (ag hD7 rfl rfl rfl))))⟩
    ·
     refine⟨_,rfl,rfl,(ao rfl (aE aA 1 rfl (aF (ag hD8 rfl rfl rfl))))⟩
    ·
     refine⟨_,rfl,rfl,(ao rfl (aX hf rfl rfl rfl bA (aF (ag hD9 rfl rfl rfl))))⟩
   refine aN 5 #[true,true,true,true,false,false,false,true,false,false] ⟨59,[(5,.adr (aO s)),(6,.adr (aO (aR s e).1)),(7,.s (.int .i64 (aR s e).2)),(8,.ref 8 0 0 0),(32,.tup [.agg (aO (aR (cF s) e).1),.s (.int .i64 (aR (cF s) e).2)])],[(8,.box [.s (.int .i64 0),.s (.int .i64 0),.s (.slice none 0 0),.s (.slice none 0 0),.s (.slice none 0 0),.s (.slice none 0 0)])]⟩ ?_ (fun hD11=>?_)
   ·
    refine aH 4 [] (by kernel_rfl) ⟨?_,trivial⟩
    ·
     refine⟨_,rfl,rfl,(ao rfl (aE aA 1 rfl (aF (ag hD9 rfl rfl rfl))))⟩
   refine aN 6 #[true,true,true,true,false,false,false,false,false,false] ⟨59,[(5,.adr (aO s)),(6,.adr (aO (aR s e).1)),(7,.s (.int .i64 (aR s e).2)),(32,.tup [.agg (aO (aR (cF s) e).1),.s (.int .i64 (aR (cF s) e).2)])],[]⟩ ?_ (fun hD12=>?_)
   ·
    refine aH 4 [7] (by kernel_rfl) ⟨?_,?_,trivial⟩
    ·
     refine⟨_,rfl,rfl,(ao rfl (aE aA 1 rfl (aF (ag hD10 rfl rfl rfl))))⟩
    ·
     refine⟨_,rfl,rfl,(ao rfl (aX hf rfl rfl rfl bA (aF (ag hD11 rfl rfl rfl))))⟩
   refine aN 6 #[true,true,true,false,false,false,false,true,false,false] ⟨59,[(5,.adr (aO s)),(6,.adr (aO (aR s e).1)),(7,.s (.int .i64 (aR s e).2)),(8,.ref 8 0 0 0),(30,.agg (aO (cF s))),(31,.agg (evC e))],[(8,.box [.s (.int .i64 0),.s (.int .i64 0),.s (.slice none 0 0),.s (.slice none 0 0),.s (.slice none 0 0),.s (.slice none 0 0)])]⟩ ?_ (fun hD13=>?_)
   ·
    refine aH 3 [] (by kernel_rfl) ⟨?_,trivial⟩
    ·
     refine⟨_,rfl,rfl,(ao rfl (aJ hf rfl (aK rfl rfl gR rfl (wO (cF s) e hzP hRP hu ho)) (aF (ag hD11 rfl rfl rfl))))⟩
   refine aN 7 #[true,true,true,false,false,false,false,false,false,false] ⟨59,[(5,.adr (aO s)),(6,.adr (aO (aR s e).1)),(7,.s (.int .i64 (aR s e).2)),(30,.agg (aO (cF s))),(31,.agg (evC e))],[]⟩ ?_ (fun hD14=>?_)
   ·
    refine aH 3 [7] (by kernel_rfl) ⟨?_,?_,trivial⟩
    ·
     refine⟨_,rfl,rfl,(ao rfl (aJ hf rfl (aK rfl rfl gR rfl (wO (cF s) e hzP hRP hu ho)) (aF (ag hD12 rfl rfl rfl))))⟩
    ·
     refine⟨_,rfl,rfl,(ao rfl (aX hf rfl rfl rfl bA (aF (ag hD13 rfl rfl rfl))))⟩
   refine aN 7 #[true,true,false,false,false,false,false,true,false,false] ⟨59,[(3,.adr (evC e)),(5,.adr (aO s)),(6,.adr (aO (aR s e).1)),(7,.s (.int .i64 (aR s e).2)),(8,.ref 8 0 0 0),(30,.agg (aO (cF s)))],[(8,.box [.s (.int .i64 0),.s (.int .i64 0),.s (.slice none 0 0),.s (.slice none 0 0),.s (.slice none 0 0),.s (.slice none 0 0)])]⟩ ?_ (fun hD15=>?_)
   ·
    refine aH 2 [] (by kernel_rfl) ⟨?_,trivial⟩
    ·
     refine⟨_,rfl,rfl,(ao rfl (aE aA 1 rfl (aF (ag hD13 rfl rfl rfl))))⟩
   refine aN 7 #[true,false,true,false,false,false,false,true,false,false] ⟨59,[(5,.adr (aO s)),(6,.adr (aO (aR s e).1)),(7,.s (.int .i64 (aR s e).2)),(8,.ref 8 0 0 0),(29,.agg (aO s)),(31,.agg (evC e))],[(8,.box [.s (.int .i64 0),.s (.int .i64 0),.s (.slice none 0 0),.s (.slice none 0 0),.s (.slice none 0 0),.s (.slice none 0 0)])]⟩ ?_ (fun hD16=>?_)
   ·
    refine aH 1 [] (by kernel_rfl) ⟨?_,trivial⟩
    ·
     refine⟨_,rfl,rfl,(ao rfl (aJ hf rfl (aK rfl rfl fW rfl (oH s hzM)) (aF (ag hD13 rfl rfl rfl))))⟩
   refine aN 8 #[true,true,false,false,false,false,false,false,false,false] ⟨59,[(3,.adr (evC e)),(5,.adr (aO s)),(6,.adr (aO (aR s e).1)),(7,.s (.int .i64 (aR s e).2)),(30,.agg (aO (cF s)))],[]⟩ ?_ (fun hD17=>?_)
   ·
    refine aH 2 [7] (by kernel_rfl) ⟨?_,?_,trivial⟩
    ·
     refine⟨_,rfl,rfl,(ao rfl (aE aA 1 rfl (aF (ag hD14 rfl rfl rfl))))⟩
    ·
     refine⟨_,rfl,rfl,(ao rfl (aX hf rfl rfl rfl bA (aF (ag hD15 rfl rfl rfl))))⟩
   refine aN 8 #[true,false,true,false,false,false,false,false,false,false] ⟨59,[(5,.adr (aO s)),(6,.adr (aO (aR s e).1)),(7,.s (.int .i64 (aR s e).2)),(29,.agg (aO s)),(31,.agg (evC e))],[]⟩ ?_ (fun hD18=>?_)
   ·
    refine aH 1 [7] (by kernel_rfl) ⟨?_,?_,trivial⟩
    ·
     refine⟨_,rfl,rfl,(ao rfl (aJ hf rfl (aK rfl rfl fW rfl (oH s hzM)) (aF (ag hD14 rfl rfl rfl))))⟩
    ·
     refine⟨_,rfl,rfl,(ao rfl (aX hf rfl rfl rfl bA (aF (ag hD16 rfl rfl rfl))))⟩
   refine aN 8 #[true,false,false,false,false,false,false,true,false,false] ⟨59,[(3,.adr (evC e)),(5,.adr (aO s)),(6,.adr (aO (aR s e).1)),(7,.s (.int .i64 (aR s e).2)),(8,.ref 8 0 0 0),(29,.agg (aO s))],[(8,.box [.s (.int .i64 0),.s (.int .i64 0),.s (.slice none 0 0),.s (.slice none 0 0),.s (.slice none 0 0),.s (.slice none 0 0)])]⟩ ?_ (fun hD19=>?_)
   ·
    refine aH 1 [2] (by kernel_rfl) ⟨?_,?_,trivial⟩
    ·
     refine⟨_,rfl,rfl,(ao rfl (aJ hf rfl (aK rfl rfl fW rfl (oH s hzM)) (aF (ag hD15 rfl rfl rfl))))⟩
    ·
     refine⟨_,rfl,rfl,(ao rfl (aE aA 1 rfl (aF (ag hD16 rfl rfl rfl))))⟩
   refine aN 8 #[false,false,true,false,false,false,false,true,false,false] ⟨59,[(5,.adr (aO s)),(6,.adr (aO (aR s e).1)),(7,.s (.int .i64 (aR s e).2)),(8,.ref 8 0 0 0),(31,.agg (evC e))],[(8,.box [.s (.int .i64 0),.s (.int .i64 0),.s (.slice none 0 0),.s (.slice none 0 0),.s (.slice none 0 0),.s (.slice none 0 0)])]⟩ ?_ (fun hD20=>?_)
   ·
    refine aH 0 [] (by kernel_rfl) ⟨?_,trivial⟩
    ·
     refine⟨_,rfl,rfl,(ao rfl (aE aA 1 rfl (aF (ag hD16 rfl rfl rfl))))⟩
   refine aN 9 #[true,false,false,false,false,false,false,false,false,false] ⟨59,[(3,.adr (evC e)),(5,.adr (aO s)),(6,.adr (aO (aR s e).1)),(7,.s (.int .i64 (aR s e).2)),(29,.agg (aO s))],[]⟩ ?_ (fun hD21=>?_)
   ·
    refine aH 1 [2,7] (by kernel_rfl) ⟨?_,?_,?_,trivial⟩
    ·
     refine⟨_,rfl,rfl,(ao rfl (aJ hf rfl (aK rfl rfl fW rfl (oH s hzM)) (aF (ag hD17 rfl rfl rfl))))⟩
    ·
     refine⟨_,rfl,rfl,(ao rfl (aE aA 1 rfl (aF (ag hD18 rfl rfl rfl))))⟩
    ·
     refine⟨_,rfl,rfl,(ao rfl (aX hf rfl rfl rfl bA (aF (ag hD19 rfl rfl rfl))))⟩
   refine aN 9 #[false,false,true,false,false,false,false,false,false,false] ⟨59,[(5,.adr (aO s)),(6,.adr (aO (aR s e).1)),(7,.s (.int .i64 (aR s e).2)),(31,.agg (evC e))],[]⟩ ?_ (fun hD22=>?_)
   ·
    refine aH 0 [7] (by kernel_rfl) ⟨?_,?_,trivial⟩
    ·
     refine⟨_,rfl,rfl,(ao rfl (aE aA 1 rfl (aF (ag hD18 rfl rfl rfl))))⟩
    ·
     refine⟨_,rfl,rfl,(ao rfl (aX hf rfl rfl rfl bA (aF (ag hD20 rfl rfl rfl))))⟩
   refine aN 9 #[false,false,false,false,false,false,false,true,false,false] ⟨59,[(3,.adr (evC e)),(5,.adr (aO s)),(6,.adr (aO (aR s e).1)),(7,.s (.int .i64 (aR s e).2)),(8,.ref 8 0 0 0)],[(8,.box [.s (.int .i64 0),.s (.int .i64 0),.s (.slice none 0 0),.s (.slice none 0 0),.s (.slice none 0 0),.s (.slice none 0 0)])]⟩ ?_ (fun hD23=>?_)
   ·
    refine aH 0 [2] (by kernel_rfl) ⟨?_,?_,trivial⟩
    ·
     refine⟨_,rfl,rfl,(ao rfl (aE aA 1 rfl (aF (ag hD19 rfl rfl rfl))))⟩
    ·
     refine⟨_,rfl,rfl,(ao rfl (aE aA 1 rfl (aF (ag hD20 rfl rfl rfl))))⟩
   refine jM (oY (sl':=[(3,.adr (evC e)),(5,.adr (aO s)),(6,.adr (aO (aR s e).1)),(7,.s (.int .i64 (aR s e).2))]) (m':=[]) rfl rfl rfl) (aH 0 [2,7] (by kernel_rfl) ⟨?_,?_,?_,trivial⟩)
   ·
    refine⟨_,rfl,rfl,(ao rfl (aE aA 1 rfl (aF (ag hD21 rfl rfl rfl))))⟩
   ·
    refine⟨_,rfl,rfl,(ao rfl (aE aA 1 rfl (aF (ag hD22 rfl rfl rfl))))⟩
   ·
    refine⟨_,rfl,rfl,(ao rfl (aX hf rfl rfl rfl bA (aF (ag hD23 rfl rfl rfl))))⟩
 ·
  simp only[bs] at hg1
  refine aE aA 3 rfl (aD (hK3 _ (bM rfl (aC (fun K10 hK10=>(aB (aJ hf rfl (aK rfl rfl dB rfl (cV)) (aE aA 1 rfl (aD (hK10 _ (aI ?_)))))))))))
  refine⟨_,rfl,?_⟩
  rfl
end Go.Proofs.YtckjaledibkghaaGreat
set_option linter.unusedVariables false
set_option linter.unusedSimpArgs false
namespace Go.Proofs.YtckjaledibkghaaGreat
open Go Go.Abs
end Go.Proofs.YtckjaledibkghaaGreat
set_option linter.unusedVariables false
set_option linter.unusedSimpArgs false
namespace Go.Proofs.YtckjaledibkghaaGreat
open Go Go.Abs
end Go.Proofs.YtckjaledibkghaaGreat
namespace Go.Proofs.YtckjaledibkghaaGreat
open Go.ChangeShapes Go.WideShapes Go.ChangeAt Go.RowKit Go.Abs
set_option linter.unusedVariables false
theorem own:ownKnob Tryz.prog.godebug=none:=by kernel_rfl
theorem laid:laidOutB Tryz.prog=true:=by kernel_rfl
theorem aAa:tdOf? Tryz.prog 16 27=some (.agg [.int .i64,.int .i64,.sl 40 (.agg [.int .i64,.str,.int .i64,.int .i64]),.sl 40 (.agg [.str,.sl 32 (.agg [.int .i64,.int .i64,.int .i64,.int .i64])]),.sl 48 (.agg [.str,.str,.int .i64,.int .i64]),.sl 24 (.agg [.str,.int .i64])]):=by kernel_rfl
theorem aU6:tdOf? Tryz.prog 16 29=some (.agg [.int .i64,.int .i64,.str,.str,.int .i64,.int .i64]):=by kernel_rfl
set_option maxRecDepth 100000 in
theorem vO (H:Type) (enc:TypeId×Value→H) (W:World) (base:Nat) (args:Array Value) (ds gs:List (DataW H)) (before:List MemPlace)
    (hval:∀ (j:Nat) t v,Tryz.f11.params[j]?=some t→args[j]?=some v→Value.okWide Tryz.prog W .any base t v)
    (hW:DataW.Whole enc Tryz.prog Tryz.f11.params.toList Rows.statePrunesSpec.vars false W args.toList ds gs before)
    (hsz:(DataW.weightsEach Tryz.prog (Tryz.f11.params.toList++Rows.statePrunesSpec.plain.varTypes Tryz.prog) (ds++gs)).all (·≤reachBytes)=true) :
    Calls Tryz.prog 11 args W fun e W'=>∃ v,e=.returned v∧Rows.statePrunesSpec.post enc Tryz.prog Tryz.f11 false true false false W args v W':=by
  have hW':=hW
  obtain ⟨p,q,hA0,hV,rfl,hfz,hnd⟩:=hW
  have hA:DataW.TrodAll enc Tryz.prog W 0 (fun _=>true) true Tryz.f11.params.toList args.toList ds p:=hA0
  rw[Tryz.params11] at hA hval
  obtain ⟨v0,vs0,d0,ds0,p0,q0,hargs,rfl,rfl,h0,r0⟩:=trodAll_cons hA
  obtain ⟨v1,vs1,d1,ds1,p1,q1,rfl,rfl,rfl,h1,r1⟩:=trodAll_cons r0
  obtain ⟨rfl,rfl,rfl⟩:=trodAll_nil r1
  obtain rfl:args=#[v0,v1]:=by cases args; simp_all
  obtain ⟨c0,y0,a0⟩:=mV aAa dJ (hval 0 27 v0 rfl rfl) h0 (fY (i:=0) hsz (by rw[Tryz.params11]; rfl) rfl)
  obtain ⟨s,rfl,hz,ts⟩:=vL (by simpa only[Ty] using y0)
  obtain ⟨c1,y1,a1⟩:=mV aU6 aGz (hval 1 29 v1 rfl rfl) h1 (fY (i:=1) hsz (by rw[Tryz.params11]; rfl) rfl)
  obtain ⟨e,rfl,he1,he2⟩:=aSg (by simpa only[Ty] using y1)
  refine(aDz s hz ts e he1 he2 (fun _=>False) W [v0,v1] (fun _ h=>h.elim) ⟨rfl,fun i c v hc hv=>?_⟩).mono fun e W' ⟨v,r,he,hr,hE,hv⟩=>?_
  · match i,hc,hv with
    | 0,hc,hv=>cases hc; cases hv; exact a0
    | 1,hc,hv=>cases hc; cases hv; exact a1
  · subst hr
    cases hv
    exact⟨_,he,nI (t:=4) hW' (iY hE) laid (by rw[Tryz.params11]; decide +kernel) rfl (fun _=>rfl) (by kernel_rfl) (by kernel_rfl) Tryz.underlying4⟩
set_option maxRecDepth 100000 in
theorem yW (os:Os) (started:os.Started) (H:Type) (enc:TypeId×Value→H) (F:Stop.Interp) :
    ReturnsInHanded {} Tryz.checked os 11 .any (Rows.statePrunesSpec.pre6 enc Tryz.prog Tryz.f11 Rows.statePrunesRow.domain false) (Rows.statePrunesSpec.post enc Tryz.prog Tryz.f11 false true false false):=by
  refine returnsInHanded_of_change_sized (C:=Tryz.checked) (s:=Rows.statePrunesSpec) own started (by kernel_rfl) Tryz.func11
    (ChangeSpec.witness6 (enc:=enc) (C:=Tryz.checked) (s:=Rows.statePrunesSpec) false ⟨#[],#[.agg #[.int .i64 0,.int .i64 0,.slice none 0 0,.slice none 0 0,.slice none 0 0,.slice none 0 0],.agg #[.int .i64 0,.int .i64 0,.string ⟨#[]⟩,.string ⟨#[]⟩,.int .i64 0,.int .i64 0]],[]⟩ 8 (by kernel_rfl) (by kernel_rfl) (by kernel_rfl) (by kernel_rfl)) ?_
  intro W base args ds gs before hval hW _ hsz _
  exact vO H enc W base args ds gs before hval hW hsz
theorem statePrunes_proved:Rows.StatePrunesSaid :=
  OpenClaim.holds_of_wide 11 Tryz.f11 rfl rfl rfl rfl rfl rfl rfl ⟨rfl,rfl,rfl,rfl,rfl⟩ rfl rfl rfl rfl rfl (by kernel_rfl) Tryz.func11 (by kernel_rfl)
    (of_decide_eq_true (by kernel_rfl)) (by unfold Func.isWrapper; first | (rw[if_pos (by decide +kernel)]; kernel_rfl) | (rw[if_neg (by decide +kernel)]; exact⟨rfl,rfl⟩))
    (fun os started H enc _=>yW os started H enc default)
end Go.Proofs.YtckjaledibkghaaGreat
