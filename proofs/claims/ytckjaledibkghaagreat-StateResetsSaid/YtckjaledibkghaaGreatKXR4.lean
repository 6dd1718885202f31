/-
  The law StateResets: whatever the state, the call returns true, and it reads behind it as it read before. No condition beyond the row's own.
-/
import Derived.Test.YtckjaledibkghaaGreatRows
import Derived.WalkKit
import Derived.ProofKit
import Derived.OpenShut
import Derived.JoinedCond
import Derived.SizedLaws
import Derived.Test.YtckjaledibkghaaGreatK1
import Derived.Test.YtckjaledibkghaaGreatK2
import Derived.Test.YtckjaledibkghaaGreatK3
import Derived.Test.YtckjaledibkghaaGreatK4
import Derived.Test.YtckjaledibkghaaGreatK5
import Derived.Test.YtckjaledibkghaaGreatK6
set_option maxRecDepth 20000
set_option maxHeartbeats 16000000
set_option linter.unusedVariables false
set_option linter.unusedSimpArgs false
namespace Go.Proofs.YtckjaledibkghaaGreat
open Go Go.Abs
end Go.Proofs.YtckjaledibkghaaGreat
set_option linter.unusedVariables false
set_option linter.unusedSimpArgs false
namespace Go.Proofs.YtckjaledibkghaaGreat
open Go Go.Abs
theorem aDy (s:Sta) (hz:SzS 140737488351232 s) (ts:TsS s) :Den Tryz.prog 5 [.agg (aO s)]  (·=.s (.bool true)):=by
 have hzM:SzS 140737488352000 s:=hz.mono (by omega)
 refine aS Tryz.func5 rfl (Nat.le_of_ble_eq_true rfl) (fun w0 A hf=>(aC (fun K1 hK1=>(aB (aJ hf rfl (cI rfl rfl (lf rfl)) (aE aA 1 rfl (aD (hK1 _ (aC (fun K2 hK2=>(aC (fun K3 hK3=>(aB (aE aA 1 rfl (aJ hf rfl (aK rfl rfl lV rfl (lJ s hzM)) (aE aA 2 rfl ?_))))))))))))))))
 refine aW rfl rfl rfl (fun hg1=>?_) (fun hg1=>?_)
 ·
  simp only[bs] at hg1
  refine aG rfl (sL rfl dJ cG rfl rfl) ?_
  refine bI rfl rfl rfl (aJ hf rfl (aK rfl rfl nF rfl (jH s (hz.mono (by omega)) ts)) (aE aA 2 rfl (aD (hK3 _ (aL rfl (fun hc2=>?_) (fun hc2=>?_))))))
  ·
   simp only[bs] at hc2
   refine aC (fun K4 hK4=>(aB (aJ hf rfl (aK rfl rfl dB rfl (cV)) (aE aA 1 rfl (aD (hK4 _ (aI ?_)))))))
   refine⟨_,rfl,?_⟩
   rfl
  ·
   simp only[bs] at hc2
   refine aM (hK2 _ (aC (fun K5 hK5=>(aB ?_))))
   have hR:RightP s:=gZ.1 (by simp_all)
   have ho:=qL hR
   have hzR:SzS 140737488352000 (dI s):=aJ7 hz hR.usr (by omega)
   have hzP:SzS 140737488352000 (cF s):=uN hzM
   have hRR:=aMa hR
   have hRP:=aCm hR
   have hzRR:SzS 140737488355328 (dI (dI s)):=by rw[vV]; exact hzR.mono (by omega)
   have hzPP:SzS 140737488355328 (cF (cF s)):=(uN hzP).mono (by omega)
   refine aE aA 1 rfl (aJ hf rfl (aK rfl rfl gF rfl (aAv _ (by assumption))) (bV hf rfl bA rfl cC rfl rfl rfl rfl (lf rfl) (aD (hK5 _ (aC (fun K6 hK6=>(dY bE ?_)))))))
   refine aN 0 #[true,true,true,true,true,true,true,true] ⟨69,[(1,.adr (aO s)),(3,.adr (aO s)),(4,.ref 4 0 0 0),(5,.ref 5 0 0 0)],[(4,.box (aO (dI s))),(5,.box (aO (cF s)))]⟩ ?_ (fun hD0=>?_)
   ·
    refine dF (by kernel_rfl) ?_
    refine hK6 _ (aC (fun K7 hK7=>(aC (fun K8 hK8=>(cM hf bE (by kernel_rfl) rfl (aT aA 1 rfl (aZ [(21,_)] rfl rfl ⟨⟨rfl,rfl⟩,trivial⟩ rfl (aK rfl rfl nD rfl (aQh (dI s) hzR)) (aT aA 1 rfl (aZ [(23,_)] rfl rfl ⟨⟨rfl,rfl⟩,trivial⟩ rfl (aK rfl rfl aSa rfl (aTm s hzM hR)) (aZ [(22,_),(24,_)] rfl rfl ⟨⟨rfl,rfl⟩,⟨rfl,rfl⟩,trivial⟩ rfl (aK rfl rfl nE rfl (tL (dI s) hzR)) (aT aA 3 rfl (aZ [(28,_)] rfl rfl ⟨⟨rfl,rfl⟩,trivial⟩ rfl (aK rfl rfl nD rfl (aQh (cF s) hzP)) ?_))))))))))))
    refine aT aA 1 rfl (aZ [(30,_)] rfl rfl ⟨⟨rfl,rfl⟩,trivial⟩ rfl (aK rfl rfl aR9 rfl (aTn s hzM)) (aZ [(29,_),(31,_)] rfl rfl ⟨⟨rfl,rfl⟩,⟨rfl,rfl⟩,trivial⟩ rfl (aK rfl rfl nE rfl (tL (cF s) hzP)) (aT aA 4 rfl (aZ [(36,_)] rfl rfl ⟨⟨rfl,rfl⟩,trivial⟩ rfl (aK rfl rfl nD rfl (aQh s hzM)) (aT aA 1 rfl (aZ [(37,_),(38,_)] rfl rfl ⟨⟨rfl,rfl⟩,⟨rfl,rfl⟩,trivial⟩ rfl (aK rfl rfl nE rfl (tL s hzM)) (aT aA 2 rfl (cP [4,5,41] rfl rfl rfl (hK8 _ (bG rfl ?_))))))))))
    refine aM (hK7 _ (aC (fun K9 hK9=>(cM hf bE (by kernel_rfl) rfl (aZ [] rfl rfl trivial rfl (aK rfl rfl dB rfl (cV)) (aT aA 2 rfl (aZ [(44,_)] rfl rfl ⟨⟨rfl,rfl⟩,trivial⟩ rfl (aK rfl rfl nC rfl (aFi (dI s) hzR hRR)) (aT aA 3 rfl (aZ [(48,_)] rfl rfl ⟨⟨rfl,rfl⟩,trivial⟩ rfl (aK rfl rfl nC rfl (aFi (cF s) hzP hRP)) (aT aA 5 rfl (bL [(54,_)] rfl rfl ⟨⟨rfl,rfl⟩,trivial⟩ rfl (cU rfl rfl (gK (rfl))) (aT aA 3 rfl (aZ [(58,_)] rfl rfl ⟨⟨rfl,rfl⟩,trivial⟩ rfl (aK rfl rfl gQ rfl (rE (dI s) hzR hRR)) ?_)))))))))))))
    refine aT aA 1 rfl (aZ [(59,_),(60,_)] rfl rfl ⟨⟨rfl,rfl⟩,⟨rfl,rfl⟩,trivial⟩ rfl (aK rfl rfl lU rfl (qQ (dI (dI s)) (dI s) (vV s) hzRR)) (aT aA 3 rfl (aZ [(64,_)] rfl rfl ⟨⟨rfl,rfl⟩,trivial⟩ rfl (aK rfl rfl fW rfl (oH (cF s) hzP)) (aT aA 1 rfl (aZ [(65,_),(66,_)] rfl rfl ⟨⟨rfl,rfl⟩,⟨rfl,rfl⟩,trivial⟩ rfl (aK rfl rfl lU rfl (qQ (cF (cF s)) (cF s) (aMk hR) hzPP)) (aT aA 2 rfl (cP [2] rfl rfl rfl (hK9 _ (aI ?_)))))))))
    refine⟨_,rfl,?_⟩
    rfl
   refine aN 1 #[true,true,true,true,true,true,true,false] ⟨69,[(1,.adr (aO s)),(3,.adr (aO s)),(4,.ref 4 0 0 0),(5,.ref 5 0 0 0),(20,.agg (aO (cF s)))],[(4,.box (aO (dI s))),(5,.box [.s (.int .i64 0),.s (.int .i64 0),.s (.slice none 0 0),.s (.slice none 0 0),.s (.slice none 0 0),.s (.slice none 0 0)])]⟩ ?_ (fun hD1=>?_)
   ·
    refine aH 7 [] (by kernel_rfl) ⟨?_,trivial⟩
    ·
     refine⟨_,rfl,rfl,(ao rfl (aU hf rfl rfl cC rfl rfl (l1 rfl) (l4 rfl) rfl (aF (ag hD0 rfl rfl rfl))))⟩
   refine aN 2 #[true,true,true,true,true,true,false,false] ⟨69,[(1,.adr (aO s)),(3,.adr (aO s)),(4,.ref 4 0 0 0),(5,.ref 5 0 0 0),(18,.agg (aO (dI s))),(20,.agg (aO (cF s)))],[(4,.box [.s (.int .i64 0),.s (.int .i64 0),.s (.slice none 0 0),.s (.slice none 0 0),.s (.slice none 0 0),.s (.slice none 0 0)]),(5,.box [.s (.int .i64 0),.s (.int .i64 0),.s (.slice none 0 0),.s (.slice none 0 0),.s (.slice none 0 0),.s (.slice none 0 0)])]⟩ ?_ (fun hD2=>?_)
   ·
    refine aH 6 [] (by kernel_rfl) ⟨?_,trivial⟩
    ·
     refine⟨_,rfl,rfl,(ao rfl (aU hf rfl rfl cC rfl rfl (l1 rfl) (l4 rfl) rfl (aF (ag hD1 rfl rfl rfl))))⟩
   refine aN 3 #[true,true,true,true,true,false,false,false] ⟨69,[(1,.adr (aO s)),(3,.adr (aO s)),(4,.ref 4 0 0 0),(18,.agg (aO (dI s))),(20,.agg (aO (cF s)))],[(4,.box [.s (.int .i64 0),.s (.int .i64 0),.s (.slice none 0 0),.s (.slice none 0 0),.s (.slice none 0 0),.s (.slice none 0 0)])]⟩ ?_ (fun hD3=>?_)
   ·
    refine aH 5 [] (by kernel_rfl) ⟨?_,trivial⟩
    ·
     refine⟨_,rfl,rfl,(ao rfl (aX hf rfl rfl rfl bA (aF (ag hD2 rfl rfl rfl))))⟩
   refine aN 3 #[true,true,true,true,false,true,false,false] ⟨69,[(1,.adr (aO s)),(3,.adr (aO s)),(5,.ref 5 0 0 0),(18,.agg (aO (dI s))),(20,.agg (aO (cF s)))],[(5,.box [.s (.int .i64 0),.s (.int .i64 0),.s (.slice none 0 0),.s (.slice none 0 0),.s (.slice none 0 0),.s (.slice none 0 0)])]⟩ ?_ (fun hD4=>?_)
   ·
    refine aH 4 [] (by kernel_rfl) ⟨?_,trivial⟩
    ·
     refine⟨_,rfl,rfl,(ao rfl (aX hf rfl rfl rfl bA (aF (ag hD2 rfl rfl rfl))))⟩
   refine aN 3 #[true,true,true,false,true,true,false,false] ⟨69,[(1,.adr (aO s)),(3,.adr (aO s)),(4,.ref 4 0 0 0),(5,.ref 5 0 0 0),(18,.agg (aO (dI s))),(19,.agg (aO s))],[(4,.box [.s (.int .i64 0),.s (.int .i64 0),.s (.slice none 0 0),.s (.slice none 0 0),.s (.slice none 0 0),.s (.slice none 0 0)]),(5,.box [.s (.int .i64 0),.s (.int .i64 0),.s (.slice none 0 0),.s (.slice none 0 0),.s (.slice none 0 0),.s (.slice none 0 0)])]⟩ ?_ (fun hD5=>?_)
   ·
    refine aH 3 [] (by kernel_rfl) ⟨?_,trivial⟩
    ·
     refine⟨_,rfl,rfl,(ao rfl (aJ hf rfl (aK rfl rfl fW rfl (oH _ (by assumption))) (aF (ag hD2 rfl rfl rfl))))⟩
   refine aN 4 #[true,true,true,true,false,false,false,false] ⟨69,[(1,.adr (aO s)),(3,.adr (aO s)),(18,.agg (aO (dI s))),(20,.agg (aO (cF s)))],[]⟩ ?_ (fun hD6=>?_)
   ·
    refine aH 4 [5] (by kernel_rfl) ⟨?_,?_,trivial⟩
    ·
     refine⟨_,rfl,rfl,(ao rfl (aX hf rfl rfl rfl bA (aF (ag hD3 rfl rfl rfl))))⟩
    ·
     refine⟨_,rfl,rfl,(ao rfl (aX hf rfl rfl rfl bA (aF (ag hD4 rfl rfl rfl))))⟩
   refine aN 4 #[true,true,true,false,true,false,false,false] ⟨69,[(1,.adr (aO s)),(3,.adr (aO s)),(4,.ref 4 0 0 0),(18,.agg (aO (dI s))),(19,.agg (aO s))],[(4,.box [.s (.int .i64 0),.s (.int .i64 0),.s (.slice none 0 0),.s (.slice none 0 0),.s (.slice none 0 0),.s (.slice none 0 0)])]⟩ ?_ (fun hD7=>?_)
   ·
    refine aH 3 [5] (by kernel_rfl) ⟨?_,?_,trivial⟩
    ·
     refine⟨_,rfl,rfl,(ao rfl (aJ hf rfl (aK rfl rfl fW rfl (oH _ (by assumption))) (aF (ag hD3 rfl rfl rfl))))⟩
    ·
     refine⟨_,rfl,rfl,(ao rfl (aX hf rfl rfl rfl bA (aF (ag hD5 rfl rfl rfl))))⟩
   refine aN 4 #[true,true,true,false,false,true,false,false] ⟨69,[(1,.adr (aO s)),(3,.adr (aO s)),(5,.ref 5 0 0 0),(18,.agg (aO (dI s))),(19,.agg (aO s))],[(5,.box [.s (.int .i64 0),.s (.int .i64 0),.s (.slice none 0 0),.s (.slice none 0 0),.s (.slice none 0 0),.s (.slice none 0 0)])]⟩ ?_ (fun hD8=>?_)
   ·
    refine aH 3 [4] (by kernel_rfl) ⟨?_,?_,trivial⟩
    ·
     refine⟨_,rfl,rfl,(ao rfl (aJ hf rfl (aK rfl rfl fW rfl (oH _ (by assumption))) (aF (ag hD4 rfl rfl rfl))))⟩
    ·
     refine⟨_,rfl,rfl,(ao rfl (aX hf rfl rfl rfl bA (aF (ag hD5 rfl rfl rfl))))⟩
   refine aN 4 #[true,true,false,false,true,true,false,false] ⟨69,[(1,.adr (aO s)),(3,.adr (aO s)),(4,.ref 4 0 0 0),(5,.ref 5 0 0 0),(18,.agg (aO (dI s)))],[(4,.box [.s (.int .i64 0),.s (.int .i64 0),.s (.slice none 0 0),.s (.slice none 0 0),.s (.slice none 0 0),.s (.slice none 0 0)]),(5,.box [.s (.int .i64 0),.s (.int .i64 0),.s (.slice none 0 0),.s (.slice none 0 0),.s (.slice none 0 0),.s (.slice none 0 0)])]⟩ ?_ (fun hD9=>?_)
   ·
    refine aH 2 [] (by kernel_rfl) ⟨?_,trivial⟩
    ·
     refine⟨_,rfl,rfl,(ao rfl (aE aA 1 rfl (aF (ag hD5 rfl rfl rfl))))⟩
   refine aN 4 #[true,false,true,false,true,true,false,false] ⟨69,[(1,.adr (aO s)),(3,.adr (aO s)),(4,.ref 4 0 0 0),(5,.ref 5 0 0 0),(17,.agg (aO s)),(19,.agg (aO s))],[(4,.box [.s (.int .i64 0),.s (.int .i64 0),.s (.slice none 0 0),.s (.slice none 0 0),.s (.slice none 0 0),.s (.slice none 0 0)]),(5,.box [.s (.int .i64 0),.s (.int .i64 0),.s (.slice none 0 0),.s (.slice none 0 0),.s (.slice none 0 0),.s (.slice none 0 0)])]⟩ ?_ (fun hD10=>?_)
   ·
    refine aH 1 [] (by kernel_rfl) ⟨?_,trivial⟩
    ·
     refine⟨_,rfl,rfl,(ao rfl (aJ hf rfl (aK rfl rfl gQ rfl (rE _ (by assumption) (by assumption))) (aF (ag hD5 rfl rfl rfl))))⟩
   refine aN 5 #[true,true,true,false,false,false,false,false] ⟨69,[(1,.adr (aO s)),(3,.adr (aO s)),(18,.agg (aO (dI s))),(19,.agg (aO s))],[]⟩ ?_ (fun hD11=>?_)
   ·
    refine aH 3 [4,5] (by kernel_rfl) ⟨?_,?_,?_,trivial⟩
    ·
     refine⟨_,rfl,rfl,(ao rfl (aJ hf rfl (aK rfl rfl fW rfl (oH _ (by assumption))) (aF (ag hD6 rfl rfl rfl))))⟩
    ·
     refine⟨_,rfl,rfl,(ao rfl (aX hf rfl rfl rfl bA (aF (ag hD7 rfl rfl rfl))))⟩
    ·
     refine⟨_,rfl,rfl,(ao rfl (aX hf rfl rfl rfl bA (aF (ag hD8 rfl rfl rfl))))⟩
   refine aN 5 #[true,true,false,false,true,false,false,false] ⟨69,[(1,.adr (aO s)),(3,.adr (aO s)),(4,.ref 4 0 0 0),(18,.agg (aO (dI s)))],[(4,.box [.s (.int .i64 0),.s (.int .i64 0),.s (.slice none 0 0),.s (.slice none 0 0),.s (.slice none 0 0),.s (.slice none 0 0)])]⟩ ?_ (fun hD12=>?_)
   ·
    refine aH 2 [5] (by kernel_rfl) ⟨?_,?_,trivial⟩
    ·
     refine⟨_,rfl,rfl,(ao rfl (aE aA 1 rfl (aF (ag hD7 rfl rfl rfl))))⟩
    ·
     refine⟨_,rfl,rfl,(ao rfl (aX hf rfl rfl rfl bA (aF (ag hD9 rfl rfl rfl))))⟩
   refine aN 5 #[true,true,false,false,false,true,false,false] ⟨69,[(1,.adr (aO s)),(3,.adr (aO s)),(5,.ref 5 0 0 0),(18,.agg (aO (dI s)))],[(5,.box [.s (.int .i64 0),.s (.int .i64 0),.s (.slice none 0 0),.s (.slice none 0 0),.s (.slice none 0 0),.s (.slice none 0 0)])]⟩ ?_ (fun hD13=>?_)
   ·
    refine aH 2 [4] (by kernel_rfl) ⟨?_,?_,trivial⟩
    ·
     refine⟨_,rfl,rfl,(ao rfl (aE aA 1 rfl (aF (ag hD8 rfl rfl rfl))))⟩
    ·
     refine⟨_,rfl,rfl,(ao rfl (aX hf rfl rfl rfl bA (aF (ag hD9 rfl rfl rfl))))⟩
   refine aN 5 #[true,false,true,false,true,false,false,false] ⟨69,[(1,.adr (aO s)),(3,.adr (aO s)),(4,.ref 4 0 0 0),(17,.agg (aO s)),(19,.agg (aO s))],[(4,.box [.s (.int .i64 0),.s (.int .i64 0),.s (.slice none 0 0),.s (.slice none 0 0),.s (.slice none 0 0),.s (.slice none 0 0)])]⟩ ?_ (fun hD14=>?_)
   ·
    refine aH 1 [5] (by kernel_rfl) ⟨?_,?_,trivial⟩
    ·
     refine⟨_,rfl,rfl,(ao rfl (aJ hf rfl (aK rfl rfl gQ rfl (rE _ (by assumption) (by assumption))) (aF (ag hD7 rfl rfl rfl))))⟩
    ·
     refine⟨_,rfl,rfl,(ao rfl (aX hf rfl rfl rfl bA (aF (ag hD10 rfl rfl rfl))))⟩
   refine aN 5 #[true,false,true,false,false,true,false,false] ⟨69,[(1,.adr (aO s)),(3,.adr (aO s)),(5,.ref 5 0 0 0),(17,.agg (aO s)),(19,.agg (aO s))],[(5,.box [.s (.int .i64 0),.s (.int .i64 0),.s (.slice none 0 0),.s (.slice none 0 0),.s (.slice none 0 0),.s (.slice none 0 0)])]⟩ ?_ (fun hD15=>?_)
   ·
    refine aH 1 [4] (by kernel_rfl) ⟨?_,?_,trivial⟩
    ·
     refine⟨_,rfl,rfl,(ao rfl (aJ hf rfl (aK rfl rfl gQ rfl (rE _ (by assumption) (by assumption))) (aF (ag hD8 rfl rfl rfl))))⟩
    ·
     refine⟨_,rfl,rfl,(ao rfl (aX hf rfl rfl rfl bA (aF (ag hD10 rfl rfl rfl))))⟩
   refine aN 5 #[true,false,false,false,true,true,false,false] ⟨69,[(1,.adr (aO s)),(3,.adr (aO s)),(4,.ref 4 0 0 0),(5,.ref 5 0 0 0),(17,.agg (aO s))],[(4,.box [.s (.int .i64 0),.s (.int .i64 0),.s (.slice none 0 0),.s (.slice none 0 0),.s (.slice none 0 0),.s (.slice none 0 0)]),(5,.box [.s (.int .i64 0),.s (.int .i64 0),.s (.slice none 0 0),.s (.slice none 0 0),.s (.slice none 0 0),.s (.slice none 0 0)])]⟩ ?_ (fun hD16=>?_)
   ·
    refine aH 1 [2] (by kernel_rfl) ⟨?_,?_,trivial⟩
    ·
     refine⟨_,rfl,rfl,(ao rfl (aJ hf rfl (aK rfl rfl gQ rfl (rE _ (by assumption) (by assumption))) (aF (ag hD9 rfl rfl rfl))))⟩
    ·
     refine⟨_,rfl,rfl,(ao rfl (aE aA 1 rfl (aF (ag hD10 rfl rfl rfl))))⟩
   refine aN 5 #[false,false,true,false,true,true,false,false] ⟨69,[(1,.adr (aO s)),(3,.adr (aO s)),(4,.ref 4 0 0 0),(5,.ref 5 0 0 0),(19,.agg (aO s))],[(4,.box [.s (.int .i64 0),.s (.int .i64 0),.s (.slice none 0 0),.s (.slice none 0 0),.s (.slice none 0 0),.s (.slice none 0 0)]),(5,.box [.s (.int .i64 0),.s (.int .i64 0),.s (.slice none 0 0),.s (.slice none 0 0),.s (.slice none 0 0),.s (.slice none 0 0)])]⟩ ?_ (fun hD17=>?_)
   ·
    refine aH 0 [] (by kernel_rfl) ⟨?_,trivial⟩
    ·
     refine⟨_,rfl,rfl,(ao rfl (aE aA 1 rfl (aF (ag hD10 rfl rfl rfl))))⟩
   refine aN 6 #[true,true,false,false,false,false,false,false] ⟨69,[(1,.adr (aO s)),(3,.adr (aO s)),(18,.agg (aO (dI s)))],[]⟩ ?_ (fun hD18=>?_)
   ·
    refine aH 2 [4,5] (by kernel_rfl) ⟨?_,?_,?_,trivial⟩
    ·
     refine⟨_,rfl,rfl,(ao rfl (aE aA 1 rfl (aF (ag hD11 rfl rfl rfl))))⟩
    ·
     refine⟨_,rfl,rfl,(ao rfl (aX hf rfl rfl rfl bA (aF (ag hD12 rfl rfl rfl))))⟩
    ·
     refine⟨_,rfl,rfl,(ao rfl (aX hf rfl rfl rfl bA (aF (ag hD13 rfl rfl rfl))))⟩
   refine aN 6 #[true,false,true,false,false,false,false,false] ⟨69,[(1,.adr (aO s)),(3,.adr (aO s)),(17,.agg (aO s)),(19,.agg (aO s))],[]⟩ ?_ (fun hD19=>?_)
   ·
    refine aH 1 [4,5] (by kernel_rfl) ⟨?_,?_,?_,trivial⟩
    ·
     refine⟨_,rfl,rfl,(ao rfl (aJ hf rfl (aK rfl rfl gQ rfl (rE _ (by assumption) (by assumption))) (aF (ag hD11 rfl rfl rfl))))⟩
    ·
     refine⟨_,rfl,rfl,(ao rfl (aX hf rfl rfl rfl bA (aF (ag hD14 rfl rfl rfl))))⟩
    ·
     refine⟨_,rfl,rfl,(ao rfl (aX hf rfl rfl rfl bA (aF (ag hD15 rfl rfl rfl))))⟩
   refine aN 6 #[true,false,false,false,true,false,false,false] ⟨69,[(1,.adr (aO s)),(3,.adr (aO s)),(4,.ref 4 0 0 0),(17,.agg (aO s))],[(4,.box [.s (.int .i64 0),.s (.int .i64 0),.s (.slice none 0 0),.s (.slice none 0 0),.s (.slice none 0 0),.s (.slice none 0 0)])]⟩ ?_ (fun hD20=>?_)
   ·
    refine aH 1 [2,5] (by kernel_rfl) ⟨?_,?_,?_,trivial⟩
    ·
     refine⟨_,rfl,rfl,(ao rfl (aJ hf rfl (aK rfl rfl gQ rfl (rE _ (by assumption) (by assumption))) (aF (ag hD12 rfl rfl rfl))))⟩
    ·
     refine⟨_,rfl,rfl,(ao rfl (aE aA 1 rfl (aF (ag hD14 rfl rfl rfl))))⟩
    ·
     refine⟨_,rfl,rfl,(ao rfl (aX hf rfl rfl rfl bA (aF (ag hD16 rfl rfl rfl))))⟩
   refine aN 6 #[true,false,false,false,false,true,false,false] ⟨69,[(1,.adr (aO s)),(3,.adr (aO s)),(5,.ref 5 0 0 0),(17,.agg (aO s))],[(5,.box [.s (.int .i64 0),.s (.int .i64 0),.s (.slice none 0 0),.s (.slice none 0 0),.s (.slice none 0 0),.s (.slice none 0 0)])]⟩ ?_ (fun hD21=>?_)
   ·
    refine aH 1 [2,4] (by kernel_rfl) ⟨?_,?_,?_,trivial⟩
    ·
     refine⟨_,rfl,rfl,(ao rfl (aJ hf rfl (aK rfl rfl gQ rfl (rE _ (by assumption) (by assumption))) (aF (ag hD13 rfl rfl rfl))))⟩
    ·
     refine⟨_,rfl,rfl,(ao rfl (aE aA 1 rfl (aF (ag hD15 rfl rfl rfl))))⟩
    ·
     refine⟨_,rfl,rfl,(ao rfl (aX hf rfl rfl rfl bA (aF (ag hD16 rfl rfl rfl))))⟩
   refine aN 6 #[false,false,true,false,true,false,false,false] ⟨69,[(1,.adr (aO s)),(3,.adr (aO s)),(4,.ref 4 0 0 0),(19,.agg (aO s))],[(4,.box [.s (.int .i64 0),.s (.int .i64 0),.s (.slice none 0 0),.s (.slice none 0 0),.s (.slice none 0 0),.s (.slice none 0 0)])]⟩ ?_ (fun hD22=>?_)
   ·
    refine aH 0 [5] (by kernel_rfl) ⟨?_,?_,trivial⟩
    ·
     refine⟨_,rfl,rfl,(ao rfl (aE aA 1 rfl (aF (ag hD14 rfl rfl rfl))))⟩
    ·
     refine⟨_,rfl,rfl,(ao rfl (aX hf rfl rfl rfl bA (aF (ag hD17 rfl rfl rfl))))⟩
   refine aN 6 #[false,false,true,false,false,true,false,false] ⟨69,[(1,.adr (aO s)),(3,.adr (aO s)),(5,.ref 5 0 0 0),(19,.agg (aO s))],[(5,.box [.s (.int .i64 0),.s (.int .i64 0),.s (.slice none 0 0),.s (.slice none 0 0),.s (.slice none 0 0),.s (.slice none 0 0)])]⟩ ?_ (fun hD23=>?_)
   ·
    refine aH 0 [4] (by kernel_rfl) ⟨?_,?_,trivial⟩
    ·
     refine⟨_,rfl,rfl,(ao rfl (aE aA 1 rfl (aF (ag hD15 rfl rfl rfl))))⟩
    ·
     refine⟨_,rfl,rfl,(ao rfl (aX hf rfl rfl rfl bA (aF (ag hD17 rfl rfl rfl))))⟩
   refine aN 6 #[false,false,false,false,true,true,false,false] ⟨69,[(1,.adr (aO s)),(3,.adr (aO s)),(4,.ref 4 0 0 0),(5,.ref 5 0 0 0)],[(4,.box [.s (.int .i64 0),.s (.int .i64 0),.s (.slice none 0 0),.s (.slice none 0 0),.s (.slice none 0 0),.s (.slice none 0 0)]),(5,.box [.s (.int .i64 0),.s (.int .i64 0),.s (.slice none 0 0),.s (.slice none 0 0),.s (.slice none 0 0),.s (.slice none 0 0)])]⟩ ?_ (fun hD24=>?_)
   ·
    refine aH 0 [2] (by kernel_rfl) ⟨?_,?_,trivial⟩
    ·
     refine⟨_,rfl,rfl,(ao rfl (aE aA 1 rfl (aF (ag hD16 rfl rfl rfl))))⟩
    ·
     refine⟨_,rfl,rfl,(ao rfl (aE aA 1 rfl (aF (ag hD17 rfl rfl rfl))))⟩
   refine aN 7 #[true,false,false,false,false,false,false,false] ⟨69,[(1,.adr (aO s)),(3,.adr (aO s)),(17,.agg (aO s))],[]⟩ ?_ (fun hD25=>?_)
   ·
    refine aH 1 [2,4,5] (by kernel_rfl) ⟨?_,?_,?_,?_,trivial⟩
    ·
     refine⟨_,rfl,rfl,(ao rfl (aJ hf rfl (aK rfl rfl gQ rfl (rE _ (by assumption) (by assumption))) (aF (ag hD18 rfl rfl rfl))))⟩
    ·
     refine⟨_,rfl,rfl,(ao rfl (aE aA 1 rfl (aF (ag hD19 rfl rfl rfl))))⟩
    ·
     refine⟨_,rfl,rfl,(ao rfl (aX hf rfl rfl rfl bA (aF (ag hD20 rfl rfl rfl))))⟩
    ·
     refine⟨_,rfl,rfl,(ao rfl (aX hf rfl rfl rfl bA (aF (ag hD21 rfl rfl rfl))))⟩
   refine aN 7 #[false,false,true,false,false,false,false,false] ⟨69,[(1,.adr (aO s)),(3,.adr (aO s)),(19,.agg (aO s))],[]⟩ ?_ (fun hD26=>?_)
   ·
    refine aH 0 [4,5] (by kernel_rfl) ⟨?_,?_,?_,trivial⟩
    ·
     refine⟨_,rfl,rfl,(ao rfl (aE aA 1 rfl (aF (ag hD19 rfl rfl rfl))))⟩
    ·
     refine⟨_,rfl,rfl,(ao rfl (aX hf rfl rfl rfl bA (aF (ag hD22 rfl rfl rfl))))⟩
    ·
     refine⟨_,rfl,rfl,(ao rfl (aX hf rfl rfl rfl bA (aF (ag hD23 rfl rfl rfl))))⟩
   refine aN 7 #[false,false,false,false,true,false,false,false] ⟨69,[(1,.adr (aO s)),(3,.adr (aO s)),(4,.ref 4 0 0 0)],[(4,.box [.s (.int .i64 0),.s (.int .i64 0),.s (.slice none 0 0),.s (.slice none 0 0),.s (.slice none 0 0),.s (.slice none 0 0)])]⟩ ?_ (fun hD27=>?_)
   ·
    refine aH 0 [2,5] (by kernel_rfl) ⟨?_,?_,?_,trivial⟩
    ·
     refine⟨_,rfl,rfl,(ao rfl (aE aA 1 rfl (aF (ag hD20 rfl rfl rfl))))⟩
    ·
     refine⟨_,rfl,rfl,(ao rfl (aE aA 1 rfl (aF (ag hD22 rfl rfl rfl))))⟩
    ·
     refine⟨_,rfl,rfl,(ao rfl (aX hf rfl rfl rfl bA (aF (ag hD24 rfl rfl rfl))))⟩
   refine aN 7 #[false,false,false,false,false,true,false,false] ⟨69,[(1,.adr (aO s)),(3,.adr (aO s)),(5,.ref 5 0 0 0)],[(5,.box [.s (.int .i64 0),.s (.int .i64 0),.s (.slice none 0 0),.s (.slice none 0 0),.s (.slice none 0 0),.s (.slice none 0 0)])]⟩ ?_ (fun hD28=>?_)
   ·
    refine aH 0 [2,4] (by kernel_rfl) ⟨?_,?_,?_,trivial⟩
    ·
     refine⟨_,rfl,rfl,(ao rfl (aE aA 1 rfl (aF (ag hD21 rfl rfl rfl))))⟩
    ·
     refine⟨_,rfl,rfl,(ao rfl (aE aA 1 rfl (aF (ag hD23 rfl rfl rfl))))⟩
    ·
     refine⟨_,rfl,rfl,(ao rfl (aX hf rfl rfl rfl bA (aF (ag hD24 rfl rfl rfl))))⟩
   refine jM (oY (sl':=[(1,.adr (aO s)),(3,.adr (aO s))]) (m':=[]) rfl rfl rfl) (aH 0 [2,4,5] (by kernel_rfl) ⟨?_,?_,?_,?_,trivial⟩)
   ·
    refine⟨_,rfl,rfl,(ao rfl (aE aA 1 rfl (aF (ag hD25 rfl rfl rfl))))⟩
   ·
    refine⟨_,rfl,rfl,(ao rfl (aE aA 1 rfl (aF (ag hD26 rfl rfl rfl))))⟩
   ·
    refine⟨_,rfl,rfl,(ao rfl (aX hf rfl rfl rfl bA (aF (ag hD27 rfl rfl rfl))))⟩
   ·
    refine⟨_,rfl,rfl,(ao rfl (aX hf rfl rfl rfl bA (aF (ag hD28 rfl rfl rfl))))⟩
 ·
  simp only[bs] at hg1
  refine aE aA 3 rfl (aD (hK3 _ (bM rfl (aC (fun K10 hK10=>(aB (aJ hf rfl (aK rfl rfl dB rfl (cV)) (aE aA 1 rfl (aD (hK10 _ (aI ?_)))))))))))
  refine⟨_,rfl,?_⟩
  rfl
end Go.Proofs.YtckjaledibkghaaGreat
set_option linter.unusedVariables false
set_option linter.unusedSimpArgs false
namespace Go.Proofs.YtckjaledibkghaaGreat
open Go Go.Abs
end Go.Proofs.YtckjaledibkghaaGreat
set_option linter.unusedVariables false
set_option linter.unusedSimpArgs false
namespace Go.Proofs.YtckjaledibkghaaGreat
open Go Go.Abs
end Go.Proofs.YtckjaledibkghaaGreat
namespace Go.Proofs.YtckjaledibkghaaGreat
open Go.ChangeShapes Go.WideShapes Go.ChangeAt Go.RowKit Go.Abs
set_option linter.unusedVariables false
theorem own:ownKnob Tryz.prog.godebug=none:=by kernel_rfl
theorem laid:laidOutB Tryz.prog=true:=by kernel_rfl
theorem aAa:tdOf? Tryz.prog 16 27=some (.agg [.int .i64,.int .i64,.sl 40 (.agg [.int .i64,.str,.int .i64,.int .i64]),.sl 40 (.agg [.str,.sl 32 (.agg [.int .i64,.int .i64,.int .i64,.int .i64])]),.sl 48 (.agg [.str,.str,.int .i64,.int .i64]),.sl 24 (.agg [.str,.int .i64])]):=by kernel_rfl
set_option maxRecDepth 100000 in
theorem vN (H:Type) (enc:TypeId×Value→H) (W:World) (base:Nat) (args:Array Value) (ds gs:List (DataW H)) (before:List MemPlace)
    (hval:∀ (j:Nat) t v,Tryz.f5.params[j]?=some t→args[j]?=some v→Value.okWide Tryz.prog W .any base t v)
    (hW:DataW.Whole enc Tryz.prog Tryz.f5.params.toList Rows.stateResetsSpec.vars false W args.toList ds gs before)
    (hsz:(DataW.weightsEach Tryz.prog (Tryz.f5.params.toList++Rows.stateResetsSpec.plain.varTypes Tryz.prog) (ds++gs)).all (·≤reachBytes)=true) :
    Calls Tryz.prog 5 args W fun e W'=>∃ v,e=.returned v∧Rows.stateResetsSpec.post enc Tryz.prog Tryz.f5 false true false false W args v W':=by
  have hW':=hW
  obtain ⟨p,q,hA0,hV,rfl,hfz,hnd⟩:=hW
  have hA:DataW.TrodAll enc Tryz.prog W 0 (fun _=>true) true Tryz.f5.params.toList args.toList ds p:=hA0
  rw[Tryz.params5] at hA hval
  obtain ⟨v0,vs0,d0,ds0,p0,q0,hargs,rfl,rfl,h0,r0⟩:=trodAll_cons hA
  obtain ⟨rfl,rfl,rfl⟩:=trodAll_nil r0
  obtain rfl:args=#[v0]:=by cases args; simp_all
  obtain ⟨c0,y0,a0⟩:=mV aAa dJ (hval 0 27 v0 rfl rfl) h0 (fY (i:=0) hsz (by rw[Tryz.params5]; rfl) rfl)
  obtain ⟨s,rfl,hz,ts⟩:=vL (by simpa only[Ty] using y0)
  refine(aDy s hz ts (fun _=>False) W [v0] (fun _ h=>h.elim) ⟨rfl,fun i c v hc hv=>?_⟩).mono fun e W' ⟨v,r,he,hr,hE,hv⟩=>?_
  · match i,hc,hv with
    | 0,hc,hv=>cases hc; cases hv; exact a0
  · subst hr
    cases hv
    exact⟨_,he,nI (t:=4) hW' (iY hE) laid (by rw[Tryz.params5]; decide +kernel) rfl (fun _=>rfl) (by kernel_rfl) (by kernel_rfl) Tryz.underlying4⟩
set_option maxRecDepth 100000 in
theorem yV (os:Os) (started:os.Started) (H:Type) (enc:TypeId×Value→H) (F:Stop.Interp) :
    ReturnsInHanded {} Tryz.checked os 5 .any (Rows.stateResetsSpec.pre6 enc Tryz.prog Tryz.f5 Rows.stateResetsRow.domain false) (Rows.stateResetsSpec.post enc Tryz.prog Tryz.f5 false true false false):=by
  refine returnsInHanded_of_change_sized (C:=Tryz.checked) (s:=Rows.stateResetsSpec) own started (by kernel_rfl) Tryz.func5
    (ChangeSpec.witness6 (enc:=enc) (C:=Tryz.checked) (s:=Rows.stateResetsSpec) false ⟨#[],#[.agg #[.int .i64 0,.int .i64 0,.slice none 0 0,.slice none 0 0,.slice none 0 0,.slice none 0 0]],[]⟩ 8 (by kernel_rfl) (by kernel_rfl) (by kernel_rfl) (by kernel_rfl)) ?_
  intro W base args ds gs before hval hW _ hsz _
  exact vN H enc W base args ds gs before hval hW hsz
theorem stateResets_proved:Rows.StateResetsSaid :=
  OpenClaim.holds_of_wide 5 Tryz.f5 rfl rfl rfl rfl rfl rfl rfl ⟨rfl,rfl,rfl,rfl,rfl⟩ rfl rfl rfl rfl rfl (by kernel_rfl) Tryz.func5 (by kernel_rfl)
    (of_decide_eq_true (by kernel_rfl)) (by unfold Func.isWrapper; first | (rw[if_pos (by decide +kernel)]; kernel_rfl) | (rw[if_neg (by decide +kernel)]; exact⟨rfl,rfl⟩))
    (fun os started H enc _=>yV os started H enc default)
end Go.Proofs.YtckjaledibkghaaGreat
