/-
  The law StateOthers: whatever the state, the event and the user, the call returns true, and all read behind it as they read before. No condition beyond the row's own.
-/
import Derived.Test.YtckjaledibkghaaGreatRows
import Derived.WalkKit
import Derived.ProofKit
import Derived.OpenShut
import Derived.JoinedCond
import Derived.SizedLaws
import Derived.Test.YtckjaledibkghaaGreatK1
import Derived.Test.YtckjaledibkghaaGreatK2
import Derived.Test.YtckjaledibkghaaGreatK3
import Derived.Test.YtckjaledibkghaaGreatK4
import Derived.Test.YtckjaledibkghaaGreatK5
import Derived.Test.YtckjaledibkghaaGreatK6
set_option maxRecDepth 20000
set_option maxHeartbeats 16000000
set_option linter.unusedVariables false
set_option linter.unusedSimpArgs false
namespace Go.Proofs.YtckjaledibkghaaGreat
open Go Go.Abs
end Go.Proofs.YtckjaledibkghaaGreat
set_option linter.unusedVariables false
set_option linter.unusedSimpArgs false
namespace Go.Proofs.YtckjaledibkghaaGreat
open Go Go.Abs
end Go.Proofs.YtckjaledibkghaaGreat
set_option linter.unusedVariables false
set_option linter.unusedSimpArgs false
namespace Go.Proofs.YtckjaledibkghaaGreat
open Go Go.Abs
theorem aD0 (s:Sta) (hz:SzS 140737488351232 s) (ts:TsS s) (e:Ev) (hu:TS e.user) (ho:TS e.other) (v:ByteArray) :Den Tryz.prog 9 [.agg (aO s),.agg (evC e),.s (.string v)]  (·=.s (.bool true)):=by
 have hzM:SzS 140737488352000 s:=hz.mono (by omega)
 refine aS Tryz.func9 rfl (Nat.le_of_ble_eq_true rfl) (fun w0 A hf=>(aC (fun K1 hK1=>(aB (aJ hf rfl (cI rfl rfl (lf rfl)) (aJ hf rfl (cI rfl rfl (lf rfl)) (aE aA 1 rfl (aD (hK1 _ (aC (fun K2 hK2=>(aC (fun K3 hK3=>(aB (aE aA 1 rfl (aJ hf rfl (aK rfl rfl lV rfl (lJ s hzM)) ?_))))))))))))))))
 refine aE aA 2 rfl (aW rfl rfl rfl (fun hg1=>?_) (fun hg1=>?_))
 ·
  simp only[bs] at hg1
  refine aG rfl (sL rfl dJ cG rfl rfl) ?_
  refine bI rfl rfl rfl (aJ hf rfl (aK rfl rfl nF rfl (jH s (hz.mono (by omega)) ts)) (aE aA 3 rfl (aW rfl rfl rfl (fun hg2=>?_) (fun hg2=>?_))))
  ·
   simp only[bs] at hg2
   refine aG rfl (bF rfl aOb bZ rfl) ?_
   refine aE aA 4 rfl (aW rfl rfl rfl (fun hg3=>?_) (fun hg3=>?_))
   ·
    simp only[bs] at hg3
    refine aG rfl (bF rfl aC9 cR rfl) ?_
    refine aE aA 4 rfl (aD (hK3 _ (aL rfl (fun hc4=>?_) (fun hc4=>?_))))
    ·
     simp only[bs] at hc4
     refine aC (fun K4 hK4=>(aB (aJ hf rfl (aK rfl rfl dB rfl (cV)) (aE aA 1 rfl (aD (hK4 _ (aI ?_)))))))
     refine⟨_,rfl,?_⟩
     rfl
    ·
     simp only[bs] at hc4
     have hR:RightP s:=gZ.1 (by simp_all)
     have hzA:SzS 140737488352000 (aR s e).1:=xU hz hR.usr (by omega)
     have hRA:RightP (aR s e).1:=oP hR e
     have hk3:e.kind≤3:=by omega
     have hne:e.user≠v:=fun h=>by simp_all
     refine aM (hK2 _ (aC (fun K5 hK5=>(dY bE ?_))))
     refine aN 0 #[true,true,true,true,true,true,true,true,true,true] ⟨72,[(2,.s (.string v)),(3,.adr (aO s)),(4,.adr (evC e)),(7,.ref 7 0 0 0),(8,.s (.int .i64 (aR s e).2))],[(7,.box (aO (aR s e).1))]⟩ ?_ (fun hD0=>?_)
     ·
      refine dF (by kernel_rfl) ?_
      refine hK5 _ (aC (fun K6 hK6=>(aC (fun K7 hK7=>(aB (aE aA 2 rfl (aD (hK7 _ (aL rfl (fun hc5=>?_) (fun hc5=>?_))))))))))
      ·
       simp only[bs] at hc5
       refine aC (fun K8 hK8=>(aB (aJ hf rfl (aK rfl rfl dB rfl (cV)) (aE aA 1 rfl (aD (hK8 _ (aI ?_)))))))
       refine⟨_,rfl,?_⟩
       rfl
      ·
       simp only[bs] at hc5
       have h0:(aR s e).2=0:=by omega
       obtain ⟨o1,o2,o3⟩:=aMo (t:=e.at') hR hk3 hne h0
       refine aM (hK6 _ (aC (fun K9 hK9=>(cM hf bE (by kernel_rfl) rfl (aZ [] rfl rfl trivial rfl (aK rfl rfl dB rfl (cV)) (aT aA 5 rfl (aZ [(41,_),(42,_),(44,_)] rfl rfl ⟨⟨rfl,rfl⟩,⟨rfl,rfl⟩,⟨rfl,rfl⟩,trivial⟩ rfl (aK rfl rfl sA rfl ((show Den Tryz.prog _ _ (·=.sl 4 ((fN s v e.at').map stC)) from eL (aJ0 (aR s e).1 v e.at' hzA hRA) (by rw[o1])))) ?_)))))))
       refine aZ [(45,_)] rfl rfl ⟨⟨rfl,rfl⟩,trivial⟩ rfl (aK rfl rfl vA rfl (zG s v e.at' hzM hR)) (aT aA 4 rfl (aZ [(47,_),(48,_),(50,_)] rfl rfl ⟨⟨rfl,rfl⟩,⟨rfl,rfl⟩,⟨rfl,rfl⟩,trivial⟩ rfl (aK rfl rfl zU rfl (aBr s v e.at' hzM hR)) (aZ [(46,_),(51,_)] rfl rfl ⟨⟨rfl,rfl⟩,⟨rfl,rfl⟩,trivial⟩ rfl (aK rfl rfl vB rfl (zC s v e.at' hzM hR)) (aT aA 8 rfl (bL [(57,_),(60,_)] rfl rfl ⟨⟨rfl,rfl⟩,⟨rfl,rfl⟩,trivial⟩ rfl (cU rfl rfl (gK (by simp only[List.length_map,o2]))) ?_)))))
       refine aT aA 8 rfl (bL [(66,_),(69,_)] rfl rfl ⟨⟨rfl,rfl⟩,⟨rfl,rfl⟩,trivial⟩ rfl (cU rfl rfl (gK (by simp only[List.length_map,o3]))) ?_)
       refine aT aA 2 rfl (cP [6] rfl rfl rfl (hK9 _ (aI ?_)))
       refine⟨_,rfl,?_⟩
       rfl
     refine aN 1 #[true,true,true,true,true,true,true,true,true,false] ⟨72,[(2,.s (.string v)),(3,.adr (aO s)),(4,.adr (evC e)),(7,.ref 7 0 0 0),(35,.s (.int .i64 (aR s e).2))],[(7,.box (aO (aR s e).1))]⟩ ?_ (fun hD1=>?_)
     ·
      refine aH 9 [] (by kernel_rfl) ⟨?_,trivial⟩
      ·
       refine⟨_,rfl,rfl,(ao rfl (aE aA 1 rfl (aF (ag hD0 rfl rfl rfl))))⟩
     refine aN 2 #[true,true,true,true,true,true,true,true,false,false] ⟨72,[(2,.s (.string v)),(3,.adr (aO s)),(4,.adr (evC e)),(7,.ref 7 0 0 0),(34,.agg (aO (aR s e).1)),(35,.s (.int .i64 (aR s e).2))],[(7,.box [.s (.int .i64 0),.s (.int .i64 0),.s (.slice none 0 0),.s (.slice none 0 0),.s (.slice none 0 0),.s (.slice none 0 0)])]⟩ ?_ (fun hD2=>?_)
     ·
      refine aH 8 [] (by kernel_rfl) ⟨?_,trivial⟩
      ·
       refine⟨_,rfl,rfl,(ao rfl (aU hf rfl rfl cC rfl rfl (l1 rfl) (l4 rfl) rfl (aF (ag hD1 rfl rfl rfl))))⟩
     refine aN 2 #[true,true,true,true,true,true,false,true,true,false] ⟨72,[(2,.s (.string v)),(3,.adr (aO s)),(4,.adr (evC e)),(7,.ref 7 0 0 0),(29,.tup [.agg (aO (aR s e).1),.s (.int .i64 (aR s e).2)])],[(7,.box (aO (aR s e).1))]⟩ ?_ (fun hD3=>?_)
     ·
      refine aH 6 [] (by kernel_rfl) ⟨?_,trivial⟩
      ·
       refine⟨_,rfl,rfl,(ao rfl (aE aA 1 rfl (aF (ag hD1 rfl rfl rfl))))⟩
     refine aN 3 #[true,true,true,true,true,true,true,false,false,false] ⟨72,[(2,.s (.string v)),(3,.adr (aO s)),(4,.adr (evC e)),(34,.agg (aO (aR s e).1)),(35,.s (.int .i64 (aR s e).2))],[]⟩ ?_ (fun hD4=>?_)
     ·
      refine aH 7 [] (by kernel_rfl) ⟨?_,trivial⟩
      ·
       refine⟨_,rfl,rfl,(ao rfl (aX hf rfl rfl rfl bA (aF (ag hD2 rfl rfl rfl))))⟩
     refine aN 3 #[true,true,true,true,true,true,false,true,false,false] ⟨72,[(2,.s (.string v)),(3,.adr (aO s)),(4,.adr (evC e)),(7,.ref 7 0 0 0),(29,.tup [.agg (aO (aR s e).1),.s (.int .i64 (aR s e).2)]),(34,.agg (aO (aR s e).1))],[(7,.box [.s (.int .i64 0),.s (.int .i64 0),.s (.slice none 0 0),.s (.slice none 0 0),.s (.slice none 0 0),.s (.slice none 0 0)])]⟩ ?_ (fun hD5=>?_)
     ·
      refine aH 6 [8] (by kernel_rfl) ⟨?_,?_,trivial⟩
      ·
       refine⟨_,rfl,rfl,(ao rfl (aE aA 1 rfl (aF (ag hD2 rfl rfl rfl))))⟩
      ·
       refine⟨_,rfl,rfl,(ao rfl (aU hf rfl rfl cC rfl rfl (l1 rfl) (l4 rfl) rfl (aF (ag hD3 rfl rfl rfl))))⟩
     refine aN 3 #[true,true,true,true,true,false,true,true,false,false] ⟨72,[(2,.s (.string v)),(3,.adr (aO s)),(4,.adr (evC e)),(7,.ref 7 0 0 0),(29,.tup [.agg (aO (aR s e).1),.s (.int .i64 (aR s e).2)]),(35,.s (.int .i64 (aR s e).2))],[(7,.box [.s (.int .i64 0),.s (.int .i64 0),.s (.slice none 0 0),.s (.slice none 0 0),.s (.slice none 0 0),.s (.slice none 0 0)])]⟩ ?_ (fun hD6=>?_)
     ·
      refine aH 5 [] (by kernel_rfl) ⟨?_,trivial⟩
      ·
       refine⟨_,rfl,rfl,(ao rfl (aE aA 1 rfl (aF (ag hD2 rfl rfl rfl))))⟩
     refine aN 4 #[true,true,true,true,true,true,false,false,false,false] ⟨72,[(2,.s (.string v)),(3,.adr (aO s)),(4,.adr (evC e)),(29,.tup [.agg (aO (aR s e).1),.s (.int .i64 (aR s e).2)]),(34,.agg (aO (aR s e).1))],[]⟩ ?_ (fun hD7=>?_)
     ·
      refine aH 6 [7] (by kernel_rfl) ⟨?_,?_,trivial⟩
      ·
       refine⟨_,rfl,rfl,(ao rfl (aE aA 1 rfl (aF (ag hD4 rfl rfl rfl))))⟩
      ·
       refine⟨_,rfl,rfl,(ao rfl (aX hf rfl rfl rfl bA (aF (ag hD5 rfl rfl rfl))))⟩
     refine aN 4 #[true,true,true,true,true,false,true,false,false,false] ⟨72,[(2,.s (.string v)),(3,.adr (aO s)),(4,.adr (evC e)),(29,.tup [.agg (aO (aR s e).1),.s (.int .i64 (aR s e).2)]),(35,.s (.int .i64 (aR s e).2))],[]⟩ ?_ (fun hD8=>?_)
     ·
      refine aH 5 [7] (by kernel_rfl) ⟨?_,?_,trivial⟩
      ·
       refine⟨_,rfl,rfl,(ao rfl (aE aA 1 rfl (aF (ag hD4 rfl rfl rfl))))⟩
      ·
       refine⟨_,rfl,rfl,(ao rfl (aX hf rfl rfl rfl bA (aF (ag hD6 rfl rfl rfl))))⟩
     refine aN 4 #[true,true,true,true,true,false,false,true,false,false] ⟨72,[(2,.s (.string v)),(3,.adr (aO s)),(4,.adr (evC e)),(7,.ref 7 0 0 0),(29,.tup [.agg (aO (aR s e).1),.s (.int .i64 (aR s e).2)])],[(7,.box [.s (.int .i64 0),.s (.int .i64 0),.s (.slice none 0 0),.s (.slice none 0 0),.s (.slice none 0 0),.s (.slice none 0 0)])]⟩ ?_ (fun hD9=>?_)
     ·
      refine aH 5 [6] (by kernel_rfl) ⟨?_,?_,trivial⟩
      ·
       refine⟨_,rfl,rfl,(ao rfl (aE aA 1 rfl (aF (ag hD5 rfl rfl rfl))))⟩
      ·
       refine⟨_,rfl,rfl,(ao rfl (aE aA 1 rfl (aF (ag hD6 rfl rfl rfl))))⟩
     refine aN 5 #[true,true,true,true,true,false,false,false,false,false] ⟨72,[(2,.s (.string v)),(3,.adr (aO s)),(4,.adr (evC e)),(29,.tup [.agg (aO (aR s e).1),.s (.int .i64 (aR s e).2)])],[]⟩ ?_ (fun hD10=>?_)
     ·
      refine aH 5 [6,7] (by kernel_rfl) ⟨?_,?_,?_,trivial⟩
      ·
       refine⟨_,rfl,rfl,(ao rfl (aE aA 1 rfl (aF (ag hD7 rfl rfl rfl))))⟩
      ·
       refine⟨_,rfl,rfl,(ao rfl (aE aA 1 rfl (aF (ag hD8 rfl rfl rfl))))⟩
      ·
       refine⟨_,rfl,rfl,(ao rfl (aX hf rfl rfl rfl bA (aF (ag hD9 rfl rfl rfl))))⟩
     refine aN 5 #[true,true,true,true,false,false,false,true,false,false] ⟨72,[(2,.s (.string v)),(3,.adr (aO s)),(4,.adr (evC e)),(7,.ref 7 0 0 0),(33,.tup [.agg (aO (aR s e).1),.s (.int .i64 (aR s e).2)])],[(7,.box [.s (.int .i64 0),.s (.int .i64 0),.s (.slice none 0 0),.s (.slice none 0 0),.s (.slice none 0 0),.s (.slice none 0 0)])]⟩ ?_ (fun hD11=>?_)
     ·
      refine aH 4 [] (by kernel_rfl) ⟨?_,trivial⟩
      ·
       refine⟨_,rfl,rfl,(ao rfl (aE aA 1 rfl (aF (ag hD9 rfl rfl rfl))))⟩
     refine aN 6 #[true,true,true,true,false,false,false,false,false,false] ⟨72,[(2,.s (.string v)),(3,.adr (aO s)),(4,.adr (evC e)),(33,.tup [.agg (aO (aR s e).1),.s (.int .i64 (aR s e).2)])],[]⟩ ?_ (fun hD12=>?_)
     ·
      refine aH 4 [7] (by kernel_rfl) ⟨?_,?_,trivial⟩
      ·
       refine⟨_,rfl,rfl,(ao rfl (aE aA 1 rfl (aF (ag hD10 rfl rfl rfl))))⟩
      ·
       refine⟨_,rfl,rfl,(ao rfl (aX hf rfl rfl rfl bA (aF (ag hD11 rfl rfl rfl))))⟩
     refine aN 6 #[true,true,true,false,false,false,false,true,false,false] ⟨72,[(2,.s (.string v)),(3,.adr (aO s)),(4,.adr (evC e)),(7,.ref 7 0 0 0),(31,.agg (aO s)),(32,.agg (evC e))],[(7,.box [.s (.int .i64 0),.s (.int .i64 0),.s (.slice none 0 0),.s (.slice none 0 0),.s (.slice none 0 0),.s (.slice none 0 0)])]⟩ ?_ (fun hD13=>?_)
     ·
      refine aH 3 [] (by kernel_rfl) ⟨?_,trivial⟩
      ·
       refine⟨_,rfl,rfl,(ao rfl (aJ hf rfl (aK rfl rfl gR rfl (wO s e hzM hR hu ho)) (aF (ag hD11 rfl rfl rfl))))⟩
     refine aN 7 #[true,true,true,false,false,false,false,false,false,false] ⟨72,[(2,.s (.string v)),(3,.adr (aO s)),(4,.adr (evC e)),(31,.agg (aO s)),(32,.agg (evC e))],[]⟩ ?_ (fun hD14=>?_)
     ·
      refine aH 3 [7] (by kernel_rfl) ⟨?_,?_,trivial⟩
      ·
       refine⟨_,rfl,rfl,(ao rfl (aJ hf rfl (aK rfl rfl gR rfl (wO s e hzM hR hu ho)) (aF (ag hD12 rfl rfl rfl))))⟩
      ·
       refine⟨_,rfl,rfl,(ao rfl (aX hf rfl rfl rfl bA (aF (ag hD13 rfl rfl rfl))))⟩
     refine aN 7 #[true,true,false,false,false,false,false,true,false,false] ⟨72,[(2,.s (.string v)),(3,.adr (aO s)),(4,.adr (evC e)),(7,.ref 7 0 0 0),(31,.agg (aO s))],[(7,.box [.s (.int .i64 0),.s (.int .i64 0),.s (.slice none 0 0),.s (.slice none 0 0),.s (.slice none 0 0),.s (.slice none 0 0)])]⟩ ?_ (fun hD15=>?_)
     ·
      refine aH 2 [] (by kernel_rfl) ⟨?_,trivial⟩
      ·
       refine⟨_,rfl,rfl,(ao rfl (aE aA 1 rfl (aF (ag hD13 rfl rfl rfl))))⟩
     refine aN 7 #[true,false,true,false,false,false,false,true,false,false] ⟨72,[(2,.s (.string v)),(3,.adr (aO s)),(4,.adr (evC e)),(7,.ref 7 0 0 0),(30,.agg (aO s)),(32,.agg (evC e))],[(7,.box [.s (.int .i64 0),.s (.int .i64 0),.s (.slice none 0 0),.s (.slice none 0 0),.s (.slice none 0 0),.s (.slice none 0 0)])]⟩ ?_ (fun hD16=>?_)
     ·
      refine aH 1 [] (by kernel_rfl) ⟨?_,trivial⟩
      ·
       refine⟨_,rfl,rfl,(ao rfl (aJ hf rfl (aK rfl rfl gF rfl (aAv s hzM)) (aF (ag hD13 rfl rfl rfl))))⟩
     refine aN 8 #[true,true,false,false,false,false,false,false,false,false] ⟨72,[(2,.s (.string v)),(3,.adr (aO s)),(4,.adr (evC e)),(31,.agg (aO s))],[]⟩ ?_ (fun hD17=>?_)
     ·
      refine aH 2 [7] (by kernel_rfl) ⟨?_,?_,trivial⟩
      ·
       refine⟨_,rfl,rfl,(ao rfl (aE aA 1 rfl (aF (ag hD14 rfl rfl rfl))))⟩
      ·
       refine⟨_,rfl,rfl,(ao rfl (aX hf rfl rfl rfl bA (aF (ag hD15 rfl rfl rfl))))⟩
     refine aN 8 #[true,false,true,false,false,false,false,false,false,false] ⟨72,[(2,.s (.string v)),(3,.adr (aO s)),(4,.adr (evC e)),(30,.agg (aO s)),(32,.agg (evC e))],[]⟩ ?_ (fun hD18=>?_)
     ·
      refine aH 1 [7] (by kernel_rfl) ⟨?_,?_,trivial⟩
      ·
       refine⟨_,rfl,rfl,(ao rfl (aJ hf rfl (aK rfl rfl gF rfl (aAv s hzM)) (aF (ag hD14 rfl rfl rfl))))⟩
      ·
       refine⟨_,rfl,rfl,(ao rfl (aX hf rfl rfl rfl bA (aF (ag hD16 rfl rfl rfl))))⟩
     refine aN 8 #[true,false,false,false,false,false,false,true,false,false] ⟨72,[(2,.s (.string v)),(3,.adr (aO s)),(4,.adr (evC e)),(7,.ref 7 0 0 0),(30,.agg (aO s))],[(7,.box [.s (.int .i64 0),.s (.int .i64 0),.s (.slice none 0 0),.s (.slice none 0 0),.s (.slice none 0 0),.s (.slice none 0 0)])]⟩ ?_ (fun hD19=>?_)
     ·
      refine aH 1 [2] (by kernel_rfl) ⟨?_,?_,trivial⟩
      ·
       refine⟨_,rfl,rfl,(ao rfl (aJ hf rfl (aK rfl rfl gF rfl (aAv s hzM)) (aF (ag hD15 rfl rfl rfl))))⟩
      ·
       refine⟨_,rfl,rfl,(ao rfl (aE aA 1 rfl (aF (ag hD16 rfl rfl rfl))))⟩
     refine aN 8 #[false,false,true,false,false,false,false,true,false,false] ⟨72,[(2,.s (.string v)),(3,.adr (aO s)),(4,.adr (evC e)),(7,.ref 7 0 0 0),(32,.agg (evC e))],[(7,.box [.s (.int .i64 0),.s (.int .i64 0),.s (.slice none 0 0),.s (.slice none 0 0),.s (.slice none 0 0),.s (.slice none 0 0)])]⟩ ?_ (fun hD20=>?_)
     ·
      refine aH 0 [] (by kernel_rfl) ⟨?_,trivial⟩
      ·
       refine⟨_,rfl,rfl,(ao rfl (aE aA 1 rfl (aF (ag hD16 rfl rfl rfl))))⟩
     refine aN 9 #[true,false,false,false,false,false,false,false,false,false] ⟨72,[(2,.s (.string v)),(3,.adr (aO s)),(4,.adr (evC e)),(30,.agg (aO s))],[]⟩ ?_ (fun hD21=>?_)
     ·
      refine aH 1 [2,7] (by kernel_rfl) ⟨?_,?_,?_,trivial⟩
      ·
       refine⟨_,rfl,rfl,(ao rfl (aJ hf rfl (aK rfl rfl gF rfl (aAv s hzM)) (aF (ag hD17 rfl rfl rfl))))⟩
      ·
       refine⟨_,rfl,rfl,(ao rfl (aE aA 1 rfl (aF (ag hD18 rfl rfl rfl))))⟩
      ·
       refine⟨_,rfl,rfl,(ao rfl (aX hf rfl rfl rfl bA (aF (ag hD19 rfl rfl rfl))))⟩
     refine aN 9 #[false,false,true,false,false,false,false,false,false,false] ⟨72,[(2,.s (.string v)),(3,.adr (aO s)),(4,.adr (evC e)),(32,.agg (evC e))],[]⟩ ?_ (fun hD22=>?_)
     ·
      refine aH 0 [7] (by kernel_rfl) ⟨?_,?_,trivial⟩
      ·
       refine⟨_,rfl,rfl,(ao rfl (aE aA 1 rfl (aF (ag hD18 rfl rfl rfl))))⟩
      ·
       refine⟨_,rfl,rfl,(ao rfl (aX hf rfl rfl rfl bA (aF (ag hD20 rfl rfl rfl))))⟩
     refine aN 9 #[false,false,false,false,false,false,false,true,false,false] ⟨72,[(2,.s (.string v)),(3,.adr (aO s)),(4,.adr (evC e)),(7,.ref 7 0 0 0)],[(7,.box [.s (.int .i64 0),.s (.int .i64 0),.s (.slice none 0 0),.s (.slice none 0 0),.s (.slice none 0 0),.s (.slice none 0 0)])]⟩ ?_ (fun hD23=>?_)
     ·
      refine aH 0 [2] (by kernel_rfl) ⟨?_,?_,trivial⟩
      ·
       refine⟨_,rfl,rfl,(ao rfl (aE aA 1 rfl (aF (ag hD19 rfl rfl rfl))))⟩
      ·
       refine⟨_,rfl,rfl,(ao rfl (aE aA 1 rfl (aF (ag hD20 rfl rfl rfl))))⟩
     refine jM (oY (sl':=[(2,.s (.string v)),(3,.adr (aO s)),(4,.adr (evC e))]) (m':=[]) rfl rfl rfl) (aH 0 [2,7] (by kernel_rfl) ⟨?_,?_,?_,trivial⟩)
     ·
      refine⟨_,rfl,rfl,(ao rfl (aE aA 1 rfl (aF (ag hD21 rfl rfl rfl))))⟩
     ·
      refine⟨_,rfl,rfl,(ao rfl (aE aA 1 rfl (aF (ag hD22 rfl rfl rfl))))⟩
     ·
      refine⟨_,rfl,rfl,(ao rfl (aX hf rfl rfl rfl bA (aF (ag hD23 rfl rfl rfl))))⟩
   ·
    simp only[bs] at hg3
    refine aE aA 4 rfl (aD (hK3 _ (bM rfl (aC (fun K10 hK10=>(aB (aJ hf rfl (aK rfl rfl dB rfl (cV)) (aE aA 1 rfl (aD (hK10 _ (aI ?_)))))))))))
    refine⟨_,rfl,?_⟩
    rfl
  ·
   simp only[bs] at hg2
   refine aE aA 9 rfl (aD (hK3 _ (bM rfl (aC (fun K11 hK11=>(aB (aJ hf rfl (aK rfl rfl dB rfl (cV)) (aE aA 1 rfl (aD (hK11 _ (aI ?_)))))))))))
   refine⟨_,rfl,?_⟩
   rfl
 ·
  simp only[bs] at hg1
  refine aE aA 14 rfl (aD (hK3 _ (bM rfl (aC (fun K12 hK12=>(aB (aJ hf rfl (aK rfl rfl dB rfl (cV)) (aE aA 1 rfl (aD (hK12 _ (aI ?_)))))))))))
  refine⟨_,rfl,?_⟩
  rfl
end Go.Proofs.YtckjaledibkghaaGreat
set_option linter.unusedVariables false
set_option linter.unusedSimpArgs false
namespace Go.Proofs.YtckjaledibkghaaGreat
open Go Go.Abs
end Go.Proofs.YtckjaledibkghaaGreat
namespace Go.Proofs.YtckjaledibkghaaGreat
open Go.ChangeShapes Go.WideShapes Go.ChangeAt Go.RowKit Go.Abs
set_option linter.unusedVariables false
theorem own:ownKnob Tryz.prog.godebug=none:=by kernel_rfl
theorem laid:laidOutB Tryz.prog=true:=by kernel_rfl
theorem td9:tdOf? Tryz.prog 16 9=some (.str):=by kernel_rfl
theorem aAa:tdOf? Tryz.prog 16 27=some (.agg [.int .i64,.int .i64,.sl 40 (.agg [.int .i64,.str,.int .i64,.int .i64]),.sl 40 (.agg [.str,.sl 32 (.agg [.int .i64,.int .i64,.int .i64,.int .i64])]),.sl 48 (.agg [.str,.str,.int .i64,.int .i64]),.sl 24 (.agg [.str,.int .i64])]):=by kernel_rfl
theorem aU6:tdOf? Tryz.prog 16 29=some (.agg [.int .i64,.int .i64,.str,.str,.int .i64,.int .i64]):=by kernel_rfl
set_option maxRecDepth 100000 in
theorem vP (H:Type) (enc:TypeId×Value→H) (W:World) (base:Nat) (args:Array Value) (ds gs:List (DataW H)) (before:List MemPlace)
    (hval:∀ (j:Nat) t v,Tryz.f9.params[j]?=some t→args[j]?=some v→Value.okWide Tryz.prog W .any base t v)
    (hW:DataW.Whole enc Tryz.prog Tryz.f9.params.toList Rows.stateOthersSpec.vars false W args.toList ds gs before)
    (hsz:(DataW.weightsEach Tryz.prog (Tryz.f9.params.toList++Rows.stateOthersSpec.plain.varTypes Tryz.prog) (ds++gs)).all (·≤reachBytes)=true) :
    Calls Tryz.prog 9 args W fun e W'=>∃ v,e=.returned v∧Rows.stateOthersSpec.post enc Tryz.prog Tryz.f9 false true false false W args v W':=by
  have hW':=hW
  obtain ⟨p,q,hA0,hV,rfl,hfz,hnd⟩:=hW
  have hA:DataW.TrodAll enc Tryz.prog W 0 (fun _=>true) true Tryz.f9.params.toList args.toList ds p:=hA0
  rw[Tryz.params9] at hA hval
  obtain ⟨v0,vs0,d0,ds0,p0,q0,hargs,rfl,rfl,h0,r0⟩:=trodAll_cons hA
  obtain ⟨v1,vs1,d1,ds1,p1,q1,rfl,rfl,rfl,h1,r1⟩:=trodAll_cons r0
  obtain ⟨v2,vs2,d2,ds2,p2,q2,rfl,rfl,rfl,h2,r2⟩:=trodAll_cons r1
  obtain ⟨rfl,rfl,rfl⟩:=trodAll_nil r2
  obtain rfl:args=#[v0,v1,v2]:=by cases args; simp_all
  obtain ⟨c0,y0,a0⟩:=mV aAa dJ (hval 0 27 v0 rfl rfl) h0 (fY (i:=0) hsz (by rw[Tryz.params9]; rfl) rfl)
  obtain ⟨s,rfl,hz,ts⟩:=vL (by simpa only[Ty] using y0)
  obtain ⟨c1,y1,a1⟩:=mV aU6 aGz (hval 1 29 v1 rfl rfl) h1 (fY (i:=1) hsz (by rw[Tryz.params9]; rfl) rfl)
  obtain ⟨e,rfl,he1,he2⟩:=aSg (by simpa only[Ty] using y1)
  obtain ⟨c2,y2,a2⟩:=aAn td9 aK9 (hval 2 9 v2 rfl rfl) h2 (fY (i:=2) hsz (by rw[Tryz.params9]; rfl) rfl)
  obtain ⟨v,rfl,hv⟩:=aPx y2
  have hvT:TS v:=Nat.le_trans hv (by decide)
  refine(aD0 s hz ts e he1 he2 v (fun _=>False) W [v0,v1,v2] (fun _ h=>h.elim) ⟨rfl,fun i c v hc hv=>?_⟩).mono fun e W' ⟨v,r,he,hr,hE,hv⟩=>?_
  · match i,hc,hv with
    | 0,hc,hv=>cases hc; cases hv; exact a0
    | 1,hc,hv=>cases hc; cases hv; exact a1
    | 2,hc,hv=>cases hc; cases hv; exact a2
  · subst hr
    cases hv
    exact⟨_,he,nI (t:=4) hW' (iY hE) laid (by rw[Tryz.params9]; decide +kernel) rfl (fun _=>rfl) (by kernel_rfl) (by kernel_rfl) Tryz.underlying4⟩
set_option maxRecDepth 100000 in
theorem yX (os:Os) (started:os.Started) (H:Type) (enc:TypeId×Value→H) (F:Stop.Interp) :
    ReturnsInHanded {} Tryz.checked os 9 .any (Rows.stateOthersSpec.pre6 enc Tryz.prog Tryz.f9 Rows.stateOthersRow.domain false) (Rows.stateOthersSpec.post enc Tryz.prog Tryz.f9 false true false false):=by
  refine returnsInHanded_of_change_sized (C:=Tryz.checked) (s:=Rows.stateOthersSpec) own started (by kernel_rfl) Tryz.func9
    (ChangeSpec.witness6 (enc:=enc) (C:=Tryz.checked) (s:=Rows.stateOthersSpec) false ⟨#[],#[.agg #[.int .i64 0,.int .i64 0,.slice none 0 0,.slice none 0 0,.slice none 0 0,.slice none 0 0],.agg #[.int .i64 0,.int .i64 0,.string ⟨#[]⟩,.string ⟨#[]⟩,.int .i64 0,.int .i64 0],.string ⟨#[]⟩],[]⟩ 8 (by kernel_rfl) (by kernel_rfl) (by kernel_rfl) (by kernel_rfl)) ?_
  intro W base args ds gs before hval hW _ hsz _
  exact vP H enc W base args ds gs before hval hW hsz
theorem stateOthers_proved:Rows.StateOthersSaid :=
  OpenClaim.holds_of_wide 9 Tryz.f9 rfl rfl rfl rfl rfl rfl rfl ⟨rfl,rfl,rfl,rfl,rfl⟩ rfl rfl rfl rfl rfl (by kernel_rfl) Tryz.func9 (by kernel_rfl)
    (of_decide_eq_true (by kernel_rfl)) (by unfold Func.isWrapper; first | (rw[if_pos (by decide +kernel)]; kernel_rfl) | (rw[if_neg (by decide +kernel)]; exact⟨rfl,rfl⟩))
    (fun os started H enc _=>yX os started H enc default)
end Go.Proofs.YtckjaledibkghaaGreat
