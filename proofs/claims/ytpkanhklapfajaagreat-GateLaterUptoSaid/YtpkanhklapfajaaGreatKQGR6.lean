/-
  The law GateLater, in its second form: whatever the state, the question and how much later, the call returns true, and all read behind it as they read before. Condition: all that is handed over takes no more than 1048576 places, counted each time they are reached.
-/
import Derived.Test.YtpkanhklapfajaaGreatRows
import Derived.WalkKit
import Derived.ProofKit
import Derived.OpenShut
import Derived.JoinedCond
import Derived.SizedLaws
import Derived.Deep.CondSized
import Derived.Test.YtpkanhklapfajaaGreatKQ1
import Derived.Test.YtpkanhklapfajaaGreatKQ2
import Derived.Test.YtpkanhklapfajaaGreatKQ3
import Derived.Test.YtpkanhklapfajaaGreatKQ4
import Derived.Test.YtpkanhklapfajaaGreatKQ5
import Derived.Test.YtpkanhklapfajaaGreatKQ6
set_option maxRecDepth 20000
set_option maxHeartbeats 16000000
set_option linter.unusedVariables false
set_option linter.unusedSimpArgs false
namespace Go.Proofs.YtpkanhklapfajaaGreat
open Go Go.Abs
end Go.Proofs.YtpkanhklapfajaaGreat
set_option linter.unusedVariables false
set_option linter.unusedSimpArgs false
namespace Go.Proofs.YtpkanhklapfajaaGreat
open Go Go.Abs
end Go.Proofs.YtpkanhklapfajaaGreat
set_option linter.unusedVariables false
set_option linter.unusedSimpArgs false
namespace Go.Proofs.YtpkanhklapfajaaGreat
open Go Go.Abs
theorem aIh (s:Sta) (hz:SzS 140737488351232 s) (ts:TsS s) (hc:dZ s+s.usr.length≤1048576) (p:Pr) (q:Sp) (t:Int) (h1:TS p.1) (h2:TS p.2) (ht0:-9223372036854775808≤t) (d:Int) :Den Tryz.prog 8 [.agg (aT s),.agg (cL p q t),.s (.int .i64 d)]  (·=.s (.bool true)):=by
 have hzM:SzS 140737488353280 s:=hz.mono (by omega)
 have hmi:=uO hc
 refine aR Tryz.func8 rfl (Nat.le_of_ble_eq_true rfl) (fun w0 A hf=>(aC (fun K1 hK1=>(aB (aI hf rfl (cE rfl rfl (lf rfl)) (aI hf rfl (cE rfl rfl (lf rfl)) (aE aA 1 rfl (aD (hK1 _ (aC (fun K2 hK2=>(aC (fun K3 hK3=>(aB (aE aA 1 rfl (aI hf rfl (aK rfl rfl rX rfl (rL s hzM)) ?_))))))))))))))))
 refine aE aA 2 rfl (aU rfl rfl rfl (fun hg1=>?_) (fun hg1=>?_))
 ·
  simp only[bs] at hg1
  refine aH rfl (xX rfl mO xK rfl rfl) ?_
  refine aX rfl rfl rfl (aI hf rfl (aK rfl rfl rW rfl (mI s (hz.mono (by omega)) ts)) (aE aA 3 rfl (aU rfl rfl rfl (fun hg2=>?_) (fun hg2=>?_))))
  ·
   simp only[bs] at hg2
   refine aH rfl (fZ rfl) (aE aA 3 rfl (aU rfl rfl rfl (fun hg3=>?_) (fun hg3=>?_)))
   ·
    simp only[bs] at hg3
    refine aH rfl (fZ rfl) (aE aA 3 rfl (aU rfl rfl rfl (fun hg4=>?_) (fun hg4=>?_)))
    ·
     simp only[bs] at hg4
     refine aH rfl (bM rfl aDl cA rfl) ?_
     refine aE aA 3 rfl (aD (hK3 _ (aL rfl (fun hc5=>?_) (fun hc5=>?_))))
     ·
      simp only[bs] at hc5
      refine aC (fun K4 hK4=>(aB (aI hf rfl (aK rfl rfl cW rfl (cN)) (aE aA 1 rfl (aD (hK4 _ (aJ ?_)))))))
      refine⟨_,rfl,?_⟩
      rfl
     ·
      simp only[bs] at hc5
      have hR:RightP s:=jV.1 (by simp_all)
      have hcn:dZ s≤100:=by omega
      have hs:∀ t,(dE s p.2 t).length≤102:=fun t=>by have:=mY hR p.2 t; omega
      have hb:s.sub.length≤101:=by unfold dZ at hcn; omega
      have hrl:∀ q t,(eC s p q t).length≤100000:=fun q t=>tJ (hs t) hb
      have hr1:=hrl q t
      have hr2:=hrl q (t+d)
      have hd0:0≤d:=by omega
      have hd1:d≤1000:=by omega
      have ht1:t≤1073741824:=by omega
      refine aN (hK2 _ (aC (fun K5 hK5=>(eH bE ?_))))
      refine aM 0 #[true,true,true,true,true,true,true,true] ⟨76,[(2,.s (.int .i64 d)),(7,.ref 7 0 0 0),(8,.ref 8 0 0 0)],[(8,.box (cL p q t)),(7,.box (aT s))]⟩ ?_ (fun hD0=>?_)
      ·
       refine bX (by kernel_rfl) ?_
       refine hK5 _ (aC (fun K6 hK6=>(aB (aE aA 2 rfl (aI hf rfl (aK rfl rfl gA rfl (gT s p q t h1 h2 hzM hR (hs t) hb)) (aE aA 5 rfl (aD (hK6 _ (aC (fun K7 hK7=>(aB (aE aA 3 rfl (aD (hK7 _ ?_))))))))))))))
       refine aC (fun K8 hK8=>(aB (aE aA 3 rfl ?_)))
       refine aH rfl (bO rfl rfl (by omega) (by omega)) ?_
       refine aE aA 1 rfl (bB hf rfl rfl cA rfl rfl (l1 rfl) (l4 rfl) rfl (aD (hK8 _ (aC (fun K9 hK9=>(aB (aE aA 2 rfl (aI hf rfl (aK rfl rfl gA rfl (gT s p q (t+d) h1 h2 hzM hR (hs (t+d)) hb)) (aE aA 5 rfl (aD (hK9 _ (aC (fun K10 hK10=>(aC (fun K11 hK11=>?_)))))))))))))))
       refine aB (aE aA 2 rfl (aD (hK11 _ (aL rfl (fun hc6=>?_) (fun hc6=>?_)))))
       ·
        simp only[bs] at hc6
        refine aC (fun K12 hK12=>(aB (aI hf rfl (aK rfl rfl cW rfl (cN)) (aE aA 1 rfl (aD (hK12 _ (aJ ?_)))))))
        refine⟨_,rfl,?_⟩
        rfl
       ·
        simp only[bs] at hc6
        have h0:fU s p t=0:=by simp_all
        have h3:fU s p (t+d)=0:=aUg h0 hd0 hd1 ht1
        refine aN (hK10 _ (aC (fun K13 hK13=>(aB (aI hf rfl (aK rfl rfl cW rfl (cN)) (aE aA 2 rfl (aX rfl rfl rfl (aH rfl (fG rfl rfl (iO (h3))) (aE aA 4 rfl (aX rfl rfl rfl (aH rfl (bR rfl fI jB (l3 rfl) rfl) (aX rfl rfl rfl (aI hf rfl (aS iG rfl rfl rfl rfl (l2 rfl)) ?_)))))))))))))
        refine aX rfl rfl rfl (aI hf rfl (aK rfl rfl vF rfl ((show Den Tryz.prog _ _ (·=.sl 4 ((eC s p q t).map stC)) from kO (aGw (eC s p q (t+d)) [(-1125899906842624,t)] (by omega) (by simp)) (by rw[aM5 hR h0 h3 hd0])))) ?_)
        refine aE aA 1 rfl (aX rfl rfl rfl (aI hf rfl (aK rfl rfl vG rfl (uF (eC s p q t) _ rfl (by omega))) (aE aA 2 rfl (aD (hK13 _ (aJ ?_))))))
        refine⟨_,rfl,?_⟩
        rfl
      refine aM 1 #[true,true,true,true,true,true,true,false] ⟨76,[(2,.s (.int .i64 d)),(7,.ref 7 0 0 0),(8,.ref 8 0 0 0),(39,.agg (cL p q t))],[(8,.box [.s (.string ⟨#[]⟩),.s (.string ⟨#[]⟩),.s (.int .i64 0),.s (.int .i64 0),.s (.int .i64 0)]),(7,.box (aT s))]⟩ ?_ (fun hD1=>?_)
      ·
       refine aG 7 [] (by kernel_rfl) ⟨?_,trivial⟩
       ·
        refine⟨_,rfl,rfl,(ao rfl (bB hf rfl rfl aHr rfl rfl (l1 rfl) (l4 rfl) rfl (aF (ag hD0 rfl rfl rfl))))⟩
      refine aM 2 #[true,true,true,true,true,true,false,false] ⟨76,[(2,.s (.int .i64 d)),(7,.ref 7 0 0 0),(8,.ref 8 0 0 0),(37,.agg (aT s)),(39,.agg (cL p q t))],[(8,.box [.s (.string ⟨#[]⟩),.s (.string ⟨#[]⟩),.s (.int .i64 0),.s (.int .i64 0),.s (.int .i64 0)]),(7,.box [.s (.int .i64 0),.s (.int .i64 0),.s (.slice none 0 0),.s (.slice none 0 0),.s (.slice none 0 0),.s (.slice none 0 0)])]⟩ ?_ (fun hD2=>?_)
      ·
       refine aG 6 [] (by kernel_rfl) ⟨?_,trivial⟩
       ·
        refine⟨_,rfl,rfl,(ao rfl (bB hf rfl rfl cG rfl rfl (l1 rfl) (l4 rfl) rfl (aF (ag hD1 rfl rfl rfl))))⟩
      refine aM 3 #[true,true,true,true,true,false,false,false] ⟨76,[(2,.s (.int .i64 d)),(7,.ref 7 0 0 0),(37,.agg (aT s)),(39,.agg (cL p q t))],[(7,.box [.s (.int .i64 0),.s (.int .i64 0),.s (.slice none 0 0),.s (.slice none 0 0),.s (.slice none 0 0),.s (.slice none 0 0)])]⟩ ?_ (fun hD3=>?_)
      ·
       refine aG 5 [] (by kernel_rfl) ⟨?_,trivial⟩
       ·
        refine⟨_,rfl,rfl,(ao rfl (aW hf rfl rfl rfl dD (aF (ag hD2 rfl rfl rfl))))⟩
      refine aM 3 #[true,true,true,true,false,true,false,false] ⟨76,[(2,.s (.int .i64 d)),(8,.ref 8 0 0 0),(37,.agg (aT s)),(39,.agg (cL p q t))],[(8,.box [.s (.string ⟨#[]⟩),.s (.string ⟨#[]⟩),.s (.int .i64 0),.s (.int .i64 0),.s (.int .i64 0)])]⟩ ?_ (fun hD4=>?_)
      ·
       refine aG 4 [] (by kernel_rfl) ⟨?_,trivial⟩
       ·
        refine⟨_,rfl,rfl,(ao rfl (aW hf rfl rfl rfl bA (aF (ag hD2 rfl rfl rfl))))⟩
      refine aM 3 #[true,true,true,false,true,true,false,false] ⟨76,[(2,.s (.int .i64 d)),(7,.ref 7 0 0 0),(8,.ref 8 0 0 0),(37,.agg (aT s)),(38,.agg (cL p q t))],[(8,.box [.s (.string ⟨#[]⟩),.s (.string ⟨#[]⟩),.s (.int .i64 0),.s (.int .i64 0),.s (.int .i64 0)]),(7,.box [.s (.int .i64 0),.s (.int .i64 0),.s (.slice none 0 0),.s (.slice none 0 0),.s (.slice none 0 0),.s (.slice none 0 0)])]⟩ ?_ (fun hD5=>?_)
      ·
       refine aG 3 [] (by kernel_rfl) ⟨?_,trivial⟩
       ·
        refine⟨_,rfl,rfl,(ao rfl (aI hf rfl (aK rfl rfl eF rfl (fH p q t)) (aF (ag hD2 rfl rfl rfl))))⟩
      refine aM 4 #[true,true,true,true,false,false,false,false] ⟨76,[(2,.s (.int .i64 d)),(37,.agg (aT s)),(39,.agg (cL p q t))],[]⟩ ?_ (fun hD6=>?_)
      ·
       refine aG 4 [5] (by kernel_rfl) ⟨?_,?_,trivial⟩
       ·
        refine⟨_,rfl,rfl,(ao rfl (aW hf rfl rfl rfl bA (aF (ag hD3 rfl rfl rfl))))⟩
       ·
        refine⟨_,rfl,rfl,(ao rfl (aW hf rfl rfl rfl dD (aF (ag hD4 rfl rfl rfl))))⟩
      refine aM 4 #[true,true,true,false,true,false,false,false] ⟨76,[(2,.s (.int .i64 d)),(7,.ref 7 0 0 0),(37,.agg (aT s)),(38,.agg (cL p q t))],[(7,.box [.s (.int .i64 0),.s (.int .i64 0),.s (.slice none 0 0),.s (.slice none 0 0),.s (.slice none 0 0),.s (.slice none 0 0)])]⟩ ?_ (fun hD7=>?_)
      ·
       refine aG 3 [5] (by kernel_rfl) ⟨?_,?_,trivial⟩
       ·
        refine⟨_,rfl,rfl,(ao rfl (aI hf rfl (aK rfl rfl eF rfl (fH p q t)) (aF (ag hD3 rfl rfl rfl))))⟩
       ·
        refine⟨_,rfl,rfl,(ao rfl (aW hf rfl rfl rfl dD (aF (ag hD5 rfl rfl rfl))))⟩
      refine aM 4 #[true,true,true,false,false,true,false,false] ⟨76,[(2,.s (.int .i64 d)),(8,.ref 8 0 0 0),(37,.agg (aT s)),(38,.agg (cL p q t))],[(8,.box [.s (.string ⟨#[]⟩),.s (.string ⟨#[]⟩),.s (.int .i64 0),.s (.int .i64 0),.s (.int .i64 0)])]⟩ ?_ (fun hD8=>?_)
      ·
       refine aG 3 [4] (by kernel_rfl) ⟨?_,?_,trivial⟩
       ·
        refine⟨_,rfl,rfl,(ao rfl (aI hf rfl (aK rfl rfl eF rfl (fH p q t)) (aF (ag hD4 rfl rfl rfl))))⟩
       ·
        refine⟨_,rfl,rfl,(ao rfl (aW hf rfl rfl rfl bA (aF (ag hD5 rfl rfl rfl))))⟩
      refine aM 4 #[true,true,false,false,true,true,false,false] ⟨76,[(2,.s (.int .i64 d)),(4,.adr (cL p q t)),(7,.ref 7 0 0 0),(8,.ref 8 0 0 0),(37,.agg (aT s))],[(8,.box [.s (.string ⟨#[]⟩),.s (.string ⟨#[]⟩),.s (.int .i64 0),.s (.int .i64 0),.s (.int .i64 0)]),(7,.box [.s (.int .i64 0),.s (.int .i64 0),.s (.slice none 0 0),.s (.slice none 0 0),.s (.slice none 0 0),.s (.slice none 0 0)])]⟩ ?_ (fun hD9=>?_)
      ·
       refine aG 2 [] (by kernel_rfl) ⟨?_,trivial⟩
       ·
        refine⟨_,rfl,rfl,(ao rfl (aE aA 1 rfl (aF (ag hD5 rfl rfl rfl))))⟩
      refine aM 4 #[true,false,true,false,true,true,false,false] ⟨76,[(2,.s (.int .i64 d)),(7,.ref 7 0 0 0),(8,.ref 8 0 0 0),(36,.agg (aT s)),(38,.agg (cL p q t))],[(8,.box [.s (.string ⟨#[]⟩),.s (.string ⟨#[]⟩),.s (.int .i64 0),.s (.int .i64 0),.s (.int .i64 0)]),(7,.box [.s (.int .i64 0),.s (.int .i64 0),.s (.slice none 0 0),.s (.slice none 0 0),.s (.slice none 0 0),.s (.slice none 0 0)])]⟩ ?_ (fun hD10=>?_)
      ·
       refine aG 1 [] (by kernel_rfl) ⟨?_,trivial⟩
       ·
        refine⟨_,rfl,rfl,(ao rfl (aI hf rfl (aK rfl rfl cS rfl (nQ s hzM)) (aF (ag hD5 rfl rfl rfl))))⟩
      refine aM 5 #[true,true,true,false,false,false,false,false] ⟨76,[(2,.s (.int .i64 d)),(37,.agg (aT s)),(38,.agg (cL p q t))],[]⟩ ?_ (fun hD11=>?_)
      ·
       refine aG 3 [4,5] (by kernel_rfl) ⟨?_,?_,?_,trivial⟩
       ·
        refine⟨_,rfl,rfl,(ao rfl (aI hf rfl (aK rfl rfl eF rfl (fH p q t)) (aF (ag hD6 rfl rfl rfl))))⟩
       ·
        refine⟨_,rfl,rfl,(ao rfl (aW hf rfl rfl rfl bA (aF (ag hD7 rfl rfl rfl))))⟩
       ·
        refine⟨_,rfl,rfl,(ao rfl (aW hf rfl rfl rfl dD (aF (ag hD8 rfl rfl rfl))))⟩
      refine aM 5 #[true,true,false,false,true,false,false,false] ⟨76,[(2,.s (.int .i64 d)),(4,.adr (cL p q t)),(7,.ref 7 0 0 0),(37,.agg (aT s))],[(7,.box [.s (.int .i64 0),.s (.int .i64 0),.s (.slice none 0 0),.s (.slice none 0 0),.s (.slice none 0 0),.s (.slice none 0 0)])]⟩ ?_ (fun hD12=>?_)
      ·
       refine aG 2 [5] (by kernel_rfl) ⟨?_,?_,trivial⟩
       ·
        refine⟨_,rfl,rfl,(ao rfl (aE aA 1 rfl (aF (ag hD7 rfl rfl rfl))))⟩
       ·
        refine⟨_,rfl,rfl,(ao rfl (aW hf rfl rfl rfl dD (aF (ag hD9 rfl rfl rfl))))⟩
      refine aM 5 #[true,true,false,false,false,true,false,false] ⟨76,[(2,.s (.int .i64 d)),(4,.adr (cL p q t)),(8,.ref 8 0 0 0),(37,.agg (aT s))],[(8,.box [.s (.string ⟨#[]⟩),.s (.string ⟨#[]⟩),.s (.int .i64 0),.s (.int .i64 0),.s (.int .i64 0)])]⟩ ?_ (fun hD13=>?_)
      ·
       refine aG 2 [4] (by kernel_rfl) ⟨?_,?_,trivial⟩
       ·
        refine⟨_,rfl,rfl,(ao rfl (aE aA 1 rfl (aF (ag hD8 rfl rfl rfl))))⟩
       ·
        refine⟨_,rfl,rfl,(ao rfl (aW hf rfl rfl rfl bA (aF (ag hD9 rfl rfl rfl))))⟩
      refine aM 5 #[true,false,true,false,true,false,false,false] ⟨76,[(2,.s (.int .i64 d)),(7,.ref 7 0 0 0),(36,.agg (aT s)),(38,.agg (cL p q t))],[(7,.box [.s (.int .i64 0),.s (.int .i64 0),.s (.slice none 0 0),.s (.slice none 0 0),.s (.slice none 0 0),.s (.slice none 0 0)])]⟩ ?_ (fun hD14=>?_)
      ·
       refine aG 1 [5] (by kernel_rfl) ⟨?_,?_,trivial⟩
       ·
        refine⟨_,rfl,rfl,(ao rfl (aI hf rfl (aK rfl rfl cS rfl (nQ s hzM)) (aF (ag hD7 rfl rfl rfl))))⟩
       ·
        refine⟨_,rfl,rfl,(ao rfl (aW hf rfl rfl rfl dD (aF (ag hD10 rfl rfl rfl))))⟩
      refine aM 5 #[true,false,true,false,false,true,false,false] ⟨76,[(2,.s (.int .i64 d)),(8,.ref 8 0 0 0),(36,.agg (aT s)),(38,.agg (cL p q t))],[(8,.box [.s (.string ⟨#[]⟩),.s (.string ⟨#[]⟩),.s (.int .i64 0),.s (.int .i64 0),.s (.int .i64 0)])]⟩ ?_ (fun hD15=>?_)
      ·
       refine aG 1 [4] (by kernel_rfl) ⟨?_,?_,trivial⟩
       ·
        refine⟨_,rfl,rfl,(ao rfl (aI hf rfl (aK rfl rfl cS rfl (nQ s hzM)) (aF (ag hD8 rfl rfl rfl))))⟩
       ·
        refine⟨_,rfl,rfl,(ao rfl (aW hf rfl rfl rfl bA (aF (ag hD10 rfl rfl rfl))))⟩
      refine aM 5 #[true,false,false,false,true,true,false,false] ⟨76,[(2,.s (.int .i64 d)),(4,.adr (cL p q t)),(7,.ref 7 0 0 0),(8,.ref 8 0 0 0),(36,.agg (aT s))],[(8,.box [.s (.string ⟨#[]⟩),.s (.string ⟨#[]⟩),.s (.int .i64 0),.s (.int .i64 0),.s (.int .i64 0)]),(7,.box [.s (.int .i64 0),.s (.int .i64 0),.s (.slice none 0 0),.s (.slice none 0 0),.s (.slice none 0 0),.s (.slice none 0 0)])]⟩ ?_ (fun hD16=>?_)
      ·
       refine aG 1 [2] (by kernel_rfl) ⟨?_,?_,trivial⟩
       ·
        refine⟨_,rfl,rfl,(ao rfl (aI hf rfl (aK rfl rfl cS rfl (nQ s hzM)) (aF (ag hD9 rfl rfl rfl))))⟩
       ·
        refine⟨_,rfl,rfl,(ao rfl (aE aA 1 rfl (aF (ag hD10 rfl rfl rfl))))⟩
      refine aM 5 #[false,false,true,false,true,true,false,false] ⟨76,[(2,.s (.int .i64 d)),(3,.adr (aT s)),(7,.ref 7 0 0 0),(8,.ref 8 0 0 0),(38,.agg (cL p q t))],[(8,.box [.s (.string ⟨#[]⟩),.s (.string ⟨#[]⟩),.s (.int .i64 0),.s (.int .i64 0),.s (.int .i64 0)]),(7,.box [.s (.int .i64 0),.s (.int .i64 0),.s (.slice none 0 0),.s (.slice none 0 0),.s (.slice none 0 0),.s (.slice none 0 0)])]⟩ ?_ (fun hD17=>?_)
      ·
       refine aG 0 [] (by kernel_rfl) ⟨?_,trivial⟩
       ·
        refine⟨_,rfl,rfl,(ao rfl (aE aA 1 rfl (aF (ag hD10 rfl rfl rfl))))⟩
      refine aM 6 #[true,true,false,false,false,false,false,false] ⟨76,[(2,.s (.int .i64 d)),(4,.adr (cL p q t)),(37,.agg (aT s))],[]⟩ ?_ (fun hD18=>?_)
      ·
       refine aG 2 [4,5] (by kernel_rfl) ⟨?_,?_,?_,trivial⟩
       ·
        refine⟨_,rfl,rfl,(ao rfl (aE aA 1 rfl (aF (ag hD11 rfl rfl rfl))))⟩
       ·
        refine⟨_,rfl,rfl,(ao rfl (aW hf rfl rfl rfl bA (aF (ag hD12 rfl rfl rfl))))⟩
       ·
        refine⟨_,rfl,rfl,(ao rfl (aW hf rfl rfl rfl dD (aF (ag hD13 rfl rfl rfl))))⟩
      refine aM 6 #[true,false,true,false,false,false,false,false] ⟨76,[(2,.s (.int .i64 d)),(36,.agg (aT s)),(38,.agg (cL p q t))],[]⟩ ?_ (fun hD19=>?_)
      ·
       refine aG 1 [4,5] (by kernel_rfl) ⟨?_,?_,?_,trivial⟩
       ·
        refine⟨_,rfl,rfl,(ao rfl (aI hf rfl (aK rfl rfl cS rfl (nQ s hzM)) (aF (ag hD11 rfl rfl rfl))))⟩
       ·
        refine⟨_,rfl,rfl,(ao rfl (aW hf rfl rfl rfl bA (aF (ag hD14 rfl rfl rfl))))⟩
       ·
        refine⟨_,rfl,rfl,(ao rfl (aW hf rfl rfl rfl dD (aF (ag hD15 rfl rfl rfl))))⟩
      refine aM 6 #[true,false,false,false,true,false,false,false] ⟨76,[(2,.s (.int .i64 d)),(4,.adr (cL p q t)),(7,.ref 7 0 0 0),(36,.agg (aT s))],[(7,.box [.s (.int .i64 0),.s (.int .i64 0),.s (.slice none 0 0),.s (.slice none 0 0),.s (.slice none 0 0),.s (.slice none 0 0)])]⟩ ?_ (fun hD20=>?_)
      ·
       refine aG 1 [2,5] (by kernel_rfl) ⟨?_,?_,?_,trivial⟩
       ·
        refine⟨_,rfl,rfl,(ao rfl (aI hf rfl (aK rfl rfl cS rfl (nQ s hzM)) (aF (ag hD12 rfl rfl rfl))))⟩
       ·
        refine⟨_,rfl,rfl,(ao rfl (aE aA 1 rfl (aF (ag hD14 rfl rfl rfl))))⟩
       ·
        refine⟨_,rfl,rfl,(ao rfl (aW hf rfl rfl rfl dD (aF (ag hD16 rfl rfl rfl))))⟩
      refine aM 6 #[true,false,false,false,false,true,false,false] ⟨76,[(2,.s (.int .i64 d)),(4,.adr (cL p q t)),(8,.ref 8 0 0 0),(36,.agg (aT s))],[(8,.box [.s (.string ⟨#[]⟩),.s (.string ⟨#[]⟩),.s (.int .i64 0),.s (.int .i64 0),.s (.int .i64 0)])]⟩ ?_ (fun hD21=>?_)
      ·
       refine aG 1 [2,4] (by kernel_rfl) ⟨?_,?_,?_,trivial⟩
       ·
        refine⟨_,rfl,rfl,(ao rfl (aI hf rfl (aK rfl rfl cS rfl (nQ s hzM)) (aF (ag hD13 rfl rfl rfl))))⟩
       ·
        refine⟨_,rfl,rfl,(ao rfl (aE aA 1 rfl (aF (ag hD15 rfl rfl rfl))))⟩
       ·
        refine⟨_,rfl,rfl,(ao rfl (aW hf rfl rfl rfl bA (aF (ag hD16 rfl rfl rfl))))⟩
      refine aM 6 #[false,false,true,false,true,false,false,false] ⟨76,[(2,.s (.int .i64 d)),(3,.adr (aT s)),(7,.ref 7 0 0 0),(38,.agg (cL p q t))],[(7,.box [.s (.int .i64 0),.s (.int .i64 0),.s (.slice none 0 0),.s (.slice none 0 0),.s (.slice none 0 0),.s (.slice none 0 0)])]⟩ ?_ (fun hD22=>?_)
      ·
       refine aG 0 [5] (by kernel_rfl) ⟨?_,?_,trivial⟩
       ·
        refine⟨_,rfl,rfl,(ao rfl (aE aA 1 rfl (aF (ag hD14 rfl rfl rfl))))⟩
       ·
        refine⟨_,rfl,rfl,(ao rfl (aW hf rfl rfl rfl dD (aF (ag hD17 rfl rfl rfl))))⟩
      refine aM 6 #[false,false,true,false,false,true,false,false] ⟨76,[(2,.s (.int .i64 d)),(3,.adr (aT s)),(8,.ref 8 0 0 0),(38,.agg (cL p q t))],[(8,.box [.s (.string ⟨#[]⟩),.s (.string ⟨#[]⟩),.s (.int .i64 0),.s (.int .i64 0),.s (.int .i64 0)])]⟩ ?_ (fun hD23=>?_)
      ·
       refine aG 0 [4] (by kernel_rfl) ⟨?_,?_,trivial⟩
       ·
        refine⟨_,rfl,rfl,(ao rfl (aE aA 1 rfl (aF (ag hD15 rfl rfl rfl))))⟩
       ·
        refine⟨_,rfl,rfl,(ao rfl (aW hf rfl rfl rfl bA (aF (ag hD17 rfl rfl rfl))))⟩
      refine aM 6 #[false,false,false,false,true,true,false,false] ⟨76,[(2,.s (.int .i64 d)),(3,.adr (aT s)),(4,.adr (cL p q t)),(7,.ref 7 0 0 0),(8,.ref 8 0 0 0)],[(8,.box [.s (.string ⟨#[]⟩),.s (.string ⟨#[]⟩),.s (.int .i64 0),.s (.int .i64 0),.s (.int .i64 0)]),(7,.box [.s (.int .i64 0),.s (.int .i64 0),.s (.slice none 0 0),.s (.slice none 0 0),.s (.slice none 0 0),.s (.slice none 0 0)])]⟩ ?_ (fun hD24=>?_)
      ·
       refine aG 0 [2] (by kernel_rfl) ⟨?_,?_,trivial⟩
       ·
        refine⟨_,rfl,rfl,(ao rfl (aE aA 1 rfl (aF (ag hD16 rfl rfl rfl))))⟩
       ·
        refine⟨_,rfl,rfl,(ao rfl (aE aA 1 rfl (aF (ag hD17 rfl rfl rfl))))⟩
      refine aM 7 #[true,false,false,false,false,false,false,false] ⟨76,[(2,.s (.int .i64 d)),(4,.adr (cL p q t)),(36,.agg (aT s))],[]⟩ ?_ (fun hD25=>?_)
      ·
       refine aG 1 [2,4,5] (by kernel_rfl) ⟨?_,?_,?_,?_,trivial⟩
       ·
        refine⟨_,rfl,rfl,(ao rfl (aI hf rfl (aK rfl rfl cS rfl (nQ s hzM)) (aF (ag hD18 rfl rfl rfl))))⟩
       ·
        refine⟨_,rfl,rfl,(ao rfl (aE aA 1 rfl (aF (ag hD19 rfl rfl rfl))))⟩
       ·
        refine⟨_,rfl,rfl,(ao rfl (aW hf rfl rfl rfl bA (aF (ag hD20 rfl rfl rfl))))⟩
       ·
        refine⟨_,rfl,rfl,(ao rfl (aW hf rfl rfl rfl dD (aF (ag hD21 rfl rfl rfl))))⟩
      refine aM 7 #[false,false,true,false,false,false,false,false] ⟨76,[(2,.s (.int .i64 d)),(3,.adr (aT s)),(38,.agg (cL p q t))],[]⟩ ?_ (fun hD26=>?_)
      ·
       refine aG 0 [4,5] (by kernel_rfl) ⟨?_,?_,?_,trivial⟩
       ·
        refine⟨_,rfl,rfl,(ao rfl (aE aA 1 rfl (aF (ag hD19 rfl rfl rfl))))⟩
       ·
        refine⟨_,rfl,rfl,(ao rfl (aW hf rfl rfl rfl bA (aF (ag hD22 rfl rfl rfl))))⟩
       ·
        refine⟨_,rfl,rfl,(ao rfl (aW hf rfl rfl rfl dD (aF (ag hD23 rfl rfl rfl))))⟩
      refine aM 7 #[false,false,false,false,true,false,false,false] ⟨76,[(2,.s (.int .i64 d)),(3,.adr (aT s)),(4,.adr (cL p q t)),(7,.ref 7 0 0 0)],[(7,.box [.s (.int .i64 0),.s (.int .i64 0),.s (.slice none 0 0),.s (.slice none 0 0),.s (.slice none 0 0),.s (.slice none 0 0)])]⟩ ?_ (fun hD27=>?_)
      ·
       refine aG 0 [2,5] (by kernel_rfl) ⟨?_,?_,?_,trivial⟩
       ·
        refine⟨_,rfl,rfl,(ao rfl (aE aA 1 rfl (aF (ag hD20 rfl rfl rfl))))⟩
       ·
        refine⟨_,rfl,rfl,(ao rfl (aE aA 1 rfl (aF (ag hD22 rfl rfl rfl))))⟩
       ·
        refine⟨_,rfl,rfl,(ao rfl (aW hf rfl rfl rfl dD (aF (ag hD24 rfl rfl rfl))))⟩
      refine aM 7 #[false,false,false,false,false,true,false,false] ⟨76,[(2,.s (.int .i64 d)),(3,.adr (aT s)),(4,.adr (cL p q t)),(8,.ref 8 0 0 0)],[(8,.box [.s (.string ⟨#[]⟩),.s (.string ⟨#[]⟩),.s (.int .i64 0),.s (.int .i64 0),.s (.int .i64 0)])]⟩ ?_ (fun hD28=>?_)
      ·
       refine aG 0 [2,4] (by kernel_rfl) ⟨?_,?_,?_,trivial⟩
       ·
        refine⟨_,rfl,rfl,(ao rfl (aE aA 1 rfl (aF (ag hD21 rfl rfl rfl))))⟩
       ·
        refine⟨_,rfl,rfl,(ao rfl (aE aA 1 rfl (aF (ag hD23 rfl rfl rfl))))⟩
       ·
        refine⟨_,rfl,rfl,(ao rfl (aW hf rfl rfl rfl bA (aF (ag hD24 rfl rfl rfl))))⟩
      refine kQ (sX (sl':=[(2,.s (.int .i64 d)),(3,.adr (aT s)),(4,.adr (cL p q t))]) (m':=[]) rfl rfl rfl) (aG 0 [2,4,5] (by kernel_rfl) ⟨?_,?_,?_,?_,trivial⟩)
      ·
       refine⟨_,rfl,rfl,(ao rfl (aE aA 1 rfl (aF (ag hD25 rfl rfl rfl))))⟩
      ·
       refine⟨_,rfl,rfl,(ao rfl (aE aA 1 rfl (aF (ag hD26 rfl rfl rfl))))⟩
      ·
       refine⟨_,rfl,rfl,(ao rfl (aW hf rfl rfl rfl bA (aF (ag hD27 rfl rfl rfl))))⟩
      ·
       refine⟨_,rfl,rfl,(ao rfl (aW hf rfl rfl rfl dD (aF (ag hD28 rfl rfl rfl))))⟩
    ·
     simp only[bs] at hg4
     refine aE aA 3 rfl (aD (hK3 _ (bN rfl (aC (fun K14 hK14=>(aB (aI hf rfl (aK rfl rfl cW rfl (cN)) (aE aA 1 rfl (aD (hK14 _ (aJ ?_)))))))))))
     refine⟨_,rfl,?_⟩
     rfl
   ·
    simp only[bs] at hg3
    refine aE aA 7 rfl (aD (hK3 _ (bN rfl (aC (fun K15 hK15=>(aB (aI hf rfl (aK rfl rfl cW rfl (cN)) (aE aA 1 rfl (aD (hK15 _ (aJ ?_)))))))))))
    refine⟨_,rfl,?_⟩
    rfl
  ·
   simp only[bs] at hg2
   refine aE aA 11 rfl (aD (hK3 _ (bN rfl (aC (fun K16 hK16=>(aB (aI hf rfl (aK rfl rfl cW rfl (cN)) (aE aA 1 rfl (aD (hK16 _ (aJ ?_)))))))))))
   refine⟨_,rfl,?_⟩
   rfl
 ·
  simp only[bs] at hg1
  refine aE aA 16 rfl (aD (hK3 _ (bN rfl (aC (fun K17 hK17=>(aB (aI hf rfl (aK rfl rfl cW rfl (cN)) (aE aA 1 rfl (aD (hK17 _ (aJ ?_)))))))))))
  refine⟨_,rfl,?_⟩
  rfl
end Go.Proofs.YtpkanhklapfajaaGreat
set_option linter.unusedVariables false
set_option linter.unusedSimpArgs false
namespace Go.Proofs.YtpkanhklapfajaaGreat
open Go Go.Abs
end Go.Proofs.YtpkanhklapfajaaGreat
set_option linter.unusedVariables false
set_option linter.unusedSimpArgs false
namespace Go.Proofs.YtpkanhklapfajaaGreat
open Go Go.Abs
end Go.Proofs.YtpkanhklapfajaaGreat
namespace Go.Proofs.YtpkanhklapfajaaGreat
open Go.ChangeShapes Go.WideShapes Go.ChangeAt Go.RowKit Go.Abs
set_option linter.unusedVariables false
theorem own:ownKnob Tryz.prog.godebug=none:=by kernel_rfl
theorem laid:laidOutB Tryz.prog=true:=by kernel_rfl
theorem td3:tdOf? Tryz.prog 16 3=some (.int .i64):=by kernel_rfl
theorem aKf:tdOf? Tryz.prog 16 27=some (.agg [.int .i64,.int .i64,.sl 40 (.agg [.int .i64,.str,.int .i64,.int .i64]),.sl 40 (.agg [.str,.sl 32 (.agg [.int .i64,.int .i64,.int .i64,.int .i64])]),.sl 48 (.agg [.str,.str,.int .i64,.int .i64]),.sl 24 (.agg [.str,.int .i64])]):=by kernel_rfl
theorem aKe:tdOf? Tryz.prog 16 29=some (.agg [.str,.str,.int .i64,.int .i64,.int .i64]):=by kernel_rfl
theorem iY {H:Type}:∀ l:List (DataW H),(l.map Rows.uptoBulk).sum=Rows.uptoBulkAll l
  | []=>rfl
  | d::l=>by simp only[List.map_cons,List.sum_cons,iY l,Rows.uptoBulkAll]
theorem uV {H:Type}:IsBulk (H:=H) Rows.uptoBulk:=⟨fun d=>by
    cases d with
    | lit l=>cases l <;> simp [Rows.uptoBulk]
    | nil=>simp [Rows.uptoBulk]
    | ptr d=>simp [Rows.uptoBulk]
    | slice elems spare=>simp [Rows.uptoBulk]
    | agg parts=>simp [Rows.uptoBulk]
    | iface t d=>simp [Rows.uptoBulk]
    | map entries=>simp [Rows.uptoBulk]
    | held h=>simp [Rows.uptoBulk],fun e s=>by rw[iY]; simp only[Rows.uptoBulk]; omega,fun p=>by rw[iY]; simp only[Rows.uptoBulk]; omega⟩
set_option maxRecDepth 100000 in
theorem zN (H:Type) (enc:TypeId×Value→H) (W:World) (base:Nat) (args:Array Value) (ds gs:List (DataW H)) (before:List MemPlace)
    (hval:∀ (j:Nat) t v,Tryz.f8.params[j]?=some t→args[j]?=some v→Value.okWide Tryz.prog W .any base t v)
    (hW:DataW.Whole enc Tryz.prog Tryz.f8.params.toList Rows.gateLaterSpec.vars false W args.toList ds gs before)
    (hk:Rows.uptoSmall H (ds++gs)=true)
    (hsz:(DataW.weightsEach Tryz.prog (Tryz.f8.params.toList++Rows.gateLaterSpec.plain.varTypes Tryz.prog) (ds++gs)).all (·≤reachBytes)=true) :
    Calls Tryz.prog 8 args W fun e W'=>∃ v,e=.returned v∧Rows.gateLaterSpec.post enc Tryz.prog Tryz.f8 false true false false W args v W':=by
  have hW':=hW
  obtain ⟨p,q,hA0,hV,rfl,hfz,hnd⟩:=hW
  have hA:DataW.TrodAll enc Tryz.prog W 0 (fun _=>true) true Tryz.f8.params.toList args.toList ds p:=hA0
  rw[Tryz.params8] at hA hval
  obtain ⟨v0,vs0,d0,ds0,p0,q0,hargs,rfl,rfl,h0,r0⟩:=trodAll_cons hA
  obtain ⟨v1,vs1,d1,ds1,p1,q1,rfl,rfl,rfl,h1,r1⟩:=trodAll_cons r0
  obtain ⟨v2,vs2,d2,ds2,p2,q2,rfl,rfl,rfl,h2,r2⟩:=trodAll_cons r1
  obtain ⟨rfl,rfl,rfl⟩:=trodAll_nil r2
  obtain rfl:args=#[v0,v1,v2]:=by cases args; simp_all
  have hbk:Rows.uptoBulkAll ([d0,d1,d2]++gs)≤1048576:=of_decide_eq_true hk
  simp only[List.cons_append,List.nil_append,Rows.uptoBulkAll] at hbk
  have hb0:Rows.uptoBulk d0≤1048576:=by omega
  have hb1:Rows.uptoBulk d1≤1048576:=by omega
  have hb2:Rows.uptoBulk d2≤1048576:=by omega
  obtain ⟨c0,y0,z0,a0⟩:=aAg uV aKf mO (hval 0 27 v0 rfl rfl) h0 (iE (i:=0) hsz (by rw[Tryz.params8]; rfl) rfl)
  obtain ⟨s,rfl,hz,ts⟩:=aE2 (by simpa only[Ty] using y0)
  have hcs:=aEk z0
  obtain ⟨c1,y1,a1⟩:=sF aKe wZ (hval 1 29 v1 rfl rfl) h1 (iE (i:=1) hsz (by rw[Tryz.params8]; rfl) rfl)
  obtain ⟨p,q,t,rfl,hp1,hp2,ht0,ht1⟩:=aE4 (by simpa only[Ty] using y1)
  obtain ⟨c2,y2,a2⟩:=aTq td3 lE (hval 2 3 v2 rfl rfl) h2 (iE (i:=2) hsz (by rw[Tryz.params8]; rfl) rfl)
  obtain ⟨dd,rfl,hdd⟩:=aQu y2
  refine(aIh s hz ts (by omega) p q t hp1 hp2 ht0 dd (fun _=>False) W [v0,v1,v2] (fun _ h=>h.elim) ⟨rfl,fun i c v hc hv=>?_⟩).mono fun e W' ⟨v,r,he,hr,hE,hv⟩=>?_
  · match i,hc,hv with
    | 0,hc,hv=>cases hc; cases hv; exact a0
    | 1,hc,hv=>cases hc; cases hv; exact a1
    | 2,hc,hv=>cases hc; cases hv; exact a2
  · subst hr
    cases hv
    exact⟨_,he,tE (t:=4) hW' (oE hE) laid (by rw[Tryz.params8]; decide +kernel) rfl (fun _=>rfl) (by kernel_rfl) (by kernel_rfl) Tryz.underlying4⟩
set_option maxRecDepth 100000 in
theorem aCb (os:Os) (started:os.Started) (H:Type) (enc:TypeId×Value→H) (F:Stop.Interp) :
    ReturnsInHanded {} Tryz.checked os 8 .any ((Rows.OpenSpec.upto Rows.gateLaterSpec).pre6 enc Tryz.prog Tryz.f8 Rows.gateLaterUptoRow.domain false) (((Rows.OpenSpec.upto Rows.gateLaterSpec).at F).post enc Tryz.prog Tryz.f8 false true false false):=by
  refine returnsInHanded_of_cond_sized (C:=Tryz.checked) (s:=(Rows.OpenSpec.upto Rows.gateLaterSpec)) (k:=Rows.uptoSmall) rfl own started (by kernel_rfl) Tryz.func8
    (OpenSpec.witness (enc:=enc) (C:=Tryz.checked) (s:=(Rows.OpenSpec.upto Rows.gateLaterSpec)) (k:=Rows.uptoSmall) rfl false ⟨#[],#[.agg #[.int .i64 0,.int .i64 0,.slice none 0 0,.slice none 0 0,.slice none 0 0,.slice none 0 0],.agg #[.string ⟨#[]⟩,.string ⟨#[]⟩,.int .i64 0,.int .i64 0,.int .i64 0],.int .i64 0],[]⟩ 8 (by kernel_rfl) (by kernel_rfl) (by kernel_rfl)
      (x:=([.agg [.lit (.int .i64 0),.lit (.int .i64 0),.nil,.nil,.nil,.nil],.agg [.lit (.string []),.lit (.string []),.lit (.int .i64 0),.lit (.int .i64 0),.lit (.int .i64 0)],.lit (.int .i64 0)],[],[])) (by kernel_rfl) rfl (by kernel_rfl)) ?_
  intro W base args ds gs before hval hW _ hk hsz _
  exact zN H enc W base args ds gs before hval hW hk hsz
theorem aLb:(Rows.gateLaterUptoRow.wf (OpenSpec.ofChange (Rows.OpenSpec.upto Rows.gateLaterSpec).bare)&&laidOutB Tryz.prog&&mapsRowed Tryz.prog)=true:=by kernel_rfl
theorem aLa:(Rows.gateLaterUptoRow.inPlace == Tryz.prog.inPlace 8)=true:=by kernel_rfl
theorem aK9:(Rows.gateLaterUptoRow.unfollowed == Tryz.prog.unfollowed 8)=true:=by kernel_rfl
theorem aK8:(Rows.gateLaterUptoRow.recurses == Tryz.prog.recurses 8)=true:=by kernel_rfl
theorem aK7:(Rows.gateLaterUptoRow.named == Tryz.prog.varsNamed 8)=true:=by kernel_rfl
theorem aCc:joinedFacts Tryz.prog 8 Tryz.f8 (Rows.OpenSpec.upto Rows.gateLaterSpec).bare Rows.gateLaterUptoRow=true:=by
  have h0:=aLb
  simp only[Bool.and_eq_true] at h0
  obtain ⟨⟨h5,h6⟩,h7⟩:=h0
  unfold joinedFacts
  repeat (rw[Bool.and_eq_true]; refine And.intro ?_ ?_)
  all_goals with_reducible first | exact aLa | exact aK9 | exact aK8 | exact aK7 | exact h5 | exact h6 | exact h7 | kernel_rfl
theorem gateLater_proved:Rows.GateLaterUptoSaid :=
  OpenClaim.holds_of_cond 8 Tryz.f8 rfl rfl rfl rfl rfl rfl rfl ⟨rfl,rfl,rfl,rfl,rfl⟩ rfl rfl rfl rfl rfl (by kernel_rfl) Tryz.func8 aCc
    (of_decide_eq_true (by kernel_rfl)) (by unfold Func.isWrapper; first | (rw[if_pos (by decide +kernel)]; kernel_rfl) | (rw[if_neg (by decide +kernel)]; exact⟨rfl,rfl⟩))
    (fun os started H enc _ F=>aCb os started H enc F)
end Go.Proofs.YtpkanhklapfajaaGreat
