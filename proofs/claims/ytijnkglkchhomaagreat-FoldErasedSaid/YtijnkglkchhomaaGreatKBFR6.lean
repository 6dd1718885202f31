/-
  The law FoldErased: whatever the events, the user and the further events, the call returns true, and all read behind it as they read before. No condition beyond the row's own.
-/
import Derived.Test.YtijnkglkchhomaaGreatRows
import Derived.WalkKit
import Derived.ProofKit
import Derived.OpenShut
import Derived.JoinedCond
import Derived.SizedLaws
import Derived.Test.YtijnkglkchhomaaGreatKB1
import Derived.Test.YtijnkglkchhomaaGreatKB2
import Derived.Test.YtijnkglkchhomaaGreatKB3
import Derived.Test.YtijnkglkchhomaaGreatKB4
import Derived.Test.YtijnkglkchhomaaGreatKB5
set_option maxRecDepth 20000
set_option maxHeartbeats 16000000
set_option linter.unusedVariables false
set_option linter.unusedSimpArgs false
namespace Go.Proofs.YtijnkglkchhomaaGreat
open Go Go.Abs
theorem aEk (l:List Ev) (ht:∀ e∈l,TS e.user∧TS e.other) (u:ByteArray) (hu:TS u) (m:List Ev) (htm:∀ e∈m,TS e.user∧TS e.other) :Den Tryz.prog 8 [.sl 6 (l.map evC),.s (.string u),.sl 6 (m.map evC)]  (·=.s (.bool true)):=by
 refine aY Tryz.func8 rfl (Nat.le_of_ble_eq_true rfl) (fun w0 A hf=>(aC (fun K1 hK1=>(aB (aE aA 1 rfl (aD (hK1 _ (aC (fun K2 hK2=>(aC (fun K3 hK3=>(aB (aE aA 4 rfl (bA rfl rfl rfl (fun hg1=>?_) (fun hg1=>?_)))))))))))))))
 ·
  simp only[bs] at hg1
  refine aI rfl (fV rfl) (aE aA 4 rfl (bA rfl rfl rfl (fun hg2=>?_) (fun hg2=>?_)))
  ·
   simp only[bs] at hg2
   refine aI rfl (fV rfl) (bF rfl rfl rfl (aN hf rfl (aP rfl rfl nO rfl (Nm.refRight_den u hu)) (aE aA 2 rfl (aD (hK3 _ (aO rfl (fun hc3=>?_) (fun hc3=>?_)))))))
   ·
    simp only[bs] at hc3
    refine aC (fun K4 hK4=>(aB (aN hf rfl (aP rfl rfl iJ rfl (gS)) (aE aA 1 rfl (aD (hK4 _ (aM ?_)))))))
    refine⟨_,rfl,?_⟩
    rfl
   ·
    simp only[bs] at hc3
    have hz0:SzS 140737488351232 aJ:=uD _
    have hl40:l.length≤40:=by omega
    have hl60:l.length≤60:=by omega
    have hF0:aG aJ (aS aJ l)=(aG aJ l):=(qD l aJ).1
    have hT0:∀ x∈aV aJ (aS aJ l),x=0:=(qD l aJ).2.1
    have hzF:SzS 140737488353280 (aG aJ l):=(uW l hz0 eQ).mono (by omega)
    have hRF:RightP (aG aJ l):=qE l eQ
    have hlT:=vT l aJ
    have hn0:=hRF.n0
    have hn1:=hRF.n1
    have hzb:=hzF.b
    have htT:∀ e∈(aS aJ l),TS e.user∧TS e.other:=fun e he=>ht e (vS he)
    have htW:∀ e∈(aW u (aS aJ l)),TS e.user∧TS e.other:=fun e he=>htT e (List.mem_filter.1 he).1
    have hlW:(aW u (aS aJ l)).length≤(aS aJ l).length:=List.length_filter_le _ _
    have huB:cK u=true:=by simp_all
    have huT:TS u:=hu
    have htE:∀ e∈((bG u (aG aJ l).now)::m),TS e.user∧TS e.other:=fun e he=>by
     rcases List.mem_cons.1 he with rfl | he
     · exact⟨huT,show TS bs0 by decide⟩
     · exact htm e he
    have hlm:m.length≤20:=by omega
    have hlE:((bG u (aG aJ l).now)::m).length≤60:=by simp only[List.length_cons]; omega
    obtain ⟨hW0,hA0,hFE,hTE⟩:=er_all (l:=l) (m:=m) huB
    have hzG:SzS 140737488353280 (aG aJ (aW u (aS aJ l))):=(uW (aW u (aS aJ l)) hz0 eQ).mono (by omega)
    have hRG:RightP (aG aJ (aW u (aS aJ l))):=qE (aW u (aS aJ l)) eQ
    have hzG2:SzS 140737488351232 (aG aJ (aW u (aS aJ l))):=by have:=uW (aW u (aS aJ l)) (show SzS 0 aJ from uD _) eQ; exact this.mono (by omega)
    have hzF2:SzS 140737488351232 (aG aJ l):=by have:=uW l (show SzS 0 aJ from uD _) eQ; exact this.mono (by omega)
    have hlen:(bH (aV aJ (aW u (aS aJ l)))).length≤60:=by rw[dW,gL]; omega
    have hz7:SzS 140737488353280 (aG (aG aJ l) ((bG u (aG aJ l).now)::m)):=(uW ((bG u (aG aJ l).now)::m) hzF2 hRF).mono (by simp only[List.length_cons]; omega)
    refine aR (hK2 _ (aC (fun K5 hK5=>(aB (aZ hf rfl rfl rfl aX (aD (hK5 _ (aC (fun K6 hK6=>(aQe (aRd 7 (aL aJ) rfl nX) (dK bK ?_)))))))))))
    refine bY (listed':=#[false,true,false,false,false]) 1 rfl (by kernel_rfl) (by kernel_rfl) (by kernel_rfl) rfl (fun _ _ h=>h) (dL rfl) ?_
    refine aK 0 #[true,true,true,true,true] ⟨107,[(1,.s (.string u)),(2,.sl 6 (m.map evC)),(7,.ref 7 0 0 0),(8,.sl 6 ((aS aJ l).map evC))],[(7,.box (aL aJ))]⟩ ?_ (fun hD0=>?_)
    ·
     refine dF (by kernel_rfl) ?_
     refine hK6 _ (aC (fun K7 hK7=>(aB (aE aA 2 rfl (aN hf rfl (aP rfl rfl fC rfl ((show Den Tryz.prog _ _ (·=.tup [.agg (aL (aG aJ l)),.sl 1 (bH (aV aJ (aS aJ l)))]) from fH (iB aJ (aS aJ l) hz0 eQ (by omega) htT) (by rw[hF0])))) ?_)))))
     refine aE aA 3 rfl (cC hf rfl aX rfl bS rfl rfl rfl rfl (lf rfl) (aE aA 1 rfl (aD (hK7 _ (aC (fun K8 hK8=>(aB (aE aA 3 rfl (aI rfl (dD rfl gD jN (l3 rfl) rfl) (cC hf rfl gD rfl cY rfl rfl rfl rfl (lf rfl) (aD (hK8 _ (aC (fun K9 hK9=>?_))))))))))))))
     refine dK bK ?_
     refine bY (listed':=#[false,false,false,true,false,false,false,false,false,false,false,false,false]) 3 rfl (by kernel_rfl) (by kernel_rfl) (by kernel_rfl) rfl (fun _ _ h=>h) (dL rfl) ?_
     refine aK 0 #[true,true,true,true,true,true,true,true,true,true,true,true,true] ⟨107,[(1,.s (.string u)),(2,.sl 6 (m.map evC)),(7,.ref 7 0 0 0),(8,.sl 6 ((aS aJ l).map evC)),(11,.adr (evC (bG u (aG aJ l).now))),(12,.ref 12 0 0 0),(13,.sl 1 (bH (aV (aG aJ l) ((bG u (aG aJ l).now)::m))))],[(12,.box (aL (aG (aG aJ l) ((bG u (aG aJ l).now)::m)))),(7,.box (aL aJ))]⟩ ?_ (fun hD0=>?_)
     ·
      refine dF (by kernel_rfl) ?_
      refine hK9 _ (aC (fun K10 hK10=>(dK bK ?_)))
      refine bY (listed':=#[false,true,false,false,false,false,false,false,false,false,false]) 1 rfl (by kernel_rfl) (by kernel_rfl) (by kernel_rfl) rfl (fun _ _ h=>h) (dL rfl) ?_
      refine bY (listed':=#[false,true,true,false,false,false,false,false,false,false,false]) 2 rfl (by kernel_rfl) (by kernel_rfl) (by kernel_rfl) rfl (fun _ _ h=>h) (dL rfl) ?_
      refine aK 0 #[true,true,true,true,true,true,true,true,true,true,true] ⟨107,[(2,.sl 6 (m.map evC)),(11,.adr (evC (bG u (aG aJ l).now))),(12,.ref 12 0 0 0),(13,.sl 1 (bH (aV (aG aJ l) ((bG u (aG aJ l).now)::m)))),(14,.ref 14 0 0 0),(15,.sl 1 (bH (aV aJ (aW u (aS aJ l)))))],[(14,.box (aL (aG aJ (aW u (aS aJ l))))),(12,.box (aL (aG (aG aJ l) ((bG u (aG aJ l).now)::m)))),(7,.box (aL aJ))]⟩ ?_ (fun hD0=>?_)
      ·
       refine dF (by kernel_rfl) ?_
       refine hK10 _ (aC (fun K11 hK11=>(dK bK ?_)))
       refine bY (listed':=#[false,false,false,true,false,false,false,false,false,false,false,false,false]) 3 rfl (by kernel_rfl) (by kernel_rfl) (by kernel_rfl) rfl (fun _ _ h=>h) (dL rfl) ?_
       refine aK 0 #[true,true,true,true,true,true,true,true,true,true,true,true,true] ⟨107,[(12,.ref 12 0 0 0),(13,.sl 1 (bH (aV (aG aJ l) ((bG u (aG aJ l).now)::m)))),(15,.sl 1 (bH (aV aJ (aW u (aS aJ l))))),(16,.ref 16 0 0 0),(17,.sl 1 (bH (aV (aG aJ l) ((bG u (aG aJ l).now)::m))))],[(16,.box (aL (aG (aG aJ l) ((bG u (aG aJ l).now)::m)))),(14,.box (aL (aG aJ (aW u (aS aJ l))))),(12,.box (aL (aG (aG aJ l) ((bG u (aG aJ l).now)::m)))),(7,.box (aL aJ))]⟩ ?_ (fun hD0=>?_)
       ·
        refine dF (by kernel_rfl) ?_
        refine hK11 _ (aC (fun K12 hK12=>(aC (fun K13 hK13=>(aB (aE aA 3 rfl (aD (hK13 _ (aU (bW (ι:=Nat) (fun k=>⟨107,[(12,.ref 12 0 0 0),(13,.sl 1 (bH (aV (aG aJ l) ((bG u (aG aJ l).now)::m)))),(16,.ref 16 0 0 0),(17,.sl 1 (bH (aV (aG aJ l) ((bG u (aG aJ l).now)::m)))),(76,.sl 1 (bH (aV aJ (aW u (aS aJ l))))),(77,.s (.int .i64 ((bH (aV aJ (aW u (aS aJ l)))).length:Nat))),(78,.s (.int .i64 (k:Nat)))],[(16,.box (aL (aG (aG aJ l) ((bG u (aG aJ l).now)::m)))),(14,.box (aL (aG aJ (aW u (aS aJ l))))),(12,.box (aL (aG (aG aJ l) ((bG u (aG aJ l).now)::m)))),(7,.box (aL aJ))]⟩) (fun k=>k≤(bH (aV aJ (aW u (aS aJ l)))).length) (fun k=>(bH (aV aJ (aW u (aS aJ l)))).length - k) 0 ?_ ?_ ?_))))))))))
        · exact Nat.zero_le _
        · exact mQ rfl rfl rfl
        ·
         rintro k hC
         refine aC (fun K14 hK14=>(aB (aE aA 1 rfl (aD (hK14 _ (aC (fun K15 hK15=>(aO rfl (fun hc4=>?_) (fun hc4=>?_)))))))))
         ·
          simp only[bs] at hc4
          have hk2:k<(aV aJ (aW u (aS aJ l))).length:=by have:=dW (aV aJ (aW u (aS aJ l))); omega
          refine aR (hK15 _ (aC (fun K16 hK16=>(aU (aC (fun K17 hK17=>(aB (aI rfl (bJ rfl rfl mX mY (uT hk2)) (aE aA 2 rfl (aD (hK17 _ (aC (fun K18 hK18=>(aB (aE aA 1 rfl ?_)))))))))))))))
          refine aI rfl (eO rfl rfl (aCo (hW0 _ (List.getElem_mem hk2)))) (aD (hK18 _ (bZ rfl (aR (hK16 _ (aB ?_))))))
          refine aI rfl (bQ rfl rfl (by omega) (by omega)) ?_
          refine aE aA 1 rfl (aD ?_)
          exact⟨k+1,by omega,by omega,cN ⟨rfl,rfl,rfl,rfl,rfl,rfl,aT (by omega),trivial⟩ rfl⟩
         ·
          simp only[bs] at hc4
          refine bI (hK12 _ (aC (fun K19 hK19=>(aB (aN hf rfl (aP rfl rfl iJ rfl (gS)) (aE aA 3 rfl (bF rfl rfl rfl (aI rfl (eO rfl rfl (intgt_t (by rw[dW,gL]; simp only[List.length_cons]; omega))) ?_))))))))
          refine aE aA 3 rfl (bF rfl rfl rfl ?_)
          refine aI rfl (bJ rfl rfl mX mY (by first | assumption | (refine⟨by omega,?_⟩; first | assumption | exact gG (by omega) | exact gG (by simp only[List.length_cons] at *; omega) | exact nT (by omega) | exact pX (by omega) | exact nS (by omega)) | exact⟨by decide,rfl⟩)) ?_
          refine aE aA 1 rfl (bF rfl rfl rfl (aI rfl (eO rfl rfl (rB (hA0))) (aE aA 4 rfl (bF rfl rfl rfl (aN hf rfl (aP rfl rfl qL rfl (vW (aG (aG aJ l) ((bG u (aG aJ l).now)::m)) (aG (aG aJ l) ((bG u (aG aJ l).now)::m)) rfl (hz7.mono (by omega)))) (aE aA 4 rfl (bF rfl rfl rfl (aN hf rfl (aP rfl rfl aFe rfl (aC1 (aV (aG aJ l) ((bG u (aG aJ l).now)::m)) (by rw[gL]; omega))) ?_))))))))
          refine aE aA 2 rfl (aD (hK19 _ (aM ?_)))
          refine⟨_,rfl,?_⟩
          rfl
       refine aK 1 #[true,true,true,true,true,true,true,true,true,true,true,true,false] ⟨107,[(12,.ref 12 0 0 0),(13,.sl 1 (bH (aV (aG aJ l) ((bG u (aG aJ l).now)::m)))),(15,.sl 1 (bH (aV aJ (aW u (aS aJ l))))),(16,.ref 16 0 0 0),(75,.sl 1 (bH (aV (aG aJ l) ((bG u (aG aJ l).now)::m))))],[(16,.box (aL (aG (aG aJ l) ((bG u (aG aJ l).now)::m)))),(14,.box (aL (aG aJ (aW u (aS aJ l))))),(12,.box (aL (aG (aG aJ l) ((bG u (aG aJ l).now)::m)))),(7,.box (aL aJ))]⟩ ?_ (fun hD1=>?_)
       ·
        refine aH 12 [] (by kernel_rfl) ⟨?_,trivial⟩
        ·
         refine⟨_,rfl,rfl,(ao rfl (aE aA 1 rfl (aF (ag hD0 rfl rfl rfl))))⟩
       refine aK 2 #[true,true,true,true,true,true,true,true,true,true,true,false,false] ⟨107,[(12,.ref 12 0 0 0),(13,.sl 1 (bH (aV (aG aJ l) ((bG u (aG aJ l).now)::m)))),(15,.sl 1 (bH (aV aJ (aW u (aS aJ l))))),(16,.ref 16 0 0 0),(74,.agg (aL (aG (aG aJ l) ((bG u (aG aJ l).now)::m)))),(75,.sl 1 (bH (aV (aG aJ l) ((bG u (aG aJ l).now)::m))))],[(16,.box [.s (.int .i64 0),.s (.int .i64 0),.s (.slice none 0 0),.s (.slice none 0 0),.s (.slice none 0 0),.s (.slice none 0 0)]),(14,.box (aL (aG aJ (aW u (aS aJ l))))),(12,.box (aL (aG (aG aJ l) ((bG u (aG aJ l).now)::m)))),(7,.box (aL aJ))]⟩ ?_ (fun hD2=>?_)
       ·
        refine aH 11 [] (by kernel_rfl) ⟨?_,trivial⟩
        ·
         refine⟨_,rfl,rfl,(ao rfl (bD hf rfl rfl bS rfl rfl (l1 rfl) (l4 rfl) rfl (aF (ag hD1 rfl rfl rfl))))⟩
       refine aK 2 #[true,true,true,true,true,true,true,true,true,false,true,true,false] ⟨107,[(12,.ref 12 0 0 0),(13,.sl 1 (bH (aV (aG aJ l) ((bG u (aG aJ l).now)::m)))),(15,.sl 1 (bH (aV aJ (aW u (aS aJ l))))),(16,.ref 16 0 0 0),(66,.tup [.agg (aL (aG (aG aJ l) ((bG u (aG aJ l).now)::m))),.sl 1 (bH (aV (aG aJ l) ((bG u (aG aJ l).now)::m)))])],[(16,.box (aL (aG (aG aJ l) ((bG u (aG aJ l).now)::m)))),(14,.box (aL (aG aJ (aW u (aS aJ l))))),(12,.box (aL (aG (aG aJ l) ((bG u (aG aJ l).now)::m)))),(7,.box (aL aJ))]⟩ ?_ (fun hD3=>?_)
       ·
        refine aH 9 [] (by kernel_rfl) ⟨?_,trivial⟩
        ·
         refine⟨_,rfl,rfl,(ao rfl (aE aA 1 rfl (aF (ag hD1 rfl rfl rfl))))⟩
       refine aK 3 #[true,true,true,true,true,true,true,true,true,true,false,false,false] ⟨107,[(12,.ref 12 0 0 0),(13,.sl 1 (bH (aV (aG aJ l) ((bG u (aG aJ l).now)::m)))),(15,.sl 1 (bH (aV aJ (aW u (aS aJ l))))),(74,.agg (aL (aG (aG aJ l) ((bG u (aG aJ l).now)::m)))),(75,.sl 1 (bH (aV (aG aJ l) ((bG u (aG aJ l).now)::m))))],[(14,.box (aL (aG aJ (aW u (aS aJ l))))),(12,.box (aL (aG (aG aJ l) ((bG u (aG aJ l).now)::m)))),(7,.box (aL aJ))]⟩ ?_ (fun hD4=>?_)
       ·
        refine aH 10 [] (by kernel_rfl) ⟨?_,trivial⟩
        ·
         refine⟨_,rfl,rfl,(ao rfl (aZ hf rfl rfl rfl aX (aF (ag hD2 rfl rfl rfl))))⟩
       refine aK 3 #[true,true,true,true,true,true,true,true,true,false,true,false,false] ⟨107,[(12,.ref 12 0 0 0),(13,.sl 1 (bH (aV (aG aJ l) ((bG u (aG aJ l).now)::m)))),(15,.sl 1 (bH (aV aJ (aW u (aS aJ l))))),(16,.ref 16 0 0 0),(66,.tup [.agg (aL (aG (aG aJ l) ((bG u (aG aJ l).now)::m))),.sl 1 (bH (aV (aG aJ l) ((bG u (aG aJ l).now)::m)))]),(74,.agg (aL (aG (aG aJ l) ((bG u (aG aJ l).now)::m))))],[(16,.box [.s (.int .i64 0),.s (.int .i64 0),.s (.slice none 0 0),.s (.slice none 0 0),.s (.slice none 0 0),.s (.slice none 0 0)]),(14,.box (aL (aG aJ (aW u (aS aJ l))))),(12,.box (aL (aG (aG aJ l) ((bG u (aG aJ l).now)::m)))),(7,.box (aL aJ))]⟩ ?_ (fun hD5=>?_)
       ·
        refine aH 9 [11] (by kernel_rfl) ⟨?_,?_,trivial⟩
        ·
         refine⟨_,rfl,rfl,(ao rfl (aE aA 1 rfl (aF (ag hD2 rfl rfl rfl))))⟩
        ·
         refine⟨_,rfl,rfl,(ao rfl (bD hf rfl rfl bS rfl rfl (l1 rfl) (l4 rfl) rfl (aF (ag hD3 rfl rfl rfl))))⟩
       refine aK 3 #[true,true,true,true,true,true,true,true,false,true,true,false,false] ⟨107,[(12,.ref 12 0 0 0),(13,.sl 1 (bH (aV (aG aJ l) ((bG u (aG aJ l).now)::m)))),(15,.sl 1 (bH (aV aJ (aW u (aS aJ l))))),(16,.ref 16 0 0 0),(66,.tup [.agg (aL (aG (aG aJ l) ((bG u (aG aJ l).now)::m))),.sl 1 (bH (aV (aG aJ l) ((bG u (aG aJ l).now)::m)))]),(75,.sl 1 (bH (aV (aG aJ l) ((bG u (aG aJ l).now)::m))))],[(16,.box [.s (.int .i64 0),.s (.int .i64 0),.s (.slice none 0 0),.s (.slice none 0 0),.s (.slice none 0 0),.s (.slice none 0 0)]),(14,.box (aL (aG aJ (aW u (aS aJ l))))),(12,.box (aL (aG (aG aJ l) ((bG u (aG aJ l).now)::m)))),(7,.box (aL aJ))]⟩ ?_ (fun hD6=>?_)
       ·
        refine aH 8 [] (by kernel_rfl) ⟨?_,trivial⟩
        ·
         refine⟨_,rfl,rfl,(ao rfl (aE aA 1 rfl (aF (ag hD2 rfl rfl rfl))))⟩
       refine aK 4 #[true,true,true,true,true,true,true,true,true,false,false,false,false] ⟨107,[(12,.ref 12 0 0 0),(13,.sl 1 (bH (aV (aG aJ l) ((bG u (aG aJ l).now)::m)))),(15,.sl 1 (bH (aV aJ (aW u (aS aJ l))))),(66,.tup [.agg (aL (aG (aG aJ l) ((bG u (aG aJ l).now)::m))),.sl 1 (bH (aV (aG aJ l) ((bG u (aG aJ l).now)::m)))]),(74,.agg (aL (aG (aG aJ l) ((bG u (aG aJ l).now)::m))))],[(14,.box (aL (aG aJ (aW u (aS aJ l))))),(12,.box (aL (aG (aG aJ l) ((bG u (aG aJ l).now)::m)))),(7,.box (aL aJ))]⟩ ?_ (fun hD7=>?_)
       ·
        refine aH 9 [10] (by kernel_rfl) ⟨?_,?_,trivial⟩
        ·
         refine⟨_,rfl,rfl,(ao rfl (aE aA 1 rfl (aF (ag hD4 rfl rfl rfl))))⟩
        ·
         refine⟨_,rfl,rfl,(ao rfl (aZ hf rfl rfl rfl aX (aF (ag hD5 rfl rfl rfl))))⟩
       refine aK 4 #[true,true,true,true,true,true,true,true,false,true,false,false,false] ⟨107,[(12,.ref 12 0 0 0),(13,.sl 1 (bH (aV (aG aJ l) ((bG u (aG aJ l).now)::m)))),(15,.sl 1 (bH (aV aJ (aW u (aS aJ l))))),(66,.tup [.agg (aL (aG (aG aJ l) ((bG u (aG aJ l).now)::m))),.sl 1 (bH (aV (aG aJ l) ((bG u (aG aJ l).now)::m)))]),(75,.sl 1 (bH (aV (aG aJ l) ((bG u (aG aJ l).now)::m))))],[(14,.box (aL (aG aJ (aW u (aS aJ l))))),(12,.box (aL (aG (aG aJ l) ((bG u (aG aJ l).now)::m)))),(7,.box (aL aJ))]⟩ ?_ (fun hD8=>?_)
       ·
        refine aH 8 [10] (by kernel_rfl) ⟨?_,?_,trivial⟩
        ·
         refine⟨_,rfl,rfl,(ao rfl (aE aA 1 rfl (aF (ag hD4 rfl rfl rfl))))⟩
        ·
         refine⟨_,rfl,rfl,(ao rfl (aZ hf rfl rfl rfl aX (aF (ag hD6 rfl rfl rfl))))⟩
       refine aK 4 #[true,true,true,true,true,true,true,true,false,false,true,false,false] ⟨107,[(12,.ref 12 0 0 0),(13,.sl 1 (bH (aV (aG aJ l) ((bG u (aG aJ l).now)::m)))),(15,.sl 1 (bH (aV aJ (aW u (aS aJ l))))),(16,.ref 16 0 0 0),(66,.tup [.agg (aL (aG (aG aJ l) ((bG u (aG aJ l).now)::m))),.sl 1 (bH (aV (aG aJ l) ((bG u (aG aJ l).now)::m)))])],[(16,.box [.s (.int .i64 0),.s (.int .i64 0),.s (.slice none 0 0),.s (.slice none 0 0),.s (.slice none 0 0),.s (.slice none 0 0)]),(14,.box (aL (aG aJ (aW u (aS aJ l))))),(12,.box (aL (aG (aG aJ l) ((bG u (aG aJ l).now)::m)))),(7,.box (aL aJ))]⟩ ?_ (fun hD9=>?_)
       ·
        refine aH 8 [9] (by kernel_rfl) ⟨?_,?_,trivial⟩
        ·
         refine⟨_,rfl,rfl,(ao rfl (aE aA 1 rfl (aF (ag hD5 rfl rfl rfl))))⟩
        ·
         refine⟨_,rfl,rfl,(ao rfl (aE aA 1 rfl (aF (ag hD6 rfl rfl rfl))))⟩
       refine aK 5 #[true,true,true,true,true,true,true,true,false,false,false,false,false] ⟨107,[(12,.ref 12 0 0 0),(13,.sl 1 (bH (aV (aG aJ l) ((bG u (aG aJ l).now)::m)))),(15,.sl 1 (bH (aV aJ (aW u (aS aJ l))))),(66,.tup [.agg (aL (aG (aG aJ l) ((bG u (aG aJ l).now)::m))),.sl 1 (bH (aV (aG aJ l) ((bG u (aG aJ l).now)::m)))])],[(14,.box (aL (aG aJ (aW u (aS aJ l))))),(12,.box (aL (aG (aG aJ l) ((bG u (aG aJ l).now)::m)))),(7,.box (aL aJ))]⟩ ?_ (fun hD10=>?_)
       ·
        refine aH 8 [9,10] (by kernel_rfl) ⟨?_,?_,?_,trivial⟩
        ·
         refine⟨_,rfl,rfl,(ao rfl (aE aA 1 rfl (aF (ag hD7 rfl rfl rfl))))⟩
        ·
         refine⟨_,rfl,rfl,(ao rfl (aE aA 1 rfl (aF (ag hD8 rfl rfl rfl))))⟩
        ·
         refine⟨_,rfl,rfl,(ao rfl (aZ hf rfl rfl rfl aX (aF (ag hD9 rfl rfl rfl))))⟩
       refine aK 5 #[true,true,true,true,true,true,true,false,false,false,true,false,false] ⟨107,[(12,.ref 12 0 0 0),(13,.sl 1 (bH (aV (aG aJ l) ((bG u (aG aJ l).now)::m)))),(15,.sl 1 (bH (aV aJ (aW u (aS aJ l))))),(16,.ref 16 0 0 0),(73,.tup [.agg (aL (aG (aG aJ l) ((bG u (aG aJ l).now)::m))),.sl 1 (bH (aV (aG aJ l) ((bG u (aG aJ l).now)::m)))])],[(16,.box [.s (.int .i64 0),.s (.int .i64 0),.s (.slice none 0 0),.s (.slice none 0 0),.s (.slice none 0 0),.s (.slice none 0 0)]),(14,.box (aL (aG aJ (aW u (aS aJ l))))),(12,.box (aL (aG (aG aJ l) ((bG u (aG aJ l).now)::m)))),(7,.box (aL aJ))]⟩ ?_ (fun hD11=>?_)
       ·
        refine aH 7 [] (by kernel_rfl) ⟨?_,trivial⟩
        ·
         refine⟨_,rfl,rfl,(ao rfl (aE aA 1 rfl (aF (ag hD9 rfl rfl rfl))))⟩
       refine aK 6 #[true,true,true,true,true,true,true,false,false,false,false,false,false] ⟨107,[(12,.ref 12 0 0 0),(13,.sl 1 (bH (aV (aG aJ l) ((bG u (aG aJ l).now)::m)))),(15,.sl 1 (bH (aV aJ (aW u (aS aJ l))))),(73,.tup [.agg (aL (aG (aG aJ l) ((bG u (aG aJ l).now)::m))),.sl 1 (bH (aV (aG aJ l) ((bG u (aG aJ l).now)::m)))])],[(14,.box (aL (aG aJ (aW u (aS aJ l))))),(12,.box (aL (aG (aG aJ l) ((bG u (aG aJ l).now)::m)))),(7,.box (aL aJ))]⟩ ?_ (fun hD12=>?_)
       ·
        refine aH 7 [10] (by kernel_rfl) ⟨?_,?_,trivial⟩
        ·
         refine⟨_,rfl,rfl,(ao rfl (aE aA 1 rfl (aF (ag hD10 rfl rfl rfl))))⟩
        ·
         refine⟨_,rfl,rfl,(ao rfl (aZ hf rfl rfl rfl aX (aF (ag hD11 rfl rfl rfl))))⟩
       refine aK 6 #[true,true,true,true,true,true,false,false,false,false,true,false,false] ⟨107,[(12,.ref 12 0 0 0),(13,.sl 1 (bH (aV (aG aJ l) ((bG u (aG aJ l).now)::m)))),(15,.sl 1 (bH (aV aJ (aW u (aS aJ l))))),(16,.ref 16 0 0 0),(67,.agg (aL (aG aJ (aW u (aS aJ l))))),(72,.own 69 6 0 (1+(m.map evC).length))],[(16,.box [.s (.int .i64 0),.s (.int .i64 0),.s (.slice none 0 0),.s (.slice none 0 0),.s (.slice none 0 0),.s (.slice none 0 0)]),(69,.buf 6 (evC (bG u (aG aJ l).now)::m.map evC)),(14,.box (aL (aG aJ (aW u (aS aJ l))))),(12,.box (aL (aG (aG aJ l) ((bG u (aG aJ l).now)::m)))),(7,.box (aL aJ))]⟩ ?_ (fun hD13=>?_)
       ·
        refine aH 6 [] (by kernel_rfl) ⟨?_,trivial⟩
        ·
         refine⟨_,rfl,rfl,(ao rfl ?_)⟩
         refine cB (jC (nee 69) (sl':=[(12,_),(13,_),(15,_),(67,_),(16,_),(72,.sl 6 (((bG u (aG aJ l).now)::m).map evC))]) (m':=[(16,.box [.s (.int .i64 0),.s (.int .i64 0),.s (.slice none 0 0),.s (.slice none 0 0),.s (.slice none 0 0),.s (.slice none 0 0)]),(14,.box (aL (aG aJ (aW u (aS aJ l))))),(12,.box (aL (aG (aG aJ l) ((bG u (aG aJ l).now)::m)))),(7,.box (aL aJ))]) ⟨⟨_,rfl,rfl⟩,⟨_,rfl,rfl⟩,⟨_,rfl,rfl⟩,⟨_,rfl,rfl⟩,⟨_,rfl,rfl⟩,⟨_,rfl,pT (ok:=nee 69) (g:=69) rfl rfl (by simp only[List.map_cons,List.length_cons,List.length_map]; omega)⟩,trivial⟩ rfl) ?_
         refine aN hf rfl (aP rfl rfl fC rfl ((show Den Tryz.prog _ _ (·=.tup [.agg (aL (aG (aG aJ l) ((bG u (aG aJ l).now)::m))),.sl 1 (bH (aV (aG aJ l) ((bG u (aG aJ l).now)::m)))]) from fH (iB (aG aJ (aW u (aS aJ l))) ((bG u (aG aJ l).now)::m) hzG2 hRG hlE htE) (by rw[hFE,hTE])))) ?_
         refine aF (ag hD11 rfl rfl rfl)
       refine aK 7 #[true,true,true,true,true,true,false,false,false,false,false,false,false] ⟨107,[(12,.ref 12 0 0 0),(13,.sl 1 (bH (aV (aG aJ l) ((bG u (aG aJ l).now)::m)))),(15,.sl 1 (bH (aV aJ (aW u (aS aJ l))))),(67,.agg (aL (aG aJ (aW u (aS aJ l))))),(72,.own 69 6 0 (1+(m.map evC).length))],[(69,.buf 6 (evC (bG u (aG aJ l).now)::m.map evC)),(14,.box (aL (aG aJ (aW u (aS aJ l))))),(12,.box (aL (aG (aG aJ l) ((bG u (aG aJ l).now)::m)))),(7,.box (aL aJ))]⟩ ?_ (fun hD14=>?_)
       ·
        refine aH 6 [10] (by kernel_rfl) ⟨?_,?_,trivial⟩
        ·
         refine⟨_,rfl,rfl,(ao rfl ?_)⟩
         refine cB (jC (nee 69) (sl':=[(12,_),(13,_),(15,_),(67,_),(72,.sl 6 (((bG u (aG aJ l).now)::m).map evC))]) (m':=[(14,.box (aL (aG aJ (aW u (aS aJ l))))),(12,.box (aL (aG (aG aJ l) ((bG u (aG aJ l).now)::m)))),(7,.box (aL aJ))]) ⟨⟨_,rfl,rfl⟩,⟨_,rfl,rfl⟩,⟨_,rfl,rfl⟩,⟨_,rfl,rfl⟩,⟨_,rfl,pT (ok:=nee 69) (g:=69) rfl rfl (by simp only[List.map_cons,List.length_cons,List.length_map]; omega)⟩,trivial⟩ rfl) ?_
         refine aN hf rfl (aP rfl rfl fC rfl ((show Den Tryz.prog _ _ (·=.tup [.agg (aL (aG (aG aJ l) ((bG u (aG aJ l).now)::m))),.sl 1 (bH (aV (aG aJ l) ((bG u (aG aJ l).now)::m)))]) from fH (iB (aG aJ (aW u (aS aJ l))) ((bG u (aG aJ l).now)::m) hzG2 hRG hlE htE) (by rw[hFE,hTE])))) ?_
         refine aF (ag hD12 rfl rfl rfl)
        ·
         refine⟨_,rfl,rfl,(ao rfl (aZ hf rfl rfl rfl aX (aF (ag hD13 rfl rfl rfl))))⟩
       refine aK 7 #[true,true,true,true,true,false,false,false,false,false,true,false,false] ⟨107,[(12,.ref 12 0 0 0),(13,.sl 1 (bH (aV (aG aJ l) ((bG u (aG aJ l).now)::m)))),(15,.sl 1 (bH (aV aJ (aW u (aS aJ l))))),(16,.ref 16 0 0 0),(67,.agg (aL (aG aJ (aW u (aS aJ l))))),(69,.own 69 6 0 1),(71,.sl 6 (m.map evC))],[(16,.box [.s (.int .i64 0),.s (.int .i64 0),.s (.slice none 0 0),.s (.slice none 0 0),.s (.slice none 0 0),.s (.slice none 0 0)]),(69,.buf 6 [evC (bG u (aG aJ l).now)]),(14,.box (aL (aG aJ (aW u (aS aJ l))))),(12,.box (aL (aG (aG aJ l) ((bG u (aG aJ l).now)::m)))),(7,.box (aL aJ))]⟩ ?_ (fun hD15=>?_)
       ·
        refine aH 5 [] (by kernel_rfl) ⟨?_,trivial⟩
        ·
         refine⟨_,rfl,rfl,(ao rfl (dQ hf rfl cW rfl rfl rfl (by first | exact Or.inl rfl | exact Or.inr rfl) (by first | rfl | simp) rfl (by first | rfl | simp [iS,bU]) (by first | (simp only[maxLen,List.length_map,List.length_append,List.length_cons,List.length_nil]; omega) | (simp [maxLen] <;> omega)) (by first | (simp only[List.length_map,List.length_append,List.length_cons,List.length_nil]; omega) | (simp <;> omega)) ?_))⟩
         refine cB (iK [12,13,15,16,67,72] rfl) (aF (ag hD13 rfl rfl rfl))
       refine aK 7 #[false,true,true,true,true,true,false,false,false,false,true,false,false] ⟨107,[(12,.ref 12 0 0 0),(13,.sl 1 (bH (aV (aG aJ l) ((bG u (aG aJ l).now)::m)))),(14,.ref 14 0 0 0),(15,.sl 1 (bH (aV aJ (aW u (aS aJ l))))),(16,.ref 16 0 0 0),(72,.own 69 6 0 (1+(m.map evC).length))],[(16,.box [.s (.int .i64 0),.s (.int .i64 0),.s (.slice none 0 0),.s (.slice none 0 0),.s (.slice none 0 0),.s (.slice none 0 0)]),(69,.buf 6 (evC (bG u (aG aJ l).now)::m.map evC)),(14,.box (aL (aG aJ (aW u (aS aJ l))))),(12,.box (aL (aG (aG aJ l) ((bG u (aG aJ l).now)::m)))),(7,.box (aL aJ))]⟩ ?_ (fun hD16=>?_)
       ·
        refine aH 0 [] (by kernel_rfl) ⟨?_,trivial⟩
        ·
         refine⟨_,rfl,rfl,(ao rfl (aE aA 1 rfl (aF (ag hD13 rfl rfl rfl))))⟩
       refine aK 8 #[true,true,true,true,true,false,false,false,false,false,false,false,false] ⟨107,[(12,.ref 12 0 0 0),(13,.sl 1 (bH (aV (aG aJ l) ((bG u (aG aJ l).now)::m)))),(15,.sl 1 (bH (aV aJ (aW u (aS aJ l))))),(67,.agg (aL (aG aJ (aW u (aS aJ l))))),(69,.own 69 6 0 1),(71,.sl 6 (m.map evC))],[(69,.buf 6 [evC (bG u (aG aJ l).now)]),(14,.box (aL (aG aJ (aW u (aS aJ l))))),(12,.box (aL (aG (aG aJ l) ((bG u (aG aJ l).now)::m)))),(7,.box (aL aJ))]⟩ ?_ (fun hD17=>?_)
       ·
        refine aH 5 [10] (by kernel_rfl) ⟨?_,?_,trivial⟩
        ·
         refine⟨_,rfl,rfl,(ao rfl (dQ hf rfl cW rfl rfl rfl (by first | exact Or.inl rfl | exact Or.inr rfl) (by first | rfl | simp) rfl (by first | rfl | simp [iS,bU]) (by first | (simp only[maxLen,List.length_map,List.length_append,List.length_cons,List.length_nil]; omega) | (simp [maxLen] <;> omega)) (by first | (simp only[List.length_map,List.length_append,List.length_cons,List.length_nil]; omega) | (simp <;> omega)) ?_))⟩
         refine cB (iK [12,13,15,67,72] rfl) (aF (ag hD14 rfl rfl rfl))
        ·
         refine⟨_,rfl,rfl,(ao rfl (aZ hf rfl rfl rfl aX (aF (ag hD15 rfl rfl rfl))))⟩
       refine aK 8 #[true,true,true,true,false,false,false,false,false,false,true,false,false] ⟨107,[(12,.ref 12 0 0 0),(13,.sl 1 (bH (aV (aG aJ l) ((bG u (aG aJ l).now)::m)))),(15,.sl 1 (bH (aV aJ (aW u (aS aJ l))))),(16,.ref 16 0 0 0),(67,.agg (aL (aG aJ (aW u (aS aJ l))))),(69,.own 69 6 0 1),(70,.sl 6 (m.map evC))],[(16,.box [.s (.int .i64 0),.s (.int .i64 0),.s (.slice none 0 0),.s (.slice none 0 0),.s (.slice none 0 0),.s (.slice none 0 0)]),(69,.buf 6 [evC (bG u (aG aJ l).now)]),(14,.box (aL (aG aJ (aW u (aS aJ l))))),(12,.box (aL (aG (aG aJ l) ((bG u (aG aJ l).now)::m)))),(7,.box (aL aJ))]⟩ ?_ (fun hD18=>?_)
       ·
        refine aH 4 [] (by kernel_rfl) ⟨?_,trivial⟩
        ·
         refine⟨_,rfl,rfl,(ao rfl (aN hf rfl (aP rfl rfl cO rfl (dA m (by omega))) (aF (ag hD15 rfl rfl rfl))))⟩
       refine aK 8 #[true,true,false,true,true,false,false,false,false,false,true,false,false] ⟨107,[(12,.ref 12 0 0 0),(13,.sl 1 (bH (aV (aG aJ l) ((bG u (aG aJ l).now)::m)))),(15,.sl 1 (bH (aV aJ (aW u (aS aJ l))))),(16,.ref 16 0 0 0),(67,.agg (aL (aG aJ (aW u (aS aJ l))))),(68,.agg (evC (bG u (aG aJ l).now))),(71,.sl 6 (m.map evC))],[(16,.box [.s (.int .i64 0),.s (.int .i64 0),.s (.slice none 0 0),.s (.slice none 0 0),.s (.slice none 0 0),.s (.slice none 0 0)]),(14,.box (aL (aG aJ (aW u (aS aJ l))))),(12,.box (aL (aG (aG aJ l) ((bG u (aG aJ l).now)::m)))),(7,.box (aL aJ))]⟩ ?_ (fun hD19=>?_)
       ·
        refine aH 2 [] (by kernel_rfl) ⟨?_,trivial⟩
        ·
         refine⟨_,rfl,rfl,(ao rfl (cR hf rfl rfl rfl cW rfl rfl rfl rfl (l2 rfl) ?_))⟩
         refine aF (ag hD15 rfl rfl rfl)
       refine aK 8 #[false,true,true,true,true,true,false,false,false,false,false,false,false] ⟨107,[(12,.ref 12 0 0 0),(13,.sl 1 (bH (aV (aG aJ l) ((bG u (aG aJ l).now)::m)))),(14,.ref 14 0 0 0),(15,.sl 1 (bH (aV aJ (aW u (aS aJ l))))),(72,.own 69 6 0 (1+(m.map evC).length))],[(69,.buf 6 (evC (bG u (aG aJ l).now)::m.map evC)),(14,.box (aL (aG aJ (aW u (aS aJ l))))),(12,.box (aL (aG (aG aJ l) ((bG u (aG aJ l).now)::m)))),(7,.box (aL aJ))]⟩ ?_ (fun hD20=>?_)
       ·
        refine aH 0 [10] (by kernel_rfl) ⟨?_,?_,trivial⟩
        ·
         refine⟨_,rfl,rfl,(ao rfl (aE aA 1 rfl (aF (ag hD14 rfl rfl rfl))))⟩
        ·
         refine⟨_,rfl,rfl,(ao rfl (aZ hf rfl rfl rfl aX (aF (ag hD16 rfl rfl rfl))))⟩
       refine aK 8 #[false,true,true,true,true,false,false,false,false,false,true,false,false] ⟨107,[(12,.ref 12 0 0 0),(13,.sl 1 (bH (aV (aG aJ l) ((bG u (aG aJ l).now)::m)))),(14,.ref 14 0 0 0),(15,.sl 1 (bH (aV aJ (aW u (aS aJ l))))),(16,.ref 16 0 0 0),(69,.own 69 6 0 1),(71,.sl 6 (m.map evC))],[(16,.box [.s (.int .i64 0),.s (.int .i64 0),.s (.slice none 0 0),.s (.slice none 0 0),.s (.slice none 0 0),.s (.slice none 0 0)]),(69,.buf 6 [evC (bG u (aG aJ l).now)]),(14,.box (aL (aG aJ (aW u (aS aJ l))))),(12,.box (aL (aG (aG aJ l) ((bG u (aG aJ l).now)::m)))),(7,.box (aL aJ))]⟩ ?_ (fun hD21=>?_)
       ·
        refine aH 0 [5] (by kernel_rfl) ⟨?_,?_,trivial⟩
        ·
         refine⟨_,rfl,rfl,(ao rfl (aE aA 1 rfl (aF (ag hD15 rfl rfl rfl))))⟩
        ·
         refine⟨_,rfl,rfl,(ao rfl (dQ hf rfl cW rfl rfl rfl (by first | exact Or.inl rfl | exact Or.inr rfl) (by first | rfl | simp) rfl (by first | rfl | simp [iS,bU]) (by first | (simp only[maxLen,List.length_map,List.length_append,List.length_cons,List.length_nil]; omega) | (simp [maxLen] <;> omega)) (by first | (simp only[List.length_map,List.length_append,List.length_cons,List.length_nil]; omega) | (simp <;> omega)) ?_))⟩
         refine cB (iK [12,13,14,15,16,72] rfl) (aF (ag hD16 rfl rfl rfl))
       refine aK 9 #[true,true,true,true,false,false,false,false,false,false,false,false,false] ⟨107,[(12,.ref 12 0 0 0),(13,.sl 1 (bH (aV (aG aJ l) ((bG u (aG aJ l).now)::m)))),(15,.sl 1 (bH (aV aJ (aW u (aS aJ l))))),(67,.agg (aL (aG aJ (aW u (aS aJ l))))),(69,.own 69 6 0 1),(70,.sl 6 (m.map evC))],[(69,.buf 6 [evC (bG u (aG aJ l).now)]),(14,.box (aL (aG aJ (aW u (aS aJ l))))),(12,.box (aL (aG (aG aJ l) ((bG u (aG aJ l).now)::m)))),(7,.box (aL aJ))]⟩ ?_ (fun hD22=>?_)
       ·
        refine aH 4 [10] (by kernel_rfl) ⟨?_,?_,trivial⟩
        ·
         refine⟨_,rfl,rfl,(ao rfl (aN hf rfl (aP rfl rfl cO rfl (dA m (by omega))) (aF (ag hD17 rfl rfl rfl))))⟩
        ·
         refine⟨_,rfl,rfl,(ao rfl (aZ hf rfl rfl rfl aX (aF (ag hD18 rfl rfl rfl))))⟩
       refine aK 9 #[true,true,false,true,true,false,false,false,false,false,false,false,false] ⟨107,[(12,.ref 12 0 0 0),(13,.sl 1 (bH (aV (aG aJ l) ((bG u (aG aJ l).now)::m)))),(15,.sl 1 (bH (aV aJ (aW u (aS aJ l))))),(67,.agg (aL (aG aJ (aW u (aS aJ l))))),(68,.agg (evC (bG u (aG aJ l).now))),(71,.sl 6 (m.map evC))],[(14,.box (aL (aG aJ (aW u (aS aJ l))))),(12,.box (aL (aG (aG aJ l) ((bG u (aG aJ l).now)::m)))),(7,.box (aL aJ))]⟩ ?_ (fun hD23=>?_)
       ·
        refine aH 2 [10] (by kernel_rfl) ⟨?_,?_,trivial⟩
        ·
         refine⟨_,rfl,rfl,(ao rfl (cR hf rfl rfl rfl cW rfl rfl rfl rfl (l2 rfl) ?_))⟩
         refine aF (ag hD17 rfl rfl rfl)
        ·
         refine⟨_,rfl,rfl,(ao rfl (aZ hf rfl rfl rfl aX (aF (ag hD19 rfl rfl rfl))))⟩
       refine aK 9 #[true,true,false,true,false,false,false,false,false,false,true,false,false] ⟨107,[(12,.ref 12 0 0 0),(13,.sl 1 (bH (aV (aG aJ l) ((bG u (aG aJ l).now)::m)))),(15,.sl 1 (bH (aV aJ (aW u (aS aJ l))))),(16,.ref 16 0 0 0),(67,.agg (aL (aG aJ (aW u (aS aJ l))))),(68,.agg (evC (bG u (aG aJ l).now))),(70,.sl 6 (m.map evC))],[(16,.box [.s (.int .i64 0),.s (.int .i64 0),.s (.slice none 0 0),.s (.slice none 0 0),.s (.slice none 0 0),.s (.slice none 0 0)]),(14,.box (aL (aG aJ (aW u (aS aJ l))))),(12,.box (aL (aG (aG aJ l) ((bG u (aG aJ l).now)::m)))),(7,.box (aL aJ))]⟩ ?_ (fun hD24=>?_)
       ·
        refine aH 2 [4] (by kernel_rfl) ⟨?_,?_,trivial⟩
        ·
         refine⟨_,rfl,rfl,(ao rfl (cR hf rfl rfl rfl cW rfl rfl rfl rfl (l2 rfl) ?_))⟩
         refine aF (ag hD18 rfl rfl rfl)
        ·
         refine⟨_,rfl,rfl,(ao rfl (aN hf rfl (aP rfl rfl cO rfl (dA m (by omega))) (aF (ag hD19 rfl rfl rfl))))⟩
       refine aK 9 #[true,false,false,true,true,false,false,false,false,false,true,false,false] ⟨107,[(11,.adr (evC (bG u (aG aJ l).now))),(12,.ref 12 0 0 0),(13,.sl 1 (bH (aV (aG aJ l) ((bG u (aG aJ l).now)::m)))),(15,.sl 1 (bH (aV aJ (aW u (aS aJ l))))),(16,.ref 16 0 0 0),(67,.agg (aL (aG aJ (aW u (aS aJ l))))),(71,.sl 6 (m.map evC))],[(16,.box [.s (.int .i64 0),.s (.int .i64 0),.s (.slice none 0 0),.s (.slice none 0 0),.s (.slice none 0 0),.s (.slice none 0 0)]),(14,.box (aL (aG aJ (aW u (aS aJ l))))),(12,.box (aL (aG (aG aJ l) ((bG u (aG aJ l).now)::m)))),(7,.box (aL aJ))]⟩ ?_ (fun hD25=>?_)
       ·
        refine aH 1 [] (by kernel_rfl) ⟨?_,trivial⟩
        ·
         refine⟨_,rfl,rfl,(ao rfl (aE aA 1 rfl (aF (ag hD19 rfl rfl rfl))))⟩
       refine aK 9 #[false,true,true,true,true,false,false,false,false,false,false,false,false] ⟨107,[(12,.ref 12 0 0 0),(13,.sl 1 (bH (aV (aG aJ l) ((bG u (aG aJ l).now)::m)))),(14,.ref 14 0 0 0),(15,.sl 1 (bH (aV aJ (aW u (aS aJ l))))),(69,.own 69 6 0 1),(71,.sl 6 (m.map evC))],[(69,.buf 6 [evC (bG u (aG aJ l).now)]),(14,.box (aL (aG aJ (aW u (aS aJ l))))),(12,.box (aL (aG (aG aJ l) ((bG u (aG aJ l).now)::m)))),(7,.box (aL aJ))]⟩ ?_ (fun hD26=>?_)
       ·
        refine aH 0 [5,10] (by kernel_rfl) ⟨?_,?_,?_,trivial⟩
        ·
         refine⟨_,rfl,rfl,(ao rfl (aE aA 1 rfl (aF (ag hD17 rfl rfl rfl))))⟩
        ·
         refine⟨_,rfl,rfl,(ao rfl (dQ hf rfl cW rfl rfl rfl (by first | exact Or.inl rfl | exact Or.inr rfl) (by first | rfl | simp) rfl (by first | rfl | simp [iS,bU]) (by first | (simp only[maxLen,List.length_map,List.length_append,List.length_cons,List.length_nil]; omega) | (simp [maxLen] <;> omega)) (by first | (simp only[List.length_map,List.length_append,List.length_cons,List.length_nil]; omega) | (simp <;> omega)) ?_))⟩
         refine cB (iK [12,13,14,15,72] rfl) (aF (ag hD20 rfl rfl rfl))
        ·
         refine⟨_,rfl,rfl,(ao rfl (aZ hf rfl rfl rfl aX (aF (ag hD21 rfl rfl rfl))))⟩
       refine aK 9 #[false,true,true,true,false,false,false,false,false,false,true,false,false] ⟨107,[(12,.ref 12 0 0 0),(13,.sl 1 (bH (aV (aG aJ l) ((bG u (aG aJ l).now)::m)))),(14,.ref 14 0 0 0),(15,.sl 1 (bH (aV aJ (aW u (aS aJ l))))),(16,.ref 16 0 0 0),(69,.own 69 6 0 1),(70,.sl 6 (m.map evC))],[(16,.box [.s (.int .i64 0),.s (.int .i64 0),.s (.slice none 0 0),.s (.slice none 0 0),.s (.slice none 0 0),.s (.slice none 0 0)]),(69,.buf 6 [evC (bG u (aG aJ l).now)]),(14,.box (aL (aG aJ (aW u (aS aJ l))))),(12,.box (aL (aG (aG aJ l) ((bG u (aG aJ l).now)::m)))),(7,.box (aL aJ))]⟩ ?_ (fun hD27=>?_)
       ·
        refine aH 0 [4] (by kernel_rfl) ⟨?_,?_,trivial⟩
        ·
         refine⟨_,rfl,rfl,(ao rfl (aE aA 1 rfl (aF (ag hD18 rfl rfl rfl))))⟩
        ·
         refine⟨_,rfl,rfl,(ao rfl (aN hf rfl (aP rfl rfl cO rfl (dA m (by omega))) (aF (ag hD21 rfl rfl rfl))))⟩
       refine aK 9 #[false,true,false,true,true,false,false,false,false,false,true,false,false] ⟨107,[(12,.ref 12 0 0 0),(13,.sl 1 (bH (aV (aG aJ l) ((bG u (aG aJ l).now)::m)))),(14,.ref 14 0 0 0),(15,.sl 1 (bH (aV aJ (aW u (aS aJ l))))),(16,.ref 16 0 0 0),(68,.agg (evC (bG u (aG aJ l).now))),(71,.sl 6 (m.map evC))],[(16,.box [.s (.int .i64 0),.s (.int .i64 0),.s (.slice none 0 0),.s (.slice none 0 0),.s (.slice none 0 0),.s (.slice none 0 0)]),(14,.box (aL (aG aJ (aW u (aS aJ l))))),(12,.box (aL (aG (aG aJ l) ((bG u (aG aJ l).now)::m)))),(7,.box (aL aJ))]⟩ ?_ (fun hD28=>?_)
       ·
        refine aH 0 [2] (by kernel_rfl) ⟨?_,?_,trivial⟩
        ·
         refine⟨_,rfl,rfl,(ao rfl (aE aA 1 rfl (aF (ag hD19 rfl rfl rfl))))⟩
        ·
         refine⟨_,rfl,rfl,(ao rfl (cR hf rfl rfl rfl cW rfl rfl rfl rfl (l2 rfl) ?_))⟩
         refine aF (ag hD21 rfl rfl rfl)
       refine aK 10 #[true,true,false,true,false,false,false,false,false,false,false,false,false] ⟨107,[(12,.ref 12 0 0 0),(13,.sl 1 (bH (aV (aG aJ l) ((bG u (aG aJ l).now)::m)))),(15,.sl 1 (bH (aV aJ (aW u (aS aJ l))))),(67,.agg (aL (aG aJ (aW u (aS aJ l))))),(68,.agg (evC (bG u (aG aJ l).now))),(70,.sl 6 (m.map evC))],[(14,.box (aL (aG aJ (aW u (aS aJ l))))),(12,.box (aL (aG (aG aJ l) ((bG u (aG aJ l).now)::m)))),(7,.box (aL aJ))]⟩ ?_ (fun hD29=>?_)
       ·
        refine aH 2 [4,10] (by kernel_rfl) ⟨?_,?_,?_,trivial⟩
        ·
         refine⟨_,rfl,rfl,(ao rfl (cR hf rfl rfl rfl cW rfl rfl rfl rfl (l2 rfl) ?_))⟩
         refine aF (ag hD22 rfl rfl rfl)
        ·
         refine⟨_,rfl,rfl,(ao rfl (aN hf rfl (aP rfl rfl cO rfl (dA m (by omega))) (aF (ag hD23 rfl rfl rfl))))⟩
        ·
         refine⟨_,rfl,rfl,(ao rfl (aZ hf rfl rfl rfl aX (aF (ag hD24 rfl rfl rfl))))⟩
       refine aK 10 #[true,false,false,true,true,false,false,false,false,false,false,false,false] ⟨107,[(11,.adr (evC (bG u (aG aJ l).now))),(12,.ref 12 0 0 0),(13,.sl 1 (bH (aV (aG aJ l) ((bG u (aG aJ l).now)::m)))),(15,.sl 1 (bH (aV aJ (aW u (aS aJ l))))),(67,.agg (aL (aG aJ (aW u (aS aJ l))))),(71,.sl 6 (m.map evC))],[(14,.box (aL (aG aJ (aW u (aS aJ l))))),(12,.box (aL (aG (aG aJ l) ((bG u (aG aJ l).now)::m)))),(7,.box (aL aJ))]⟩ ?_ (fun hD30=>?_)
       ·
        refine aH 1 [10] (by kernel_rfl) ⟨?_,?_,trivial⟩
        ·
         refine⟨_,rfl,rfl,(ao rfl (aE aA 1 rfl (aF (ag hD23 rfl rfl rfl))))⟩
        ·
         refine⟨_,rfl,rfl,(ao rfl (aZ hf rfl rfl rfl aX (aF (ag hD25 rfl rfl rfl))))⟩
       refine aK 10 #[true,false,false,true,false,false,false,false,false,false,true,false,false] ⟨107,[(11,.adr (evC (bG u (aG aJ l).now))),(12,.ref 12 0 0 0),(13,.sl 1 (bH (aV (aG aJ l) ((bG u (aG aJ l).now)::m)))),(15,.sl 1 (bH (aV aJ (aW u (aS aJ l))))),(16,.ref 16 0 0 0),(67,.agg (aL (aG aJ (aW u (aS aJ l))))),(70,.sl 6 (m.map evC))],[(16,.box [.s (.int .i64 0),.s (.int .i64 0),.s (.slice none 0 0),.s (.slice none 0 0),.s (.slice none 0 0),.s (.slice none 0 0)]),(14,.box (aL (aG aJ (aW u (aS aJ l))))),(12,.box (aL (aG (aG aJ l) ((bG u (aG aJ l).now)::m)))),(7,.box (aL aJ))]⟩ ?_ (fun hD31=>?_)
       ·
        refine aH 1 [4] (by kernel_rfl) ⟨?_,?_,trivial⟩
        ·
         refine⟨_,rfl,rfl,(ao rfl (aE aA 1 rfl (aF (ag hD24 rfl rfl rfl))))⟩
        ·
         refine⟨_,rfl,rfl,(ao rfl (aN hf rfl (aP rfl rfl cO rfl (dA m (by omega))) (aF (ag hD25 rfl rfl rfl))))⟩
       refine aK 10 #[false,true,true,true,false,false,false,false,false,false,false,false,false] ⟨107,[(12,.ref 12 0 0 0),(13,.sl 1 (bH (aV (aG aJ l) ((bG u (aG aJ l).now)::m)))),(14,.ref 14 0 0 0),(15,.sl 1 (bH (aV aJ (aW u (aS aJ l))))),(69,.own 69 6 0 1),(70,.sl 6 (m.map evC))],[(69,.buf 6 [evC (bG u (aG aJ l).now)]),(14,.box (aL (aG aJ (aW u (aS aJ l))))),(12,.box (aL (aG (aG aJ l) ((bG u (aG aJ l).now)::m)))),(7,.box (aL aJ))]⟩ ?_ (fun hD32=>?_)
       ·
        refine aH 0 [4,10] (by kernel_rfl) ⟨?_,?_,?_,trivial⟩
        ·
         refine⟨_,rfl,rfl,(ao rfl (aE aA 1 rfl (aF (ag hD22 rfl rfl rfl))))⟩
        ·
         refine⟨_,rfl,rfl,(ao rfl (aN hf rfl (aP rfl rfl cO rfl (dA m (by omega))) (aF (ag hD26 rfl rfl rfl))))⟩
        ·
         refine⟨_,rfl,rfl,(ao rfl (aZ hf rfl rfl rfl aX (aF (ag hD27 rfl rfl rfl))))⟩
       refine aK 10 #[false,true,false,true,true,false,false,false,false,false,false,false,false] ⟨107,[(12,.ref 12 0 0 0),(13,.sl 1 (bH (aV (aG aJ l) ((bG u (aG aJ l).now)::m)))),(14,.ref 14 0 0 0),(15,.sl 1 (bH (aV aJ (aW u (aS aJ l))))),(68,.agg (evC (bG u (aG aJ l).now))),(71,.sl 6 (m.map evC))],[(14,.box (aL (aG aJ (aW u (aS aJ l))))),(12,.box (aL (aG (aG aJ l) ((bG u (aG aJ l).now)::m)))),(7,.box (aL aJ))]⟩ ?_ (fun hD33=>?_)
       ·
        refine aH 0 [2,10] (by kernel_rfl) ⟨?_,?_,?_,trivial⟩
        ·
         refine⟨_,rfl,rfl,(ao rfl (aE aA 1 rfl (aF (ag hD23 rfl rfl rfl))))⟩
        ·
         refine⟨_,rfl,rfl,(ao rfl (cR hf rfl rfl rfl cW rfl rfl rfl rfl (l2 rfl) ?_))⟩
         refine aF (ag hD26 rfl rfl rfl)
        ·
         refine⟨_,rfl,rfl,(ao rfl (aZ hf rfl rfl rfl aX (aF (ag hD28 rfl rfl rfl))))⟩
       refine aK 10 #[false,true,false,true,false,false,false,false,false,false,true,false,false] ⟨107,[(12,.ref 12 0 0 0),(13,.sl 1 (bH (aV (aG aJ l) ((bG u (aG aJ l).now)::m)))),(14,.ref 14 0 0 0),(15,.sl 1 (bH (aV aJ (aW u (aS aJ l))))),(16,.ref 16 0 0 0),(68,.agg (evC (bG u (aG aJ l).now))),(70,.sl 6 (m.map evC))],[(16,.box [.s (.int .i64 0),.s (.int .i64 0),.s (.slice none 0 0),.s (.slice none 0 0),.s (.slice none 0 0),.s (.slice none 0 0)]),(14,.box (aL (aG aJ (aW u (aS aJ l))))),(12,.box (aL (aG (aG aJ l) ((bG u (aG aJ l).now)::m)))),(7,.box (aL aJ))]⟩ ?_ (fun hD34=>?_)
       ·
        refine aH 0 [2,4] (by kernel_rfl) ⟨?_,?_,?_,trivial⟩
        ·
         refine⟨_,rfl,rfl,(ao rfl (aE aA 1 rfl (aF (ag hD24 rfl rfl rfl))))⟩
        ·
         refine⟨_,rfl,rfl,(ao rfl (cR hf rfl rfl rfl cW rfl rfl rfl rfl (l2 rfl) ?_))⟩
         refine aF (ag hD27 rfl rfl rfl)
        ·
         refine⟨_,rfl,rfl,(ao rfl (aN hf rfl (aP rfl rfl cO rfl (dA m (by omega))) (aF (ag hD28 rfl rfl rfl))))⟩
       refine aK 10 #[false,false,false,true,true,false,false,false,false,false,true,false,false] ⟨107,[(11,.adr (evC (bG u (aG aJ l).now))),(12,.ref 12 0 0 0),(13,.sl 1 (bH (aV (aG aJ l) ((bG u (aG aJ l).now)::m)))),(14,.ref 14 0 0 0),(15,.sl 1 (bH (aV aJ (aW u (aS aJ l))))),(16,.ref 16 0 0 0),(71,.sl 6 (m.map evC))],[(16,.box [.s (.int .i64 0),.s (.int .i64 0),.s (.slice none 0 0),.s (.slice none 0 0),.s (.slice none 0 0),.s (.slice none 0 0)]),(14,.box (aL (aG aJ (aW u (aS aJ l))))),(12,.box (aL (aG (aG aJ l) ((bG u (aG aJ l).now)::m)))),(7,.box (aL aJ))]⟩ ?_ (fun hD35=>?_)
       ·
        refine aH 0 [1] (by kernel_rfl) ⟨?_,?_,trivial⟩
        ·
         refine⟨_,rfl,rfl,(ao rfl (aE aA 1 rfl (aF (ag hD25 rfl rfl rfl))))⟩
        ·
         refine⟨_,rfl,rfl,(ao rfl (aE aA 1 rfl (aF (ag hD28 rfl rfl rfl))))⟩
       refine aK 11 #[true,false,false,true,false,false,false,false,false,false,false,false,false] ⟨107,[(11,.adr (evC (bG u (aG aJ l).now))),(12,.ref 12 0 0 0),(13,.sl 1 (bH (aV (aG aJ l) ((bG u (aG aJ l).now)::m)))),(15,.sl 1 (bH (aV aJ (aW u (aS aJ l))))),(67,.agg (aL (aG aJ (aW u (aS aJ l))))),(70,.sl 6 (m.map evC))],[(14,.box (aL (aG aJ (aW u (aS aJ l))))),(12,.box (aL (aG (aG aJ l) ((bG u (aG aJ l).now)::m)))),(7,.box (aL aJ))]⟩ ?_ (fun hD36=>?_)
       ·
        refine aH 1 [4,10] (by kernel_rfl) ⟨?_,?_,?_,trivial⟩
        ·
         refine⟨_,rfl,rfl,(ao rfl (aE aA 1 rfl (aF (ag hD29 rfl rfl rfl))))⟩
        ·
         refine⟨_,rfl,rfl,(ao rfl (aN hf rfl (aP rfl rfl cO rfl (dA m (by omega))) (aF (ag hD30 rfl rfl rfl))))⟩
        ·
         refine⟨_,rfl,rfl,(ao rfl (aZ hf rfl rfl rfl aX (aF (ag hD31 rfl rfl rfl))))⟩
       refine aK 11 #[false,true,false,true,false,false,false,false,false,false,false,false,false] ⟨107,[(12,.ref 12 0 0 0),(13,.sl 1 (bH (aV (aG aJ l) ((bG u (aG aJ l).now)::m)))),(14,.ref 14 0 0 0),(15,.sl 1 (bH (aV aJ (aW u (aS aJ l))))),(68,.agg (evC (bG u (aG aJ l).now))),(70,.sl 6 (m.map evC))],[(14,.box (aL (aG aJ (aW u (aS aJ l))))),(12,.box (aL (aG (aG aJ l) ((bG u (aG aJ l).now)::m)))),(7,.box (aL aJ))]⟩ ?_ (fun hD37=>?_)
       ·
        refine aH 0 [2,4,10] (by kernel_rfl) ⟨?_,?_,?_,?_,trivial⟩
        ·
         refine⟨_,rfl,rfl,(ao rfl (aE aA 1 rfl (aF (ag hD29 rfl rfl rfl))))⟩
        ·
         refine⟨_,rfl,rfl,(ao rfl (cR hf rfl rfl rfl cW rfl rfl rfl rfl (l2 rfl) ?_))⟩
         refine aF (ag hD32 rfl rfl rfl)
        ·
         refine⟨_,rfl,rfl,(ao rfl (aN hf rfl (aP rfl rfl cO rfl (dA m (by omega))) (aF (ag hD33 rfl rfl rfl))))⟩
        ·
         refine⟨_,rfl,rfl,(ao rfl (aZ hf rfl rfl rfl aX (aF (ag hD34 rfl rfl rfl))))⟩
       refine aK 11 #[false,false,false,true,true,false,false,false,false,false,false,false,false] ⟨107,[(11,.adr (evC (bG u (aG aJ l).now))),(12,.ref 12 0 0 0),(13,.sl 1 (bH (aV (aG aJ l) ((bG u (aG aJ l).now)::m)))),(14,.ref 14 0 0 0),(15,.sl 1 (bH (aV aJ (aW u (aS aJ l))))),(71,.sl 6 (m.map evC))],[(14,.box (aL (aG aJ (aW u (aS aJ l))))),(12,.box (aL (aG (aG aJ l) ((bG u (aG aJ l).now)::m)))),(7,.box (aL aJ))]⟩ ?_ (fun hD38=>?_)
       ·
        refine aH 0 [1,10] (by kernel_rfl) ⟨?_,?_,?_,trivial⟩
        ·
         refine⟨_,rfl,rfl,(ao rfl (aE aA 1 rfl (aF (ag hD30 rfl rfl rfl))))⟩
        ·
         refine⟨_,rfl,rfl,(ao rfl (aE aA 1 rfl (aF (ag hD33 rfl rfl rfl))))⟩
        ·
         refine⟨_,rfl,rfl,(ao rfl (aZ hf rfl rfl rfl aX (aF (ag hD35 rfl rfl rfl))))⟩
       refine aK 11 #[false,false,false,true,false,false,false,false,false,false,true,false,false] ⟨107,[(11,.adr (evC (bG u (aG aJ l).now))),(12,.ref 12 0 0 0),(13,.sl 1 (bH (aV (aG aJ l) ((bG u (aG aJ l).now)::m)))),(14,.ref 14 0 0 0),(15,.sl 1 (bH (aV aJ (aW u (aS aJ l))))),(16,.ref 16 0 0 0),(70,.sl 6 (m.map evC))],[(16,.box [.s (.int .i64 0),.s (.int .i64 0),.s (.slice none 0 0),.s (.slice none 0 0),.s (.slice none 0 0),.s (.slice none 0 0)]),(14,.box (aL (aG aJ (aW u (aS aJ l))))),(12,.box (aL (aG (aG aJ l) ((bG u (aG aJ l).now)::m)))),(7,.box (aL aJ))]⟩ ?_ (fun hD39=>?_)
       ·
        refine aH 0 [1,4] (by kernel_rfl) ⟨?_,?_,?_,trivial⟩
        ·
         refine⟨_,rfl,rfl,(ao rfl (aE aA 1 rfl (aF (ag hD31 rfl rfl rfl))))⟩
        ·
         refine⟨_,rfl,rfl,(ao rfl (aE aA 1 rfl (aF (ag hD34 rfl rfl rfl))))⟩
        ·
         refine⟨_,rfl,rfl,(ao rfl (aN hf rfl (aP rfl rfl cO rfl (dA m (by omega))) (aF (ag hD35 rfl rfl rfl))))⟩
       refine gZ (mQ (sl':=[(11,.adr (evC (bG u (aG aJ l).now))),(12,.ref 12 0 0 0),(13,.sl 1 (bH (aV (aG aJ l) ((bG u (aG aJ l).now)::m)))),(14,.ref 14 0 0 0),(15,.sl 1 (bH (aV aJ (aW u (aS aJ l))))),(70,.sl 6 (m.map evC))]) (m':=[(14,.box (aL (aG aJ (aW u (aS aJ l))))),(12,.box (aL (aG (aG aJ l) ((bG u (aG aJ l).now)::m)))),(7,.box (aL aJ))]) rfl rfl rfl) (aH 0 [1,4,10] (by kernel_rfl) ⟨?_,?_,?_,?_,trivial⟩)
       ·
        refine⟨_,rfl,rfl,(ao rfl (aE aA 1 rfl (aF (ag hD36 rfl rfl rfl))))⟩
       ·
        refine⟨_,rfl,rfl,(ao rfl (aE aA 1 rfl (aF (ag hD37 rfl rfl rfl))))⟩
       ·
        refine⟨_,rfl,rfl,(ao rfl (aN hf rfl (aP rfl rfl cO rfl (dA m (by omega))) (aF (ag hD38 rfl rfl rfl))))⟩
       ·
        refine⟨_,rfl,rfl,(ao rfl (aZ hf rfl rfl rfl aX (aF (ag hD39 rfl rfl rfl))))⟩
      refine aK 1 #[true,true,true,true,true,true,true,true,true,true,false] ⟨107,[(2,.sl 6 (m.map evC)),(11,.adr (evC (bG u (aG aJ l).now))),(12,.ref 12 0 0 0),(13,.sl 1 (bH (aV (aG aJ l) ((bG u (aG aJ l).now)::m)))),(14,.ref 14 0 0 0),(65,.sl 1 (bH (aV aJ (aW u (aS aJ l)))))],[(14,.box (aL (aG aJ (aW u (aS aJ l))))),(12,.box (aL (aG (aG aJ l) ((bG u (aG aJ l).now)::m)))),(7,.box (aL aJ))]⟩ ?_ (fun hD1=>?_)
      ·
       refine aH 10 [] (by kernel_rfl) ⟨?_,trivial⟩
       ·
        refine⟨_,rfl,rfl,(ao rfl (aE aA 1 rfl (aF (ag hD0 rfl rfl rfl))))⟩
      refine aK 2 #[true,true,true,true,true,true,true,true,true,false,false] ⟨107,[(2,.sl 6 (m.map evC)),(11,.adr (evC (bG u (aG aJ l).now))),(12,.ref 12 0 0 0),(13,.sl 1 (bH (aV (aG aJ l) ((bG u (aG aJ l).now)::m)))),(14,.ref 14 0 0 0),(64,.agg (aL (aG aJ (aW u (aS aJ l))))),(65,.sl 1 (bH (aV aJ (aW u (aS aJ l)))))],[(14,.box [.s (.int .i64 0),.s (.int .i64 0),.s (.slice none 0 0),.s (.slice none 0 0),.s (.slice none 0 0),.s (.slice none 0 0)]),(12,.box (aL (aG (aG aJ l) ((bG u (aG aJ l).now)::m)))),(7,.box (aL aJ))]⟩ ?_ (fun hD2=>?_)
      ·
       refine aH 9 [] (by kernel_rfl) ⟨?_,trivial⟩
       ·
        refine⟨_,rfl,rfl,(ao rfl (bD hf rfl rfl bS rfl rfl (l1 rfl) (l4 rfl) rfl (aF (ag hD1 rfl rfl rfl))))⟩
      refine aK 2 #[true,true,true,true,true,true,true,false,true,true,false] ⟨107,[(2,.sl 6 (m.map evC)),(11,.adr (evC (bG u (aG aJ l).now))),(12,.ref 12 0 0 0),(13,.sl 1 (bH (aV (aG aJ l) ((bG u (aG aJ l).now)::m)))),(14,.ref 14 0 0 0),(58,.tup [.agg (aL (aG aJ (aW u (aS aJ l)))),.sl 1 (bH (aV aJ (aW u (aS aJ l))))])],[(14,.box (aL (aG aJ (aW u (aS aJ l))))),(12,.box (aL (aG (aG aJ l) ((bG u (aG aJ l).now)::m)))),(7,.box (aL aJ))]⟩ ?_ (fun hD3=>?_)
      ·
       refine aH 7 [] (by kernel_rfl) ⟨?_,trivial⟩
       ·
        refine⟨_,rfl,rfl,(ao rfl (aE aA 1 rfl (aF (ag hD1 rfl rfl rfl))))⟩
      refine aK 3 #[true,true,true,true,true,true,true,true,false,false,false] ⟨107,[(2,.sl 6 (m.map evC)),(11,.adr (evC (bG u (aG aJ l).now))),(12,.ref 12 0 0 0),(13,.sl 1 (bH (aV (aG aJ l) ((bG u (aG aJ l).now)::m)))),(64,.agg (aL (aG aJ (aW u (aS aJ l))))),(65,.sl 1 (bH (aV aJ (aW u (aS aJ l)))))],[(12,.box (aL (aG (aG aJ l) ((bG u (aG aJ l).now)::m)))),(7,.box (aL aJ))]⟩ ?_ (fun hD4=>?_)
      ·
       refine aH 8 [] (by kernel_rfl) ⟨?_,trivial⟩
       ·
        refine⟨_,rfl,rfl,(ao rfl (aZ hf rfl rfl rfl aX (aF (ag hD2 rfl rfl rfl))))⟩
      refine aK 3 #[true,true,true,true,true,true,true,false,true,false,false] ⟨107,[(2,.sl 6 (m.map evC)),(11,.adr (evC (bG u (aG aJ l).now))),(12,.ref 12 0 0 0),(13,.sl 1 (bH (aV (aG aJ l) ((bG u (aG aJ l).now)::m)))),(14,.ref 14 0 0 0),(58,.tup [.agg (aL (aG aJ (aW u (aS aJ l)))),.sl 1 (bH (aV aJ (aW u (aS aJ l))))]),(64,.agg (aL (aG aJ (aW u (aS aJ l)))))],[(14,.box [.s (.int .i64 0),.s (.int .i64 0),.s (.slice none 0 0),.s (.slice none 0 0),.s (.slice none 0 0),.s (.slice none 0 0)]),(12,.box (aL (aG (aG aJ l) ((bG u (aG aJ l).now)::m)))),(7,.box (aL aJ))]⟩ ?_ (fun hD5=>?_)
      ·
       refine aH 7 [9] (by kernel_rfl) ⟨?_,?_,trivial⟩
       ·
        refine⟨_,rfl,rfl,(ao rfl (aE aA 1 rfl (aF (ag hD2 rfl rfl rfl))))⟩
       ·
        refine⟨_,rfl,rfl,(ao rfl (bD hf rfl rfl bS rfl rfl (l1 rfl) (l4 rfl) rfl (aF (ag hD3 rfl rfl rfl))))⟩
      refine aK 3 #[true,true,true,true,true,true,false,true,true,false,false] ⟨107,[(2,.sl 6 (m.map evC)),(11,.adr (evC (bG u (aG aJ l).now))),(12,.ref 12 0 0 0),(13,.sl 1 (bH (aV (aG aJ l) ((bG u (aG aJ l).now)::m)))),(14,.ref 14 0 0 0),(58,.tup [.agg (aL (aG aJ (aW u (aS aJ l)))),.sl 1 (bH (aV aJ (aW u (aS aJ l))))]),(65,.sl 1 (bH (aV aJ (aW u (aS aJ l)))))],[(14,.box [.s (.int .i64 0),.s (.int .i64 0),.s (.slice none 0 0),.s (.slice none 0 0),.s (.slice none 0 0),.s (.slice none 0 0)]),(12,.box (aL (aG (aG aJ l) ((bG u (aG aJ l).now)::m)))),(7,.box (aL aJ))]⟩ ?_ (fun hD6=>?_)
      ·
       refine aH 6 [] (by kernel_rfl) ⟨?_,trivial⟩
       ·
        refine⟨_,rfl,rfl,(ao rfl (aE aA 1 rfl (aF (ag hD2 rfl rfl rfl))))⟩
      refine aK 4 #[true,true,true,true,true,true,true,false,false,false,false] ⟨107,[(2,.sl 6 (m.map evC)),(11,.adr (evC (bG u (aG aJ l).now))),(12,.ref 12 0 0 0),(13,.sl 1 (bH (aV (aG aJ l) ((bG u (aG aJ l).now)::m)))),(58,.tup [.agg (aL (aG aJ (aW u (aS aJ l)))),.sl 1 (bH (aV aJ (aW u (aS aJ l))))]),(64,.agg (aL (aG aJ (aW u (aS aJ l)))))],[(12,.box (aL (aG (aG aJ l) ((bG u (aG aJ l).now)::m)))),(7,.box (aL aJ))]⟩ ?_ (fun hD7=>?_)
      ·
       refine aH 7 [8] (by kernel_rfl) ⟨?_,?_,trivial⟩
       ·
        refine⟨_,rfl,rfl,(ao rfl (aE aA 1 rfl (aF (ag hD4 rfl rfl rfl))))⟩
       ·
        refine⟨_,rfl,rfl,(ao rfl (aZ hf rfl rfl rfl aX (aF (ag hD5 rfl rfl rfl))))⟩
      refine aK 4 #[true,true,true,true,true,true,false,true,false,false,false] ⟨107,[(2,.sl 6 (m.map evC)),(11,.adr (evC (bG u (aG aJ l).now))),(12,.ref 12 0 0 0),(13,.sl 1 (bH (aV (aG aJ l) ((bG u (aG aJ l).now)::m)))),(58,.tup [.agg (aL (aG aJ (aW u (aS aJ l)))),.sl 1 (bH (aV aJ (aW u (aS aJ l))))]),(65,.sl 1 (bH (aV aJ (aW u (aS aJ l)))))],[(12,.box (aL (aG (aG aJ l) ((bG u (aG aJ l).now)::m)))),(7,.box (aL aJ))]⟩ ?_ (fun hD8=>?_)
      ·
       refine aH 6 [8] (by kernel_rfl) ⟨?_,?_,trivial⟩
       ·
        refine⟨_,rfl,rfl,(ao rfl (aE aA 1 rfl (aF (ag hD4 rfl rfl rfl))))⟩
       ·
        refine⟨_,rfl,rfl,(ao rfl (aZ hf rfl rfl rfl aX (aF (ag hD6 rfl rfl rfl))))⟩
      refine aK 4 #[true,true,true,true,true,true,false,false,true,false,false] ⟨107,[(2,.sl 6 (m.map evC)),(11,.adr (evC (bG u (aG aJ l).now))),(12,.ref 12 0 0 0),(13,.sl 1 (bH (aV (aG aJ l) ((bG u (aG aJ l).now)::m)))),(14,.ref 14 0 0 0),(58,.tup [.agg (aL (aG aJ (aW u (aS aJ l)))),.sl 1 (bH (aV aJ (aW u (aS aJ l))))])],[(14,.box [.s (.int .i64 0),.s (.int .i64 0),.s (.slice none 0 0),.s (.slice none 0 0),.s (.slice none 0 0),.s (.slice none 0 0)]),(12,.box (aL (aG (aG aJ l) ((bG u (aG aJ l).now)::m)))),(7,.box (aL aJ))]⟩ ?_ (fun hD9=>?_)
      ·
       refine aH 6 [7] (by kernel_rfl) ⟨?_,?_,trivial⟩
       ·
        refine⟨_,rfl,rfl,(ao rfl (aE aA 1 rfl (aF (ag hD5 rfl rfl rfl))))⟩
       ·
        refine⟨_,rfl,rfl,(ao rfl (aE aA 1 rfl (aF (ag hD6 rfl rfl rfl))))⟩
      refine aK 5 #[true,true,true,true,true,true,false,false,false,false,false] ⟨107,[(2,.sl 6 (m.map evC)),(11,.adr (evC (bG u (aG aJ l).now))),(12,.ref 12 0 0 0),(13,.sl 1 (bH (aV (aG aJ l) ((bG u (aG aJ l).now)::m)))),(58,.tup [.agg (aL (aG aJ (aW u (aS aJ l)))),.sl 1 (bH (aV aJ (aW u (aS aJ l))))])],[(12,.box (aL (aG (aG aJ l) ((bG u (aG aJ l).now)::m)))),(7,.box (aL aJ))]⟩ ?_ (fun hD10=>?_)
      ·
       refine aH 6 [7,8] (by kernel_rfl) ⟨?_,?_,?_,trivial⟩
       ·
        refine⟨_,rfl,rfl,(ao rfl (aE aA 1 rfl (aF (ag hD7 rfl rfl rfl))))⟩
       ·
        refine⟨_,rfl,rfl,(ao rfl (aE aA 1 rfl (aF (ag hD8 rfl rfl rfl))))⟩
       ·
        refine⟨_,rfl,rfl,(ao rfl (aZ hf rfl rfl rfl aX (aF (ag hD9 rfl rfl rfl))))⟩
      refine aK 5 #[true,true,true,true,true,false,false,false,true,false,false] ⟨107,[(2,.sl 6 (m.map evC)),(11,.adr (evC (bG u (aG aJ l).now))),(12,.ref 12 0 0 0),(13,.sl 1 (bH (aV (aG aJ l) ((bG u (aG aJ l).now)::m)))),(14,.ref 14 0 0 0),(63,.tup [.agg (aL (aG aJ (aW u (aS aJ l)))),.sl 1 (bH (aV aJ (aW u (aS aJ l))))])],[(14,.box [.s (.int .i64 0),.s (.int .i64 0),.s (.slice none 0 0),.s (.slice none 0 0),.s (.slice none 0 0),.s (.slice none 0 0)]),(12,.box (aL (aG (aG aJ l) ((bG u (aG aJ l).now)::m)))),(7,.box (aL aJ))]⟩ ?_ (fun hD11=>?_)
      ·
       refine aH 5 [] (by kernel_rfl) ⟨?_,trivial⟩
       ·
        refine⟨_,rfl,rfl,(ao rfl (aE aA 1 rfl (aF (ag hD9 rfl rfl rfl))))⟩
      refine aK 6 #[true,true,true,true,true,false,false,false,false,false,false] ⟨107,[(2,.sl 6 (m.map evC)),(11,.adr (evC (bG u (aG aJ l).now))),(12,.ref 12 0 0 0),(13,.sl 1 (bH (aV (aG aJ l) ((bG u (aG aJ l).now)::m)))),(63,.tup [.agg (aL (aG aJ (aW u (aS aJ l)))),.sl 1 (bH (aV aJ (aW u (aS aJ l))))])],[(12,.box (aL (aG (aG aJ l) ((bG u (aG aJ l).now)::m)))),(7,.box (aL aJ))]⟩ ?_ (fun hD12=>?_)
      ·
       refine aH 5 [8] (by kernel_rfl) ⟨?_,?_,trivial⟩
       ·
        refine⟨_,rfl,rfl,(ao rfl (aE aA 1 rfl (aF (ag hD10 rfl rfl rfl))))⟩
       ·
        refine⟨_,rfl,rfl,(ao rfl (aZ hf rfl rfl rfl aX (aF (ag hD11 rfl rfl rfl))))⟩
      refine aK 6 #[true,true,true,true,false,false,false,false,true,false,false] ⟨107,[(2,.sl 6 (m.map evC)),(11,.adr (evC (bG u (aG aJ l).now))),(12,.ref 12 0 0 0),(13,.sl 1 (bH (aV (aG aJ l) ((bG u (aG aJ l).now)::m)))),(14,.ref 14 0 0 0),(59,.agg (aL aJ)),(62,.sl 6 ((aW u (aS aJ l)).map evC))],[(14,.box [.s (.int .i64 0),.s (.int .i64 0),.s (.slice none 0 0),.s (.slice none 0 0),.s (.slice none 0 0),.s (.slice none 0 0)]),(12,.box (aL (aG (aG aJ l) ((bG u (aG aJ l).now)::m)))),(7,.box (aL aJ))]⟩ ?_ (fun hD13=>?_)
      ·
       refine aH 4 [] (by kernel_rfl) ⟨?_,trivial⟩
       ·
        refine⟨_,rfl,rfl,(ao rfl (aN hf rfl (aP rfl rfl fC rfl (iB aJ (aW u (aS aJ l)) hz0 eQ (by omega) htW)) (aF (ag hD11 rfl rfl rfl))))⟩
      refine aK 7 #[true,true,true,true,false,false,false,false,false,false,false] ⟨107,[(2,.sl 6 (m.map evC)),(11,.adr (evC (bG u (aG aJ l).now))),(12,.ref 12 0 0 0),(13,.sl 1 (bH (aV (aG aJ l) ((bG u (aG aJ l).now)::m)))),(59,.agg (aL aJ)),(62,.sl 6 ((aW u (aS aJ l)).map evC))],[(12,.box (aL (aG (aG aJ l) ((bG u (aG aJ l).now)::m)))),(7,.box (aL aJ))]⟩ ?_ (fun hD14=>?_)
      ·
       refine aH 4 [8] (by kernel_rfl) ⟨?_,?_,trivial⟩
       ·
        refine⟨_,rfl,rfl,(ao rfl (aN hf rfl (aP rfl rfl fC rfl (iB aJ (aW u (aS aJ l)) hz0 eQ (by omega) htW)) (aF (ag hD12 rfl rfl rfl))))⟩
       ·
        refine⟨_,rfl,rfl,(ao rfl (aZ hf rfl rfl rfl aX (aF (ag hD13 rfl rfl rfl))))⟩
      refine aK 7 #[true,true,true,false,false,false,false,false,true,false,false] ⟨107,[(2,.sl 6 (m.map evC)),(11,.adr (evC (bG u (aG aJ l).now))),(12,.ref 12 0 0 0),(13,.sl 1 (bH (aV (aG aJ l) ((bG u (aG aJ l).now)::m)))),(14,.ref 14 0 0 0),(59,.agg (aL aJ)),(60,.s (.string u)),(61,.sl 6 ((aS aJ l).map evC))],[(14,.box [.s (.int .i64 0),.s (.int .i64 0),.s (.slice none 0 0),.s (.slice none 0 0),.s (.slice none 0 0),.s (.slice none 0 0)]),(12,.box (aL (aG (aG aJ l) ((bG u (aG aJ l).now)::m)))),(7,.box (aL aJ))]⟩ ?_ (fun hD15=>?_)
      ·
       refine aH 3 [] (by kernel_rfl) ⟨?_,trivial⟩
       ·
        refine⟨_,rfl,rfl,(ao rfl (aN hf rfl (aP rfl rfl qM rfl (lB (aS aJ l) u (by omega))) (aF (ag hD13 rfl rfl rfl))))⟩
      refine aK 7 #[false,true,true,true,false,false,false,false,true,false,false] ⟨107,[(2,.sl 6 (m.map evC)),(7,.ref 7 0 0 0),(11,.adr (evC (bG u (aG aJ l).now))),(12,.ref 12 0 0 0),(13,.sl 1 (bH (aV (aG aJ l) ((bG u (aG aJ l).now)::m)))),(14,.ref 14 0 0 0),(62,.sl 6 ((aW u (aS aJ l)).map evC))],[(14,.box [.s (.int .i64 0),.s (.int .i64 0),.s (.slice none 0 0),.s (.slice none 0 0),.s (.slice none 0 0),.s (.slice none 0 0)]),(12,.box (aL (aG (aG aJ l) ((bG u (aG aJ l).now)::m)))),(7,.box (aL aJ))]⟩ ?_ (fun hD16=>?_)
      ·
       refine aH 0 [] (by kernel_rfl) ⟨?_,trivial⟩
       ·
        refine⟨_,rfl,rfl,(ao rfl (aE aA 1 rfl (aF (ag hD13 rfl rfl rfl))))⟩
      refine aK 8 #[true,true,true,false,false,false,false,false,false,false,false] ⟨107,[(2,.sl 6 (m.map evC)),(11,.adr (evC (bG u (aG aJ l).now))),(12,.ref 12 0 0 0),(13,.sl 1 (bH (aV (aG aJ l) ((bG u (aG aJ l).now)::m)))),(59,.agg (aL aJ)),(60,.s (.string u)),(61,.sl 6 ((aS aJ l).map evC))],[(12,.box (aL (aG (aG aJ l) ((bG u (aG aJ l).now)::m)))),(7,.box (aL aJ))]⟩ ?_ (fun hD17=>?_)
      ·
       refine aH 3 [8] (by kernel_rfl) ⟨?_,?_,trivial⟩
       ·
        refine⟨_,rfl,rfl,(ao rfl (aN hf rfl (aP rfl rfl qM rfl (lB (aS aJ l) u (by omega))) (aF (ag hD14 rfl rfl rfl))))⟩
       ·
        refine⟨_,rfl,rfl,(ao rfl (aZ hf rfl rfl rfl aX (aF (ag hD15 rfl rfl rfl))))⟩
      refine aK 8 #[false,true,true,true,false,false,false,false,false,false,false] ⟨107,[(2,.sl 6 (m.map evC)),(7,.ref 7 0 0 0),(11,.adr (evC (bG u (aG aJ l).now))),(12,.ref 12 0 0 0),(13,.sl 1 (bH (aV (aG aJ l) ((bG u (aG aJ l).now)::m)))),(62,.sl 6 ((aW u (aS aJ l)).map evC))],[(12,.box (aL (aG (aG aJ l) ((bG u (aG aJ l).now)::m)))),(7,.box (aL aJ))]⟩ ?_ (fun hD18=>?_)
      ·
       refine aH 0 [8] (by kernel_rfl) ⟨?_,?_,trivial⟩
       ·
        refine⟨_,rfl,rfl,(ao rfl (aE aA 1 rfl (aF (ag hD14 rfl rfl rfl))))⟩
       ·
        refine⟨_,rfl,rfl,(ao rfl (aZ hf rfl rfl rfl aX (aF (ag hD16 rfl rfl rfl))))⟩
      refine aK 8 #[false,true,true,false,false,false,false,false,true,false,false] ⟨107,[(2,.sl 6 (m.map evC)),(7,.ref 7 0 0 0),(11,.adr (evC (bG u (aG aJ l).now))),(12,.ref 12 0 0 0),(13,.sl 1 (bH (aV (aG aJ l) ((bG u (aG aJ l).now)::m)))),(14,.ref 14 0 0 0),(60,.s (.string u)),(61,.sl 6 ((aS aJ l).map evC))],[(14,.box [.s (.int .i64 0),.s (.int .i64 0),.s (.slice none 0 0),.s (.slice none 0 0),.s (.slice none 0 0),.s (.slice none 0 0)]),(12,.box (aL (aG (aG aJ l) ((bG u (aG aJ l).now)::m)))),(7,.box (aL aJ))]⟩ ?_ (fun hD19=>?_)
      ·
       refine aH 0 [3] (by kernel_rfl) ⟨?_,?_,trivial⟩
       ·
        refine⟨_,rfl,rfl,(ao rfl (aE aA 1 rfl (aF (ag hD15 rfl rfl rfl))))⟩
       ·
        refine⟨_,rfl,rfl,(ao rfl (aN hf rfl (aP rfl rfl qM rfl (lB (aS aJ l) u (by omega))) (aF (ag hD16 rfl rfl rfl))))⟩
      refine gZ (mQ (sl':=[(2,.sl 6 (m.map evC)),(7,.ref 7 0 0 0),(11,.adr (evC (bG u (aG aJ l).now))),(12,.ref 12 0 0 0),(13,.sl 1 (bH (aV (aG aJ l) ((bG u (aG aJ l).now)::m)))),(60,.s (.string u)),(61,.sl 6 ((aS aJ l).map evC))]) (m':=[(12,.box (aL (aG (aG aJ l) ((bG u (aG aJ l).now)::m)))),(7,.box (aL aJ))]) rfl rfl rfl) (aH 0 [3,8] (by kernel_rfl) ⟨?_,?_,?_,trivial⟩)
      ·
       refine⟨_,rfl,rfl,(ao rfl (aE aA 1 rfl (aF (ag hD17 rfl rfl rfl))))⟩
      ·
       refine⟨_,rfl,rfl,(ao rfl (aN hf rfl (aP rfl rfl qM rfl (lB (aS aJ l) u (by omega))) (aF (ag hD18 rfl rfl rfl))))⟩
      ·
       refine⟨_,rfl,rfl,(ao rfl (aZ hf rfl rfl rfl aX (aF (ag hD19 rfl rfl rfl))))⟩
     refine aK 1 #[true,true,true,true,true,true,true,true,true,true,true,true,false] ⟨107,[(1,.s (.string u)),(2,.sl 6 (m.map evC)),(7,.ref 7 0 0 0),(8,.sl 6 ((aS aJ l).map evC)),(11,.adr (evC (bG u (aG aJ l).now))),(12,.ref 12 0 0 0),(57,.sl 1 (bH (aV (aG aJ l) ((bG u (aG aJ l).now)::m))))],[(12,.box (aL (aG (aG aJ l) ((bG u (aG aJ l).now)::m)))),(7,.box (aL aJ))]⟩ ?_ (fun hD1=>?_)
     ·
      refine aH 12 [] (by kernel_rfl) ⟨?_,trivial⟩
      ·
       refine⟨_,rfl,rfl,(ao rfl (aE aA 1 rfl (aF (ag hD0 rfl rfl rfl))))⟩
     refine aK 2 #[true,true,true,true,true,true,true,true,true,true,true,false,false] ⟨107,[(1,.s (.string u)),(2,.sl 6 (m.map evC)),(7,.ref 7 0 0 0),(8,.sl 6 ((aS aJ l).map evC)),(11,.adr (evC (bG u (aG aJ l).now))),(12,.ref 12 0 0 0),(56,.agg (aL (aG (aG aJ l) ((bG u (aG aJ l).now)::m)))),(57,.sl 1 (bH (aV (aG aJ l) ((bG u (aG aJ l).now)::m))))],[(12,.box [.s (.int .i64 0),.s (.int .i64 0),.s (.slice none 0 0),.s (.slice none 0 0),.s (.slice none 0 0),.s (.slice none 0 0)]),(7,.box (aL aJ))]⟩ ?_ (fun hD2=>?_)
     ·
      refine aH 11 [] (by kernel_rfl) ⟨?_,trivial⟩
      ·
       refine⟨_,rfl,rfl,(ao rfl (bD hf rfl rfl bS rfl rfl (l1 rfl) (l4 rfl) rfl (aF (ag hD1 rfl rfl rfl))))⟩
     refine aK 2 #[true,true,true,true,true,true,true,true,true,false,true,true,false] ⟨107,[(1,.s (.string u)),(2,.sl 6 (m.map evC)),(7,.ref 7 0 0 0),(8,.sl 6 ((aS aJ l).map evC)),(11,.adr (evC (bG u (aG aJ l).now))),(12,.ref 12 0 0 0),(48,.tup [.agg (aL (aG (aG aJ l) ((bG u (aG aJ l).now)::m))),.sl 1 (bH (aV (aG aJ l) ((bG u (aG aJ l).now)::m)))])],[(12,.box (aL (aG (aG aJ l) ((bG u (aG aJ l).now)::m)))),(7,.box (aL aJ))]⟩ ?_ (fun hD3=>?_)
     ·
      refine aH 9 [] (by kernel_rfl) ⟨?_,trivial⟩
      ·
       refine⟨_,rfl,rfl,(ao rfl (aE aA 1 rfl (aF (ag hD1 rfl rfl rfl))))⟩
     refine aK 3 #[true,true,true,true,true,true,true,true,true,true,false,false,false] ⟨107,[(1,.s (.string u)),(2,.sl 6 (m.map evC)),(7,.ref 7 0 0 0),(8,.sl 6 ((aS aJ l).map evC)),(11,.adr (evC (bG u (aG aJ l).now))),(56,.agg (aL (aG (aG aJ l) ((bG u (aG aJ l).now)::m)))),(57,.sl 1 (bH (aV (aG aJ l) ((bG u (aG aJ l).now)::m))))],[(7,.box (aL aJ))]⟩ ?_ (fun hD4=>?_)
     ·
      refine aH 10 [] (by kernel_rfl) ⟨?_,trivial⟩
      ·
       refine⟨_,rfl,rfl,(ao rfl (aZ hf rfl rfl rfl aX (aF (ag hD2 rfl rfl rfl))))⟩
     refine aK 3 #[true,true,true,true,true,true,true,true,true,false,true,false,false] ⟨107,[(1,.s (.string u)),(2,.sl 6 (m.map evC)),(7,.ref 7 0 0 0),(8,.sl 6 ((aS aJ l).map evC)),(11,.adr (evC (bG u (aG aJ l).now))),(12,.ref 12 0 0 0),(48,.tup [.agg (aL (aG (aG aJ l) ((bG u (aG aJ l).now)::m))),.sl 1 (bH (aV (aG aJ l) ((bG u (aG aJ l).now)::m)))]),(56,.agg (aL (aG (aG aJ l) ((bG u (aG aJ l).now)::m))))],[(12,.box [.s (.int .i64 0),.s (.int .i64 0),.s (.slice none 0 0),.s (.slice none 0 0),.s (.slice none 0 0),.s (.slice none 0 0)]),(7,.box (aL aJ))]⟩ ?_ (fun hD5=>?_)
     ·
      refine aH 9 [11] (by kernel_rfl) ⟨?_,?_,trivial⟩
      ·
       refine⟨_,rfl,rfl,(ao rfl (aE aA 1 rfl (aF (ag hD2 rfl rfl rfl))))⟩
      ·
       refine⟨_,rfl,rfl,(ao rfl (bD hf rfl rfl bS rfl rfl (l1 rfl) (l4 rfl) rfl (aF (ag hD3 rfl rfl rfl))))⟩
     refine aK 3 #[true,true,true,true,true,true,true,true,false,true,true,false,false] ⟨107,[(1,.s (.string u)),(2,.sl 6 (m.map evC)),(7,.ref 7 0 0 0),(8,.sl 6 ((aS aJ l).map evC)),(11,.adr (evC (bG u (aG aJ l).now))),(12,.ref 12 0 0 0),(48,.tup [.agg (aL (aG (aG aJ l) ((bG u (aG aJ l).now)::m))),.sl 1 (bH (aV (aG aJ l) ((bG u (aG aJ l).now)::m)))]),(57,.sl 1 (bH (aV (aG aJ l) ((bG u (aG aJ l).now)::m))))],[(12,.box [.s (.int .i64 0),.s (.int .i64 0),.s (.slice none 0 0),.s (.slice none 0 0),.s (.slice none 0 0),.s (.slice none 0 0)]),(7,.box (aL aJ))]⟩ ?_ (fun hD6=>?_)
     ·
      refine aH 8 [] (by kernel_rfl) ⟨?_,trivial⟩
      ·
       refine⟨_,rfl,rfl,(ao rfl (aE aA 1 rfl (aF (ag hD2 rfl rfl rfl))))⟩
     refine aK 4 #[true,true,true,true,true,true,true,true,true,false,false,false,false] ⟨107,[(1,.s (.string u)),(2,.sl 6 (m.map evC)),(7,.ref 7 0 0 0),(8,.sl 6 ((aS aJ l).map evC)),(11,.adr (evC (bG u (aG aJ l).now))),(48,.tup [.agg (aL (aG (aG aJ l) ((bG u (aG aJ l).now)::m))),.sl 1 (bH (aV (aG aJ l) ((bG u (aG aJ l).now)::m)))]),(56,.agg (aL (aG (aG aJ l) ((bG u (aG aJ l).now)::m))))],[(7,.box (aL aJ))]⟩ ?_ (fun hD7=>?_)
     ·
      refine aH 9 [10] (by kernel_rfl) ⟨?_,?_,trivial⟩
      ·
       refine⟨_,rfl,rfl,(ao rfl (aE aA 1 rfl (aF (ag hD4 rfl rfl rfl))))⟩
      ·
       refine⟨_,rfl,rfl,(ao rfl (aZ hf rfl rfl rfl aX (aF (ag hD5 rfl rfl rfl))))⟩
     refine aK 4 #[true,true,true,true,true,true,true,true,false,true,false,false,false] ⟨107,[(1,.s (.string u)),(2,.sl 6 (m.map evC)),(7,.ref 7 0 0 0),(8,.sl 6 ((aS aJ l).map evC)),(11,.adr (evC (bG u (aG aJ l).now))),(48,.tup [.agg (aL (aG (aG aJ l) ((bG u (aG aJ l).now)::m))),.sl 1 (bH (aV (aG aJ l) ((bG u (aG aJ l).now)::m)))]),(57,.sl 1 (bH (aV (aG aJ l) ((bG u (aG aJ l).now)::m))))],[(7,.box (aL aJ))]⟩ ?_ (fun hD8=>?_)
     ·
      refine aH 8 [10] (by kernel_rfl) ⟨?_,?_,trivial⟩
      ·
       refine⟨_,rfl,rfl,(ao rfl (aE aA 1 rfl (aF (ag hD4 rfl rfl rfl))))⟩
      ·
       refine⟨_,rfl,rfl,(ao rfl (aZ hf rfl rfl rfl aX (aF (ag hD6 rfl rfl rfl))))⟩
     refine aK 4 #[true,true,true,true,true,true,true,true,false,false,true,false,false] ⟨107,[(1,.s (.string u)),(2,.sl 6 (m.map evC)),(7,.ref 7 0 0 0),(8,.sl 6 ((aS aJ l).map evC)),(11,.adr (evC (bG u (aG aJ l).now))),(12,.ref 12 0 0 0),(48,.tup [.agg (aL (aG (aG aJ l) ((bG u (aG aJ l).now)::m))),.sl 1 (bH (aV (aG aJ l) ((bG u (aG aJ l).now)::m)))])],[(12,.box [.s (.int .i64 0),.s (.int .i64 0),.s (.slice none 0 0),.s (.slice none 0 0),.s (.slice none 0 0),.s (.slice none 0 0)]),(7,.box (aL aJ))]⟩ ?_ (fun hD9=>?_)
     ·
      refine aH 8 [9] (by kernel_rfl) ⟨?_,?_,trivial⟩
      ·
       refine⟨_,rfl,rfl,(ao rfl (aE aA 1 rfl (aF (ag hD5 rfl rfl rfl))))⟩
      ·
       refine⟨_,rfl,rfl,(ao rfl (aE aA 1 rfl (aF (ag hD6 rfl rfl rfl))))⟩
     refine aK 5 #[true,true,true,true,true,true,true,true,false,false,false,false,false] ⟨107,[(1,.s (.string u)),(2,.sl 6 (m.map evC)),(7,.ref 7 0 0 0),(8,.sl 6 ((aS aJ l).map evC)),(11,.adr (evC (bG u (aG aJ l).now))),(48,.tup [.agg (aL (aG (aG aJ l) ((bG u (aG aJ l).now)::m))),.sl 1 (bH (aV (aG aJ l) ((bG u (aG aJ l).now)::m)))])],[(7,.box (aL aJ))]⟩ ?_ (fun hD10=>?_)
     ·
      refine aH 8 [9,10] (by kernel_rfl) ⟨?_,?_,?_,trivial⟩
      ·
       refine⟨_,rfl,rfl,(ao rfl (aE aA 1 rfl (aF (ag hD7 rfl rfl rfl))))⟩
      ·
       refine⟨_,rfl,rfl,(ao rfl (aE aA 1 rfl (aF (ag hD8 rfl rfl rfl))))⟩
      ·
       refine⟨_,rfl,rfl,(ao rfl (aZ hf rfl rfl rfl aX (aF (ag hD9 rfl rfl rfl))))⟩
     refine aK 5 #[true,true,true,true,true,true,true,false,false,false,true,false,false] ⟨107,[(1,.s (.string u)),(2,.sl 6 (m.map evC)),(7,.ref 7 0 0 0),(8,.sl 6 ((aS aJ l).map evC)),(11,.adr (evC (bG u (aG aJ l).now))),(12,.ref 12 0 0 0),(55,.tup [.agg (aL (aG (aG aJ l) ((bG u (aG aJ l).now)::m))),.sl 1 (bH (aV (aG aJ l) ((bG u (aG aJ l).now)::m)))])],[(12,.box [.s (.int .i64 0),.s (.int .i64 0),.s (.slice none 0 0),.s (.slice none 0 0),.s (.slice none 0 0),.s (.slice none 0 0)]),(7,.box (aL aJ))]⟩ ?_ (fun hD11=>?_)
     ·
      refine aH 7 [] (by kernel_rfl) ⟨?_,trivial⟩
      ·
       refine⟨_,rfl,rfl,(ao rfl (aE aA 1 rfl (aF (ag hD9 rfl rfl rfl))))⟩
     refine aK 6 #[true,true,true,true,true,true,true,false,false,false,false,false,false] ⟨107,[(1,.s (.string u)),(2,.sl 6 (m.map evC)),(7,.ref 7 0 0 0),(8,.sl 6 ((aS aJ l).map evC)),(11,.adr (evC (bG u (aG aJ l).now))),(55,.tup [.agg (aL (aG (aG aJ l) ((bG u (aG aJ l).now)::m))),.sl 1 (bH (aV (aG aJ l) ((bG u (aG aJ l).now)::m)))])],[(7,.box (aL aJ))]⟩ ?_ (fun hD12=>?_)
     ·
      refine aH 7 [10] (by kernel_rfl) ⟨?_,?_,trivial⟩
      ·
       refine⟨_,rfl,rfl,(ao rfl (aE aA 1 rfl (aF (ag hD10 rfl rfl rfl))))⟩
      ·
       refine⟨_,rfl,rfl,(ao rfl (aZ hf rfl rfl rfl aX (aF (ag hD11 rfl rfl rfl))))⟩
     refine aK 6 #[true,true,true,true,true,true,false,false,false,false,true,false,false] ⟨107,[(1,.s (.string u)),(2,.sl 6 (m.map evC)),(7,.ref 7 0 0 0),(8,.sl 6 ((aS aJ l).map evC)),(11,.adr (evC (bG u (aG aJ l).now))),(12,.ref 12 0 0 0),(49,.agg (aL (aG aJ l))),(54,.own 51 6 0 (1+(m.map evC).length))],[(12,.box [.s (.int .i64 0),.s (.int .i64 0),.s (.slice none 0 0),.s (.slice none 0 0),.s (.slice none 0 0),.s (.slice none 0 0)]),(51,.buf 6 (evC (bG u (aG aJ l).now)::m.map evC)),(7,.box (aL aJ))]⟩ ?_ (fun hD13=>?_)
     ·
      refine aH 6 [] (by kernel_rfl) ⟨?_,trivial⟩
      ·
       refine⟨_,rfl,rfl,(ao rfl ?_)⟩
       refine cB (jC (nee 51) (sl':=[(1,_),(2,_),(7,_),(8,_),(11,_),(49,_),(12,_),(54,.sl 6 (((bG u (aG aJ l).now)::m).map evC))]) (m':=[(12,.box [.s (.int .i64 0),.s (.int .i64 0),.s (.slice none 0 0),.s (.slice none 0 0),.s (.slice none 0 0),.s (.slice none 0 0)]),(7,.box (aL aJ))]) ⟨⟨_,rfl,rfl⟩,⟨_,rfl,rfl⟩,⟨_,rfl,rfl⟩,⟨_,rfl,rfl⟩,⟨_,rfl,rfl⟩,⟨_,rfl,rfl⟩,⟨_,rfl,rfl⟩,⟨_,rfl,pT (ok:=nee 51) (g:=51) rfl rfl (by simp only[List.map_cons,List.length_cons,List.length_map]; omega)⟩,trivial⟩ rfl) ?_
       refine aN hf rfl (aP rfl rfl fC rfl (iB (aG aJ l) ((bG u (aG aJ l).now)::m) hzF2 hRF hlE htE)) (aF (ag hD11 rfl rfl rfl))
     refine aK 7 #[true,true,true,true,true,true,false,false,false,false,false,false,false] ⟨107,[(1,.s (.string u)),(2,.sl 6 (m.map evC)),(7,.ref 7 0 0 0),(8,.sl 6 ((aS aJ l).map evC)),(11,.adr (evC (bG u (aG aJ l).now))),(49,.agg (aL (aG aJ l))),(54,.own 51 6 0 (1+(m.map evC).length))],[(51,.buf 6 (evC (bG u (aG aJ l).now)::m.map evC)),(7,.box (aL aJ))]⟩ ?_ (fun hD14=>?_)
     ·
      refine aH 6 [10] (by kernel_rfl) ⟨?_,?_,trivial⟩
      ·
       refine⟨_,rfl,rfl,(ao rfl ?_)⟩
       refine cB (jC (nee 51) (sl':=[(1,_),(2,_),(7,_),(8,_),(11,_),(49,_),(54,.sl 6 (((bG u (aG aJ l).now)::m).map evC))]) (m':=[(7,.box (aL aJ))]) ⟨⟨_,rfl,rfl⟩,⟨_,rfl,rfl⟩,⟨_,rfl,rfl⟩,⟨_,rfl,rfl⟩,⟨_,rfl,rfl⟩,⟨_,rfl,rfl⟩,⟨_,rfl,pT (ok:=nee 51) (g:=51) rfl rfl (by simp only[List.map_cons,List.length_cons,List.length_map]; omega)⟩,trivial⟩ rfl) ?_
       refine aN hf rfl (aP rfl rfl fC rfl (iB (aG aJ l) ((bG u (aG aJ l).now)::m) hzF2 hRF hlE htE)) (aF (ag hD12 rfl rfl rfl))
      ·
       refine⟨_,rfl,rfl,(ao rfl (aZ hf rfl rfl rfl aX (aF (ag hD13 rfl rfl rfl))))⟩
     refine aK 7 #[true,true,true,true,true,false,false,false,false,false,true,false,false] ⟨107,[(1,.s (.string u)),(2,.sl 6 (m.map evC)),(7,.ref 7 0 0 0),(8,.sl 6 ((aS aJ l).map evC)),(11,.adr (evC (bG u (aG aJ l).now))),(12,.ref 12 0 0 0),(49,.agg (aL (aG aJ l))),(51,.own 51 6 0 1),(53,.sl 6 (m.map evC))],[(12,.box [.s (.int .i64 0),.s (.int .i64 0),.s (.slice none 0 0),.s (.slice none 0 0),.s (.slice none 0 0),.s (.slice none 0 0)]),(51,.buf 6 [evC (bG u (aG aJ l).now)]),(7,.box (aL aJ))]⟩ ?_ (fun hD15=>?_)
     ·
      refine aH 5 [] (by kernel_rfl) ⟨?_,trivial⟩
      ·
       refine⟨_,rfl,rfl,(ao rfl (dQ hf rfl cW rfl rfl rfl (by first | exact Or.inl rfl | exact Or.inr rfl) (by first | rfl | simp) rfl (by first | rfl | simp [iS,bU]) (by first | (simp only[maxLen,List.length_map,List.length_append,List.length_cons,List.length_nil]; omega) | (simp [maxLen] <;> omega)) (by first | (simp only[List.length_map,List.length_append,List.length_cons,List.length_nil]; omega) | (simp <;> omega)) ?_))⟩
       refine cB (iK [1,2,7,8,11,12,49,54] rfl) (aF (ag hD13 rfl rfl rfl))
     refine aK 7 #[false,true,true,true,true,true,false,false,false,false,true,false,false] ⟨107,[(1,.s (.string u)),(2,.sl 6 (m.map evC)),(7,.ref 7 0 0 0),(8,.sl 6 ((aS aJ l).map evC)),(9,.adr (aL (aG aJ l))),(11,.adr (evC (bG u (aG aJ l).now))),(12,.ref 12 0 0 0),(54,.own 51 6 0 (1+(m.map evC).length))],[(12,.box [.s (.int .i64 0),.s (.int .i64 0),.s (.slice none 0 0),.s (.slice none 0 0),.s (.slice none 0 0),.s (.slice none 0 0)]),(51,.buf 6 (evC (bG u (aG aJ l).now)::m.map evC)),(7,.box (aL aJ))]⟩ ?_ (fun hD16=>?_)
     ·
      refine aH 0 [] (by kernel_rfl) ⟨?_,trivial⟩
      ·
       refine⟨_,rfl,rfl,(ao rfl (aE aA 1 rfl (aF (ag hD13 rfl rfl rfl))))⟩
     refine aK 8 #[true,true,true,true,true,false,false,false,false,false,false,false,false] ⟨107,[(1,.s (.string u)),(2,.sl 6 (m.map evC)),(7,.ref 7 0 0 0),(8,.sl 6 ((aS aJ l).map evC)),(11,.adr (evC (bG u (aG aJ l).now))),(49,.agg (aL (aG aJ l))),(51,.own 51 6 0 1),(53,.sl 6 (m.map evC))],[(51,.buf 6 [evC (bG u (aG aJ l).now)]),(7,.box (aL aJ))]⟩ ?_ (fun hD17=>?_)
     ·
      refine aH 5 [10] (by kernel_rfl) ⟨?_,?_,trivial⟩
      ·
       refine⟨_,rfl,rfl,(ao rfl (dQ hf rfl cW rfl rfl rfl (by first | exact Or.inl rfl | exact Or.inr rfl) (by first | rfl | simp) rfl (by first | rfl | simp [iS,bU]) (by first | (simp only[maxLen,List.length_map,List.length_append,List.length_cons,List.length_nil]; omega) | (simp [maxLen] <;> omega)) (by first | (simp only[List.length_map,List.length_append,List.length_cons,List.length_nil]; omega) | (simp <;> omega)) ?_))⟩
       refine cB (iK [1,2,7,8,11,49,54] rfl) (aF (ag hD14 rfl rfl rfl))
      ·
       refine⟨_,rfl,rfl,(ao rfl (aZ hf rfl rfl rfl aX (aF (ag hD15 rfl rfl rfl))))⟩
     refine aK 8 #[true,true,true,true,false,false,false,false,false,false,true,false,false] ⟨107,[(1,.s (.string u)),(2,.sl 6 (m.map evC)),(7,.ref 7 0 0 0),(8,.sl 6 ((aS aJ l).map evC)),(11,.adr (evC (bG u (aG aJ l).now))),(12,.ref 12 0 0 0),(49,.agg (aL (aG aJ l))),(51,.own 51 6 0 1),(52,.sl 6 (m.map evC))],[(12,.box [.s (.int .i64 0),.s (.int .i64 0),.s (.slice none 0 0),.s (.slice none 0 0),.s (.slice none 0 0),.s (.slice none 0 0)]),(51,.buf 6 [evC (bG u (aG aJ l).now)]),(7,.box (aL aJ))]⟩ ?_ (fun hD18=>?_)
     ·
      refine aH 4 [] (by kernel_rfl) ⟨?_,trivial⟩
      ·
       refine⟨_,rfl,rfl,(ao rfl (aN hf rfl (aP rfl rfl cO rfl (dA m (by omega))) (aF (ag hD15 rfl rfl rfl))))⟩
     refine aK 8 #[true,true,false,true,true,false,false,false,false,false,true,false,false] ⟨107,[(1,.s (.string u)),(2,.sl 6 (m.map evC)),(7,.ref 7 0 0 0),(8,.sl 6 ((aS aJ l).map evC)),(11,.adr (evC (bG u (aG aJ l).now))),(12,.ref 12 0 0 0),(49,.agg (aL (aG aJ l))),(50,.agg (evC (bG u (aG aJ l).now))),(53,.sl 6 (m.map evC))],[(12,.box [.s (.int .i64 0),.s (.int .i64 0),.s (.slice none 0 0),.s (.slice none 0 0),.s (.slice none 0 0),.s (.slice none 0 0)]),(7,.box (aL aJ))]⟩ ?_ (fun hD19=>?_)
     ·
      refine aH 2 [] (by kernel_rfl) ⟨?_,trivial⟩
      ·
       refine⟨_,rfl,rfl,(ao rfl (cR hf rfl rfl rfl cW rfl rfl rfl rfl (l2 rfl) ?_))⟩
       refine aF (ag hD15 rfl rfl rfl)
     refine aK 8 #[false,true,true,true,true,true,false,false,false,false,false,false,false] ⟨107,[(1,.s (.string u)),(2,.sl 6 (m.map evC)),(7,.ref 7 0 0 0),(8,.sl 6 ((aS aJ l).map evC)),(9,.adr (aL (aG aJ l))),(11,.adr (evC (bG u (aG aJ l).now))),(54,.own 51 6 0 (1+(m.map evC).length))],[(51,.buf 6 (evC (bG u (aG aJ l).now)::m.map evC)),(7,.box (aL aJ))]⟩ ?_ (fun hD20=>?_)
     ·
      refine aH 0 [10] (by kernel_rfl) ⟨?_,?_,trivial⟩
      ·
       refine⟨_,rfl,rfl,(ao rfl (aE aA 1 rfl (aF (ag hD14 rfl rfl rfl))))⟩
      ·
       refine⟨_,rfl,rfl,(ao rfl (aZ hf rfl rfl rfl aX (aF (ag hD16 rfl rfl rfl))))⟩
     refine aK 8 #[false,true,true,true,true,false,false,false,false,false,true,false,false] ⟨107,[(1,.s (.string u)),(2,.sl 6 (m.map evC)),(7,.ref 7 0 0 0),(8,.sl 6 ((aS aJ l).map evC)),(9,.adr (aL (aG aJ l))),(11,.adr (evC (bG u (aG aJ l).now))),(12,.ref 12 0 0 0),(51,.own 51 6 0 1),(53,.sl 6 (m.map evC))],[(12,.box [.s (.int .i64 0),.s (.int .i64 0),.s (.slice none 0 0),.s (.slice none 0 0),.s (.slice none 0 0),.s (.slice none 0 0)]),(51,.buf 6 [evC (bG u (aG aJ l).now)]),(7,.box (aL aJ))]⟩ ?_ (fun hD21=>?_)
     ·
      refine aH 0 [5] (by kernel_rfl) ⟨?_,?_,trivial⟩
      ·
       refine⟨_,rfl,rfl,(ao rfl (aE aA 1 rfl (aF (ag hD15 rfl rfl rfl))))⟩
      ·
       refine⟨_,rfl,rfl,(ao rfl (dQ hf rfl cW rfl rfl rfl (by first | exact Or.inl rfl | exact Or.inr rfl) (by first | rfl | simp) rfl (by first | rfl | simp [iS,bU]) (by first | (simp only[maxLen,List.length_map,List.length_append,List.length_cons,List.length_nil]; omega) | (simp [maxLen] <;> omega)) (by first | (simp only[List.length_map,List.length_append,List.length_cons,List.length_nil]; omega) | (simp <;> omega)) ?_))⟩
       refine cB (iK [1,2,7,8,9,11,12,54] rfl) (aF (ag hD16 rfl rfl rfl))
     refine aK 9 #[true,true,true,true,false,false,false,false,false,false,false,false,false] ⟨107,[(1,.s (.string u)),(2,.sl 6 (m.map evC)),(7,.ref 7 0 0 0),(8,.sl 6 ((aS aJ l).map evC)),(11,.adr (evC (bG u (aG aJ l).now))),(49,.agg (aL (aG aJ l))),(51,.own 51 6 0 1),(52,.sl 6 (m.map evC))],[(51,.buf 6 [evC (bG u (aG aJ l).now)]),(7,.box (aL aJ))]⟩ ?_ (fun hD22=>?_)
     ·
      refine aH 4 [10] (by kernel_rfl) ⟨?_,?_,trivial⟩
      ·
       refine⟨_,rfl,rfl,(ao rfl (aN hf rfl (aP rfl rfl cO rfl (dA m (by omega))) (aF (ag hD17 rfl rfl rfl))))⟩
      ·
       refine⟨_,rfl,rfl,(ao rfl (aZ hf rfl rfl rfl aX (aF (ag hD18 rfl rfl rfl))))⟩
     refine aK 9 #[true,true,false,true,true,false,false,false,false,false,false,false,false] ⟨107,[(1,.s (.string u)),(2,.sl 6 (m.map evC)),(7,.ref 7 0 0 0),(8,.sl 6 ((aS aJ l).map evC)),(11,.adr (evC (bG u (aG aJ l).now))),(49,.agg (aL (aG aJ l))),(50,.agg (evC (bG u (aG aJ l).now))),(53,.sl 6 (m.map evC))],[(7,.box (aL aJ))]⟩ ?_ (fun hD23=>?_)
     ·
      refine aH 2 [10] (by kernel_rfl) ⟨?_,?_,trivial⟩
      ·
       refine⟨_,rfl,rfl,(ao rfl (cR hf rfl rfl rfl cW rfl rfl rfl rfl (l2 rfl) ?_))⟩
       refine aF (ag hD17 rfl rfl rfl)
      ·
       refine⟨_,rfl,rfl,(ao rfl (aZ hf rfl rfl rfl aX (aF (ag hD19 rfl rfl rfl))))⟩
     refine aK 9 #[true,true,false,true,false,false,false,false,false,false,true,false,false] ⟨107,[(1,.s (.string u)),(2,.sl 6 (m.map evC)),(7,.ref 7 0 0 0),(8,.sl 6 ((aS aJ l).map evC)),(11,.adr (evC (bG u (aG aJ l).now))),(12,.ref 12 0 0 0),(49,.agg (aL (aG aJ l))),(50,.agg (evC (bG u (aG aJ l).now))),(52,.sl 6 (m.map evC))],[(12,.box [.s (.int .i64 0),.s (.int .i64 0),.s (.slice none 0 0),.s (.slice none 0 0),.s (.slice none 0 0),.s (.slice none 0 0)]),(7,.box (aL aJ))]⟩ ?_ (fun hD24=>?_)
     ·
      refine aH 2 [4] (by kernel_rfl) ⟨?_,?_,trivial⟩
      ·
       refine⟨_,rfl,rfl,(ao rfl (cR hf rfl rfl rfl cW rfl rfl rfl rfl (l2 rfl) ?_))⟩
       refine aF (ag hD18 rfl rfl rfl)
      ·
       refine⟨_,rfl,rfl,(ao rfl (aN hf rfl (aP rfl rfl cO rfl (dA m (by omega))) (aF (ag hD19 rfl rfl rfl))))⟩
     refine aK 9 #[true,false,false,true,true,false,false,false,false,false,true,false,false] ⟨107,[(1,.s (.string u)),(2,.sl 6 (m.map evC)),(7,.ref 7 0 0 0),(8,.sl 6 ((aS aJ l).map evC)),(11,.adr (evC (bG u (aG aJ l).now))),(12,.ref 12 0 0 0),(49,.agg (aL (aG aJ l))),(53,.sl 6 (m.map evC))],[(12,.box [.s (.int .i64 0),.s (.int .i64 0),.s (.slice none 0 0),.s (.slice none 0 0),.s (.slice none 0 0),.s (.slice none 0 0)]),(7,.box (aL aJ))]⟩ ?_ (fun hD25=>?_)
     ·
      refine aH 1 [] (by kernel_rfl) ⟨?_,trivial⟩
      ·
       refine⟨_,rfl,rfl,(ao rfl (aE aA 1 rfl (aF (ag hD19 rfl rfl rfl))))⟩
     refine aK 9 #[false,true,true,true,true,false,false,false,false,false,false,false,false] ⟨107,[(1,.s (.string u)),(2,.sl 6 (m.map evC)),(7,.ref 7 0 0 0),(8,.sl 6 ((aS aJ l).map evC)),(9,.adr (aL (aG aJ l))),(11,.adr (evC (bG u (aG aJ l).now))),(51,.own 51 6 0 1),(53,.sl 6 (m.map evC))],[(51,.buf 6 [evC (bG u (aG aJ l).now)]),(7,.box (aL aJ))]⟩ ?_ (fun hD26=>?_)
     ·
      refine aH 0 [5,10] (by kernel_rfl) ⟨?_,?_,?_,trivial⟩
      ·
       refine⟨_,rfl,rfl,(ao rfl (aE aA 1 rfl (aF (ag hD17 rfl rfl rfl))))⟩
      ·
       refine⟨_,rfl,rfl,(ao rfl (dQ hf rfl cW rfl rfl rfl (by first | exact Or.inl rfl | exact Or.inr rfl) (by first | rfl | simp) rfl (by first | rfl | simp [iS,bU]) (by first | (simp only[maxLen,List.length_map,List.length_append,List.length_cons,List.length_nil]; omega) | (simp [maxLen] <;> omega)) (by first | (simp only[List.length_map,List.length_append,List.length_cons,List.length_nil]; omega) | (simp <;> omega)) ?_))⟩
       refine cB (iK [1,2,7,8,9,11,54] rfl) (aF (ag hD20 rfl rfl rfl))
      ·
       refine⟨_,rfl,rfl,(ao rfl (aZ hf rfl rfl rfl aX (aF (ag hD21 rfl rfl rfl))))⟩
     refine aK 9 #[false,true,true,true,false,false,false,false,false,false,true,false,false] ⟨107,[(1,.s (.string u)),(2,.sl 6 (m.map evC)),(7,.ref 7 0 0 0),(8,.sl 6 ((aS aJ l).map evC)),(9,.adr (aL (aG aJ l))),(11,.adr (evC (bG u (aG aJ l).now))),(12,.ref 12 0 0 0),(51,.own 51 6 0 1),(52,.sl 6 (m.map evC))],[(12,.box [.s (.int .i64 0),.s (.int .i64 0),.s (.slice none 0 0),.s (.slice none 0 0),.s (.slice none 0 0),.s (.slice none 0 0)]),(51,.buf 6 [evC (bG u (aG aJ l).now)]),(7,.box (aL aJ))]⟩ ?_ (fun hD27=>?_)
     ·
      refine aH 0 [4] (by kernel_rfl) ⟨?_,?_,trivial⟩
      ·
       refine⟨_,rfl,rfl,(ao rfl (aE aA 1 rfl (aF (ag hD18 rfl rfl rfl))))⟩
      ·
       refine⟨_,rfl,rfl,(ao rfl (aN hf rfl (aP rfl rfl cO rfl (dA m (by omega))) (aF (ag hD21 rfl rfl rfl))))⟩
     refine aK 9 #[false,true,false,true,true,false,false,false,false,false,true,false,false] ⟨107,[(1,.s (.string u)),(2,.sl 6 (m.map evC)),(7,.ref 7 0 0 0),(8,.sl 6 ((aS aJ l).map evC)),(9,.adr (aL (aG aJ l))),(11,.adr (evC (bG u (aG aJ l).now))),(12,.ref 12 0 0 0),(50,.agg (evC (bG u (aG aJ l).now))),(53,.sl 6 (m.map evC))],[(12,.box [.s (.int .i64 0),.s (.int .i64 0),.s (.slice none 0 0),.s (.slice none 0 0),.s (.slice none 0 0),.s (.slice none 0 0)]),(7,.box (aL aJ))]⟩ ?_ (fun hD28=>?_)
     ·
      refine aH 0 [2] (by kernel_rfl) ⟨?_,?_,trivial⟩
      ·
       refine⟨_,rfl,rfl,(ao rfl (aE aA 1 rfl (aF (ag hD19 rfl rfl rfl))))⟩
      ·
       refine⟨_,rfl,rfl,(ao rfl (cR hf rfl rfl rfl cW rfl rfl rfl rfl (l2 rfl) ?_))⟩
       refine aF (ag hD21 rfl rfl rfl)
     refine aK 10 #[true,true,false,true,false,false,false,false,false,false,false,false,false] ⟨107,[(1,.s (.string u)),(2,.sl 6 (m.map evC)),(7,.ref 7 0 0 0),(8,.sl 6 ((aS aJ l).map evC)),(11,.adr (evC (bG u (aG aJ l).now))),(49,.agg (aL (aG aJ l))),(50,.agg (evC (bG u (aG aJ l).now))),(52,.sl 6 (m.map evC))],[(7,.box (aL aJ))]⟩ ?_ (fun hD29=>?_)
     ·
      refine aH 2 [4,10] (by kernel_rfl) ⟨?_,?_,?_,trivial⟩
      ·
       refine⟨_,rfl,rfl,(ao rfl (cR hf rfl rfl rfl cW rfl rfl rfl rfl (l2 rfl) ?_))⟩
       refine aF (ag hD22 rfl rfl rfl)
      ·
       refine⟨_,rfl,rfl,(ao rfl (aN hf rfl (aP rfl rfl cO rfl (dA m (by omega))) (aF (ag hD23 rfl rfl rfl))))⟩
      ·
       refine⟨_,rfl,rfl,(ao rfl (aZ hf rfl rfl rfl aX (aF (ag hD24 rfl rfl rfl))))⟩
     refine aK 10 #[true,false,false,true,true,false,false,false,false,false,false,false,false] ⟨107,[(1,.s (.string u)),(2,.sl 6 (m.map evC)),(7,.ref 7 0 0 0),(8,.sl 6 ((aS aJ l).map evC)),(11,.adr (evC (bG u (aG aJ l).now))),(49,.agg (aL (aG aJ l))),(53,.sl 6 (m.map evC))],[(7,.box (aL aJ))]⟩ ?_ (fun hD30=>?_)
     ·
      refine aH 1 [10] (by kernel_rfl) ⟨?_,?_,trivial⟩
      ·
       refine⟨_,rfl,rfl,(ao rfl (aE aA 1 rfl (aF (ag hD23 rfl rfl rfl))))⟩
      ·
       refine⟨_,rfl,rfl,(ao rfl (aZ hf rfl rfl rfl aX (aF (ag hD25 rfl rfl rfl))))⟩
     refine aK 10 #[true,false,false,true,false,false,false,false,false,false,true,false,false] ⟨107,[(1,.s (.string u)),(2,.sl 6 (m.map evC)),(7,.ref 7 0 0 0),(8,.sl 6 ((aS aJ l).map evC)),(11,.adr (evC (bG u (aG aJ l).now))),(12,.ref 12 0 0 0),(49,.agg (aL (aG aJ l))),(52,.sl 6 (m.map evC))],[(12,.box [.s (.int .i64 0),.s (.int .i64 0),.s (.slice none 0 0),.s (.slice none 0 0),.s (.slice none 0 0),.s (.slice none 0 0)]),(7,.box (aL aJ))]⟩ ?_ (fun hD31=>?_)
     ·
      refine aH 1 [4] (by kernel_rfl) ⟨?_,?_,trivial⟩
      ·
       refine⟨_,rfl,rfl,(ao rfl (aE aA 1 rfl (aF (ag hD24 rfl rfl rfl))))⟩
      ·
       refine⟨_,rfl,rfl,(ao rfl (aN hf rfl (aP rfl rfl cO rfl (dA m (by omega))) (aF (ag hD25 rfl rfl rfl))))⟩
     refine aK 10 #[false,true,true,true,false,false,false,false,false,false,false,false,false] ⟨107,[(1,.s (.string u)),(2,.sl 6 (m.map evC)),(7,.ref 7 0 0 0),(8,.sl 6 ((aS aJ l).map evC)),(9,.adr (aL (aG aJ l))),(11,.adr (evC (bG u (aG aJ l).now))),(51,.own 51 6 0 1),(52,.sl 6 (m.map evC))],[(51,.buf 6 [evC (bG u (aG aJ l).now)]),(7,.box (aL aJ))]⟩ ?_ (fun hD32=>?_)
     ·
      refine aH 0 [4,10] (by kernel_rfl) ⟨?_,?_,?_,trivial⟩
      ·
       refine⟨_,rfl,rfl,(ao rfl (aE aA 1 rfl (aF (ag hD22 rfl rfl rfl))))⟩
      ·
       refine⟨_,rfl,rfl,(ao rfl (aN hf rfl (aP rfl rfl cO rfl (dA m (by omega))) (aF (ag hD26 rfl rfl rfl))))⟩
      ·
       refine⟨_,rfl,rfl,(ao rfl (aZ hf rfl rfl rfl aX (aF (ag hD27 rfl rfl rfl))))⟩
     refine aK 10 #[false,true,false,true,true,false,false,false,false,false,false,false,false] ⟨107,[(1,.s (.string u)),(2,.sl 6 (m.map evC)),(7,.ref 7 0 0 0),(8,.sl 6 ((aS aJ l).map evC)),(9,.adr (aL (aG aJ l))),(11,.adr (evC (bG u (aG aJ l).now))),(50,.agg (evC (bG u (aG aJ l).now))),(53,.sl 6 (m.map evC))],[(7,.box (aL aJ))]⟩ ?_ (fun hD33=>?_)
     ·
      refine aH 0 [2,10] (by kernel_rfl) ⟨?_,?_,?_,trivial⟩
      ·
       refine⟨_,rfl,rfl,(ao rfl (aE aA 1 rfl (aF (ag hD23 rfl rfl rfl))))⟩
      ·
       refine⟨_,rfl,rfl,(ao rfl (cR hf rfl rfl rfl cW rfl rfl rfl rfl (l2 rfl) ?_))⟩
       refine aF (ag hD26 rfl rfl rfl)
      ·
       refine⟨_,rfl,rfl,(ao rfl (aZ hf rfl rfl rfl aX (aF (ag hD28 rfl rfl rfl))))⟩
     refine aK 10 #[false,true,false,true,false,false,false,false,false,false,true,false,false] ⟨107,[(1,.s (.string u)),(2,.sl 6 (m.map evC)),(7,.ref 7 0 0 0),(8,.sl 6 ((aS aJ l).map evC)),(9,.adr (aL (aG aJ l))),(11,.adr (evC (bG u (aG aJ l).now))),(12,.ref 12 0 0 0),(50,.agg (evC (bG u (aG aJ l).now))),(52,.sl 6 (m.map evC))],[(12,.box [.s (.int .i64 0),.s (.int .i64 0),.s (.slice none 0 0),.s (.slice none 0 0),.s (.slice none 0 0),.s (.slice none 0 0)]),(7,.box (aL aJ))]⟩ ?_ (fun hD34=>?_)
     ·
      refine aH 0 [2,4] (by kernel_rfl) ⟨?_,?_,?_,trivial⟩
      ·
       refine⟨_,rfl,rfl,(ao rfl (aE aA 1 rfl (aF (ag hD24 rfl rfl rfl))))⟩
      ·
       refine⟨_,rfl,rfl,(ao rfl (cR hf rfl rfl rfl cW rfl rfl rfl rfl (l2 rfl) ?_))⟩
       refine aF (ag hD27 rfl rfl rfl)
      ·
       refine⟨_,rfl,rfl,(ao rfl (aN hf rfl (aP rfl rfl cO rfl (dA m (by omega))) (aF (ag hD28 rfl rfl rfl))))⟩
     refine aK 10 #[false,false,false,true,true,false,false,false,false,false,true,false,false] ⟨107,[(1,.s (.string u)),(2,.sl 6 (m.map evC)),(7,.ref 7 0 0 0),(8,.sl 6 ((aS aJ l).map evC)),(9,.adr (aL (aG aJ l))),(11,.adr (evC (bG u (aG aJ l).now))),(12,.ref 12 0 0 0),(53,.sl 6 (m.map evC))],[(12,.box [.s (.int .i64 0),.s (.int .i64 0),.s (.slice none 0 0),.s (.slice none 0 0),.s (.slice none 0 0),.s (.slice none 0 0)]),(7,.box (aL aJ))]⟩ ?_ (fun hD35=>?_)
     ·
      refine aH 0 [1] (by kernel_rfl) ⟨?_,?_,trivial⟩
      ·
       refine⟨_,rfl,rfl,(ao rfl (aE aA 1 rfl (aF (ag hD25 rfl rfl rfl))))⟩
      ·
       refine⟨_,rfl,rfl,(ao rfl (aE aA 1 rfl (aF (ag hD28 rfl rfl rfl))))⟩
     refine aK 11 #[true,false,false,true,false,false,false,false,false,false,false,false,false] ⟨107,[(1,.s (.string u)),(2,.sl 6 (m.map evC)),(7,.ref 7 0 0 0),(8,.sl 6 ((aS aJ l).map evC)),(11,.adr (evC (bG u (aG aJ l).now))),(49,.agg (aL (aG aJ l))),(52,.sl 6 (m.map evC))],[(7,.box (aL aJ))]⟩ ?_ (fun hD36=>?_)
     ·
      refine aH 1 [4,10] (by kernel_rfl) ⟨?_,?_,?_,trivial⟩
      ·
       refine⟨_,rfl,rfl,(ao rfl (aE aA 1 rfl (aF (ag hD29 rfl rfl rfl))))⟩
      ·
       refine⟨_,rfl,rfl,(ao rfl (aN hf rfl (aP rfl rfl cO rfl (dA m (by omega))) (aF (ag hD30 rfl rfl rfl))))⟩
      ·
       refine⟨_,rfl,rfl,(ao rfl (aZ hf rfl rfl rfl aX (aF (ag hD31 rfl rfl rfl))))⟩
     refine aK 11 #[false,true,false,true,false,false,false,false,false,false,false,false,false] ⟨107,[(1,.s (.string u)),(2,.sl 6 (m.map evC)),(7,.ref 7 0 0 0),(8,.sl 6 ((aS aJ l).map evC)),(9,.adr (aL (aG aJ l))),(11,.adr (evC (bG u (aG aJ l).now))),(50,.agg (evC (bG u (aG aJ l).now))),(52,.sl 6 (m.map evC))],[(7,.box (aL aJ))]⟩ ?_ (fun hD37=>?_)
     ·
      refine aH 0 [2,4,10] (by kernel_rfl) ⟨?_,?_,?_,?_,trivial⟩
      ·
       refine⟨_,rfl,rfl,(ao rfl (aE aA 1 rfl (aF (ag hD29 rfl rfl rfl))))⟩
      ·
       refine⟨_,rfl,rfl,(ao rfl (cR hf rfl rfl rfl cW rfl rfl rfl rfl (l2 rfl) ?_))⟩
       refine aF (ag hD32 rfl rfl rfl)
      ·
       refine⟨_,rfl,rfl,(ao rfl (aN hf rfl (aP rfl rfl cO rfl (dA m (by omega))) (aF (ag hD33 rfl rfl rfl))))⟩
      ·
       refine⟨_,rfl,rfl,(ao rfl (aZ hf rfl rfl rfl aX (aF (ag hD34 rfl rfl rfl))))⟩
     refine aK 11 #[false,false,false,true,true,false,false,false,false,false,false,false,false] ⟨107,[(1,.s (.string u)),(2,.sl 6 (m.map evC)),(7,.ref 7 0 0 0),(8,.sl 6 ((aS aJ l).map evC)),(9,.adr (aL (aG aJ l))),(11,.adr (evC (bG u (aG aJ l).now))),(53,.sl 6 (m.map evC))],[(7,.box (aL aJ))]⟩ ?_ (fun hD38=>?_)
     ·
      refine aH 0 [1,10] (by kernel_rfl) ⟨?_,?_,?_,trivial⟩
      ·
       refine⟨_,rfl,rfl,(ao rfl (aE aA 1 rfl (aF (ag hD30 rfl rfl rfl))))⟩
      ·
       refine⟨_,rfl,rfl,(ao rfl (aE aA 1 rfl (aF (ag hD33 rfl rfl rfl))))⟩
      ·
       refine⟨_,rfl,rfl,(ao rfl (aZ hf rfl rfl rfl aX (aF (ag hD35 rfl rfl rfl))))⟩
     refine aK 11 #[false,false,false,true,false,false,false,false,false,false,true,false,false] ⟨107,[(1,.s (.string u)),(2,.sl 6 (m.map evC)),(7,.ref 7 0 0 0),(8,.sl 6 ((aS aJ l).map evC)),(9,.adr (aL (aG aJ l))),(11,.adr (evC (bG u (aG aJ l).now))),(12,.ref 12 0 0 0),(52,.sl 6 (m.map evC))],[(12,.box [.s (.int .i64 0),.s (.int .i64 0),.s (.slice none 0 0),.s (.slice none 0 0),.s (.slice none 0 0),.s (.slice none 0 0)]),(7,.box (aL aJ))]⟩ ?_ (fun hD39=>?_)
     ·
      refine aH 0 [1,4] (by kernel_rfl) ⟨?_,?_,?_,trivial⟩
      ·
       refine⟨_,rfl,rfl,(ao rfl (aE aA 1 rfl (aF (ag hD31 rfl rfl rfl))))⟩
      ·
       refine⟨_,rfl,rfl,(ao rfl (aE aA 1 rfl (aF (ag hD34 rfl rfl rfl))))⟩
      ·
       refine⟨_,rfl,rfl,(ao rfl (aN hf rfl (aP rfl rfl cO rfl (dA m (by omega))) (aF (ag hD35 rfl rfl rfl))))⟩
     refine gZ (mQ (sl':=[(1,.s (.string u)),(2,.sl 6 (m.map evC)),(7,.ref 7 0 0 0),(8,.sl 6 ((aS aJ l).map evC)),(9,.adr (aL (aG aJ l))),(11,.adr (evC (bG u (aG aJ l).now))),(52,.sl 6 (m.map evC))]) (m':=[(7,.box (aL aJ))]) rfl rfl rfl) (aH 0 [1,4,10] (by kernel_rfl) ⟨?_,?_,?_,?_,trivial⟩)
     ·
      refine⟨_,rfl,rfl,(ao rfl (aE aA 1 rfl (aF (ag hD36 rfl rfl rfl))))⟩
     ·
      refine⟨_,rfl,rfl,(ao rfl (aE aA 1 rfl (aF (ag hD37 rfl rfl rfl))))⟩
     ·
      refine⟨_,rfl,rfl,(ao rfl (aN hf rfl (aP rfl rfl cO rfl (dA m (by omega))) (aF (ag hD38 rfl rfl rfl))))⟩
     ·
      refine⟨_,rfl,rfl,(ao rfl (aZ hf rfl rfl rfl aX (aF (ag hD39 rfl rfl rfl))))⟩
    refine aK 1 #[true,true,true,true,false] ⟨107,[(1,.s (.string u)),(2,.sl 6 (m.map evC)),(7,.ref 7 0 0 0),(37,.sl 6 ((aS aJ l).map evC))],[(7,.box (aL aJ))]⟩ ?_ (fun hD1=>?_)
    ·
     refine aH 4 [] (by kernel_rfl) ⟨?_,trivial⟩
     ·
      refine⟨_,rfl,rfl,(ao rfl (aE aA 1 rfl (aF (ag hD0 rfl rfl rfl))))⟩
    refine aK 2 #[true,true,true,false,false] ⟨107,[(1,.s (.string u)),(2,.sl 6 (m.map evC)),(7,.ref 7 0 0 0),(34,.agg (aL aJ)),(36,.sl 6 (l.map evC))],[(7,.box (aL aJ))]⟩ ?_ (fun hD2=>?_)
    ·
     refine aH 3 [] (by kernel_rfl) ⟨?_,trivial⟩
     ·
      refine⟨_,rfl,rfl,(ao rfl (aN hf rfl (aP rfl rfl nP rfl (pA aJ l hz0 eQ hl60 ht)) (aF (ag hD1 rfl rfl rfl))))⟩
    refine aK 3 #[true,true,false,false,false] ⟨107,[(1,.s (.string u)),(2,.sl 6 (m.map evC)),(7,.ref 7 0 0 0),(34,.agg (aL aJ)),(35,.sl 6 (l.map evC))],[(7,.box (aL aJ))]⟩ ?_ (fun hD3=>?_)
    ·
     refine aH 2 [] (by kernel_rfl) ⟨?_,trivial⟩
     ·
      refine⟨_,rfl,rfl,(ao rfl (aN hf rfl (aP rfl rfl cO rfl (dA _ (by omega))) (aF (ag hD2 rfl rfl rfl))))⟩
    refine aK 3 #[false,true,true,false,false] ⟨107,[(1,.s (.string u)),(2,.sl 6 (m.map evC)),(7,.ref 7 0 0 0),(36,.sl 6 (l.map evC))],[(7,.box (aL aJ))]⟩ ?_ (fun hD4=>?_)
    ·
     refine aH 0 [] (by kernel_rfl) ⟨?_,trivial⟩
     ·
      refine⟨_,rfl,rfl,(ao rfl (aE aA 1 rfl (aF (ag hD2 rfl rfl rfl))))⟩
    refine gZ (mQ (sl':=[(1,.s (.string u)),(2,.sl 6 (m.map evC)),(7,.ref 7 0 0 0),(35,.sl 6 (l.map evC))]) (m':=[(7,.box (aL aJ))]) rfl rfl rfl) (aH 0 [2] (by kernel_rfl) ⟨?_,?_,trivial⟩)
    ·
     refine⟨_,rfl,rfl,(ao rfl (aE aA 1 rfl (aF (ag hD3 rfl rfl rfl))))⟩
    ·
     refine⟨_,rfl,rfl,(ao rfl (aN hf rfl (aP rfl rfl cO rfl (dA _ (by omega))) (aF (ag hD4 rfl rfl rfl))))⟩
  ·
   simp only[bs] at hg2
   refine aE aA 3 rfl (aD (hK3 _ (bP rfl (aC (fun K20 hK20=>(aB (aN hf rfl (aP rfl rfl iJ rfl (gS)) (aE aA 1 rfl (aD (hK20 _ (aM ?_)))))))))))
   refine⟨_,rfl,?_⟩
   rfl
 ·
  simp only[bs] at hg1
  refine aE aA 8 rfl (aD (hK3 _ (bP rfl (aC (fun K21 hK21=>(aB (aN hf rfl (aP rfl rfl iJ rfl (gS)) (aE aA 1 rfl (aD (hK21 _ (aM ?_)))))))))))
  refine⟨_,rfl,?_⟩
  rfl
end Go.Proofs.YtijnkglkchhomaaGreat
set_option linter.unusedVariables false
set_option linter.unusedSimpArgs false
namespace Go.Proofs.YtijnkglkchhomaaGreat
open Go Go.Abs
end Go.Proofs.YtijnkglkchhomaaGreat
set_option linter.unusedVariables false
set_option linter.unusedSimpArgs false
namespace Go.Proofs.YtijnkglkchhomaaGreat
open Go Go.Abs
end Go.Proofs.YtijnkglkchhomaaGreat
namespace Go.Proofs.YtijnkglkchhomaaGreat
open Go.ChangeShapes Go.WideShapes Go.ChangeAt Go.RowKit Go.Abs
set_option linter.unusedVariables false
theorem own:ownKnob Tryz.prog.godebug=none:=by kernel_rfl
theorem laid:laidOutB Tryz.prog=true:=by kernel_rfl
theorem td9:tdOf? Tryz.prog 16 9=some (.str):=by kernel_rfl
theorem td28:tdOf? Tryz.prog 16 28=some (.sl 64 (.agg [.int .i64,.int .i64,.str,.str,.int .i64,.int .i64])):=by kernel_rfl
set_option maxRecDepth 100000 in
theorem wH (H:Type) (enc:TypeId×Value→H) (W:World) (base:Nat) (args:Array Value) (ds gs:List (DataW H)) (before:List MemPlace)
    (hval:∀ (j:Nat) t v,Tryz.f8.params[j]?=some t→args[j]?=some v→Value.okWide Tryz.prog W .any base t v)
    (hW:DataW.Whole enc Tryz.prog Tryz.f8.params.toList Rows.foldErasedSpec.vars false W args.toList ds gs before)
    (hsz:(DataW.weightsEach Tryz.prog (Tryz.f8.params.toList++Rows.foldErasedSpec.plain.varTypes Tryz.prog) (ds++gs)).all (·≤reachBytes)=true) :
    Calls Tryz.prog 8 args W fun e W'=>∃ v,e=.returned v∧Rows.foldErasedSpec.post enc Tryz.prog Tryz.f8 false true false false W args v W':=by
  have hW':=hW
  obtain ⟨p,q,hA0,hV,rfl,hfz,hnd⟩:=hW
  have hA:DataW.TrodAll enc Tryz.prog W 0 (fun _=>true) true Tryz.f8.params.toList args.toList ds p:=hA0
  rw[Tryz.params8] at hA hval
  obtain ⟨v0,vs0,d0,ds0,p0,q0,hargs,rfl,rfl,h0,r0⟩:=trodAll_cons hA
  obtain ⟨v1,vs1,d1,ds1,p1,q1,rfl,rfl,rfl,h1,r1⟩:=trodAll_cons r0
  obtain ⟨v2,vs2,d2,ds2,p2,q2,rfl,rfl,rfl,h2,r2⟩:=trodAll_cons r1
  obtain ⟨rfl,rfl,rfl⟩:=trodAll_nil r2
  obtain rfl:args=#[v0,v1,v2]:=by cases args; simp_all
  obtain ⟨c0,y0,a0⟩:=yK td28 aE8 (hval 0 28 v0 rfl rfl) h0 (lU (i:=0) hsz (by rw[Tryz.params8]; rfl) rfl)
  obtain ⟨l,rfl,_,hl⟩:=aNw y0
  obtain ⟨c1,y1,a1⟩:=yK td9 aQk (hval 1 9 v1 rfl rfl) h1 (lU (i:=1) hsz (by rw[Tryz.params8]; rfl) rfl)
  obtain ⟨u,rfl,hu⟩:=aSn y1
  have huT:TS u:=Nat.le_trans hu (by decide)
  obtain ⟨c2,y2,a2⟩:=yK td28 aE8 (hval 2 28 v2 rfl rfl) h2 (lU (i:=2) hsz (by rw[Tryz.params8]; rfl) rfl)
  obtain ⟨m,rfl,_,hm⟩:=aNw y2
  refine(aEk l hl u huT m hm (fun _=>False) W [v0,v1,v2] (fun _ h=>h.elim) ⟨rfl,fun i c v hc hv=>?_⟩).mono fun e W' ⟨v,r,he,hr,hE,hv⟩=>?_
  · match i,hc,hv with
    | 0,hc,hv=>cases hc; cases hv; exact a0
    | 1,hc,hv=>cases hc; cases hv; exact a1
    | 2,hc,hv=>cases hc; cases hv; exact a2
  · subst hr
    cases hv
    exact⟨_,he,zS (t:=4) hW' (tG hE) laid (by rw[Tryz.params8]; decide +kernel) rfl (fun _=>rfl) (by kernel_rfl) (by kernel_rfl) Tryz.underlying4⟩
set_option maxRecDepth 100000 in
theorem yU (os:Os) (started:os.Started) (H:Type) (enc:TypeId×Value→H) (F:Stop.Interp) :
    ReturnsInHanded {} Tryz.checked os 8 .any (Rows.foldErasedSpec.pre6 enc Tryz.prog Tryz.f8 Rows.foldErasedRow.domain false) (Rows.foldErasedSpec.post enc Tryz.prog Tryz.f8 false true false false):=by
  refine returnsInHanded_of_change_sized (C:=Tryz.checked) (s:=Rows.foldErasedSpec) own started (by kernel_rfl) Tryz.func8
    (ChangeSpec.witness6 (enc:=enc) (C:=Tryz.checked) (s:=Rows.foldErasedSpec) false ⟨#[],#[.slice none 0 0,.string ⟨#[]⟩,.slice none 0 0],[]⟩ 8 (by kernel_rfl) (by kernel_rfl) (by kernel_rfl) (by kernel_rfl)) ?_
  intro W base args ds gs before hval hW _ hsz _
  exact wH H enc W base args ds gs before hval hW hsz
theorem aGa:(Rows.foldErasedRow.wf (OpenSpec.ofChange Rows.foldErasedSpec)&&laidOutB Tryz.prog&&mapsRowed Tryz.prog)=true:=by kernel_rfl
theorem aF9:(Rows.foldErasedRow.inPlace == Tryz.prog.inPlace 8)=true:=by kernel_rfl
theorem aF8:(Rows.foldErasedRow.unfollowed == Tryz.prog.unfollowed 8)=true:=by kernel_rfl
theorem aF7:(Rows.foldErasedRow.recurses == Tryz.prog.recurses 8)=true:=by kernel_rfl
theorem aF6:(Rows.foldErasedRow.named == Tryz.prog.varsNamed 8)=true:=by kernel_rfl
theorem yV:joinedFacts Tryz.prog 8 Tryz.f8 Rows.foldErasedSpec Rows.foldErasedRow=true:=by
  have h0:=aGa
  simp only[Bool.and_eq_true] at h0
  obtain ⟨⟨h5,h6⟩,h7⟩:=h0
  unfold joinedFacts
  repeat (rw[Bool.and_eq_true]; refine And.intro ?_ ?_)
  all_goals with_reducible first | exact aF9 | exact aF8 | exact aF7 | exact aF6 | exact h5 | exact h6 | exact h7 | kernel_rfl
theorem foldErased_proved:Rows.FoldErasedSaid :=
  OpenClaim.holds_of_wide 8 Tryz.f8 rfl rfl rfl rfl rfl rfl rfl ⟨rfl,rfl,rfl,rfl,rfl⟩ rfl rfl rfl rfl rfl (by kernel_rfl) Tryz.func8 yV
    (of_decide_eq_true (by kernel_rfl)) (by unfold Func.isWrapper; first | (rw[if_pos (by decide +kernel)]; kernel_rfl) | (rw[if_neg (by decide +kernel)]; exact⟨rfl,rfl⟩))
    (fun os started H enc _=>yU os started H enc default)
end Go.Proofs.YtijnkglkchhomaaGreat
