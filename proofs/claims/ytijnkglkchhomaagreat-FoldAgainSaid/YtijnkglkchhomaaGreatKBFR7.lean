/-
  The law FoldAgain: whatever the state, the events and the place of the cut, the call returns true, and all read behind it as they read before. No condition beyond the row's own.
-/
import Derived.Test.YtijnkglkchhomaaGreatRows
import Derived.WalkKit
import Derived.ProofKit
import Derived.OpenShut
import Derived.JoinedCond
import Derived.SizedLaws
import Derived.Test.YtijnkglkchhomaaGreatKB1
import Derived.Test.YtijnkglkchhomaaGreatKB2
import Derived.Test.YtijnkglkchhomaaGreatKB3
import Derived.Test.YtijnkglkchhomaaGreatKB4
import Derived.Test.YtijnkglkchhomaaGreatKB5
set_option maxRecDepth 20000
set_option maxHeartbeats 16000000
set_option linter.unusedVariables false
set_option linter.unusedSimpArgs false
namespace Go.Proofs.YtijnkglkchhomaaGreat
open Go Go.Abs
end Go.Proofs.YtijnkglkchhomaaGreat
set_option linter.unusedVariables false
set_option linter.unusedSimpArgs false
namespace Go.Proofs.YtijnkglkchhomaaGreat
open Go Go.Abs
theorem bnd_n {n:Nat} {sl:List (Nat×AV)} {m:Mem} {d:Nat} {x:Operand} {kd:IntKind} {z:Nat} (hx:ev sl x=some (.s (.int kd ((z:Nat):Int)))):bnd ⟨n,sl,m⟩ d (some x)=some z:=by
  have:=mU (n:=n) (m:=m) (d:=d) hx (by omega)
  rwa [Int.toNat_natCast] at this
theorem aGb (s:Sta) (hz:SzS 140737488351232 s) (ts:TsS s) (l:List Ev) (ht:∀ e∈l,TS e.user∧TS e.other) (c:Int) :Den Tryz.prog 7 [.agg (aL s),.sl 6 (l.map evC),.s (.int .i64 c)]  (·=.s (.bool true)):=by
 have hzM:SzS 140737488353280 s:=hz.mono (by omega)
 refine aY Tryz.func7 rfl (Nat.le_of_ble_eq_true rfl) (fun w0 A hf=>(aC (fun K1 hK1=>(aB (aN hf rfl (cS rfl rfl (lf rfl)) (aE aA 1 rfl (aD (hK1 _ (aC (fun K2 hK2=>(aC (fun K3 hK3=>(aB (aE aA 1 rfl (aN hf rfl (aP rfl rfl aFh rfl (aD9 s hzM)) (aE aA 2 rfl ?_))))))))))))))))
 refine bA rfl rfl rfl (fun hg1=>?_) (fun hg1=>?_)
 ·
  simp only[bs] at hg1
  refine aI rfl (aCl rfl zG aNp rfl rfl) ?_
  refine bF rfl rfl rfl (aN hf rfl (aP rfl rfl aFg rfl (wN s (hz.mono (by omega)) ts)) (aE aA 3 rfl (bA rfl rfl rfl (fun hg2=>?_) (fun hg2=>?_))))
  ·
   simp only[bs] at hg2
   refine aI rfl (fV rfl) (aE aA 4 rfl (bA rfl rfl rfl (fun hg3=>?_) (fun hg3=>?_)))
   ·
    simp only[bs] at hg3
    refine aI rfl (fV rfl) (aE aA 3 rfl (bA rfl rfl rfl (fun hg4=>?_) (fun hg4=>?_)))
    ·
     simp only[bs] at hg4
     refine aI rfl (fV rfl) (aE aA 4 rfl (aD (hK3 _ (aO rfl (fun hc5=>?_) (fun hc5=>?_)))))
     ·
      simp only[bs] at hc5
      refine aC (fun K4 hK4=>(aB (aN hf rfl (aP rfl rfl iJ rfl (gS)) (aE aA 1 rfl (aD (hK4 _ (aM ?_)))))))
      refine⟨_,rfl,?_⟩
      rfl
     ·
      simp only[bs] at hc5
      have hR:RightP s:=iP.1 (by simp_all)
      have hl40:l.length≤40:=by omega
      have hl60:l.length≤60:=by omega
      have hzF:SzS 140737488353280 (aG s l):=(uW l hz hR).mono (by omega)
      have hRF:RightP (aG s l):=qE l hR
      have hlT:=vT l s
      obtain ⟨k,rfl⟩:∃ k:Nat,c=(k:Int):=⟨c.toNat,by omega⟩
      have hkl:k≤l.length:=by omega
      have htT:∀ e∈(aS s l),TS e.user∧TS e.other:=fun e he=>ht e (vS he)
      obtain ⟨hFT,hTT,_⟩:=qD l s
      have ht1:∀ e∈l.take k,TS e.user∧TS e.other:=fun e he=>ht e (List.mem_of_mem_take he)
      have ht2:∀ e∈l.drop k,TS e.user∧TS e.other:=fun e he=>ht e (List.mem_of_mem_drop he)
      have hl1:(l.take k).length=k:=by rw[List.length_take]; omega
      have hl2:(l.drop k).length=l.length - k:=List.length_drop
      have hRH:RightP (aG s (l.take k)):=qE _ hR
      have hzH:SzS (140737488351232+48*k) (aG s (l.take k)):=by have:=uW (l.take k) hz hR; rw[hl1] at this; exact this
      have hFH:aG (aG s (l.take k)) (l.drop k)=(aG s l):=by rw[← aG8,List.take_append_drop]
      have hTH:bH (aV s (l.take k))++bH (aV (aG s (l.take k)) (l.drop k))=bH (aV s l):=by rw[bH,bH,← List.map_append,← xZ,List.take_append_drop]; rfl
      have hla:(bH (aV s (l.take k))).length≤40:=by rw[dW,gL]; omega
      have hlb:(bH (aV (aG s (l.take k)) (l.drop k))).length≤40:=by rw[dW,gL]; omega
      refine aR (hK2 _ (aC (fun K5 hK5=>(dK bK ?_))))
      refine bY (listed':=#[true,false,false,false,false,false,false]) 0 rfl (by kernel_rfl) (by kernel_rfl) (by kernel_rfl) rfl (fun _ _ h=>h) (dL rfl) ?_
      refine aK 0 #[true,true,true,true,true,true,true] ⟨109,[(2,.s (.int .i64 (k:Nat))),(7,.sl 6 (l.map evC)),(8,.ref 8 0 0 0)],[(8,.box (aL s))]⟩ ?_ (fun hD0=>?_)
      ·
       refine dF (by kernel_rfl) ?_
       refine hK5 _ (aC (fun K6 hK6=>(aB (aE aA 2 rfl (aN hf rfl (aP rfl rfl fC rfl (iB s l hz hR hl60 ht)) (aE aA 3 rfl (cC hf rfl aX rfl bS rfl rfl rfl rfl (lf rfl) (aE aA 1 rfl (aD (hK6 _ (aC (fun K7 hK7=>(dK bK ?_)))))))))))))
       refine bY (listed':=#[false,false,true,false,false,false,false,false,false,false,false]) 2 rfl (by kernel_rfl) (by kernel_rfl) (by kernel_rfl) rfl (fun _ _ h=>h) (dL rfl) ?_
       refine aK 0 #[true,true,true,true,true,true,true,true,true,true,true] ⟨109,[(2,.s (.int .i64 (k:Nat))),(7,.sl 6 (l.map evC)),(8,.ref 8 0 0 0),(9,.adr (aL (aG s l))),(10,.sl 1 (bH (aV s l))),(11,.ref 11 0 0 0),(12,.sl 1 (bH (aV s (aS s l))))],[(11,.box (aL (aG s l))),(8,.box (aL s))]⟩ ?_ (fun hD0=>?_)
       ·
        refine dF (by kernel_rfl) ?_
        refine hK7 _ (aC (fun K8 hK8=>(aC (fun K9 hK9=>(aB (aE aA 3 rfl (aD (hK9 _ (aU (bW (ι:=Nat) (fun q=>⟨109,[(2,.s (.int .i64 (k:Nat))),(7,.sl 6 (l.map evC)),(8,.ref 8 0 0 0),(9,.adr (aL (aG s l))),(10,.sl 1 (bH (aV s l))),(11,.ref 11 0 0 0),(61,.sl 1 (bH (aV s (aS s l)))),(62,.s (.int .i64 ((bH (aV s (aS s l))).length:Nat))),(63,.s (.int .i64 (q:Nat)))],[(11,.box (aL (aG s l))),(8,.box (aL s))]⟩) (fun q=>q≤(bH (aV s (aS s l))).length) (fun q=>(bH (aV s (aS s l))).length - q) 0 ?_ ?_ ?_))))))))))
        · exact Nat.zero_le _
        · exact mQ rfl rfl rfl
        ·
         rintro q hC
         refine aC (fun K10 hK10=>(aB (aE aA 1 rfl (aD (hK10 _ (aC (fun K11 hK11=>(aO rfl (fun hc6=>?_) (fun hc6=>?_)))))))))
         ·
          simp only[bs] at hc6
          have hk2:q<(aV s (aS s l)).length:=by have:=dW (aV s (aS s l)); omega
          have hTl:(aV s (aS s l)).length≤40:=by rw[gL]; omega
          refine aR (hK11 _ (aC (fun K12 hK12=>(aU (aC (fun K13 hK13=>(aB (aI rfl (bJ rfl rfl mX mY (uT hk2)) (aE aA 2 rfl (aD (hK13 _ (aC (fun K14 hK14=>(aB (aE aA 1 rfl ?_)))))))))))))))
          refine aI rfl (eO rfl rfl (aCo (hTT _ (List.getElem_mem hk2)))) (aD (hK14 _ (bZ rfl (aR (hK12 _ (aB ?_))))))
          refine aI rfl (bQ rfl rfl (by omega) (by omega)) ?_
          refine aE aA 1 rfl (aD ?_)
          exact⟨q+1,by omega,by omega,cN ⟨(by first | rfl | exact aT (by omega)),(by first | rfl | exact aT (by omega)),(by first | rfl | exact aT (by omega)),(by first | rfl | exact aT (by omega)),(by first | rfl | exact aT (by omega)),(by first | rfl | exact aT (by omega)),(by first | rfl | exact aT (by omega)),(by first | rfl | exact aT (by omega)),(by first | rfl | exact aT (by omega)),trivial⟩ rfl⟩
         ·
          simp only[bs] at hc6
          refine bI (hK8 _ (aC (fun K15 hK15=>(dK bK ?_))))
          refine bY (listed':=#[false,true,false,false,false,false,false,false,false,false,false]) 1 rfl (by kernel_rfl) (by kernel_rfl) (by kernel_rfl) rfl (fun _ _ h=>h) (dL rfl) ?_
          refine bY (listed':=#[false,true,true,false,false,false,false,false,false,false,false]) 2 rfl (by kernel_rfl) (by kernel_rfl) (by kernel_rfl) rfl (fun _ _ h=>h) (dL rfl) ?_
          refine bY (listed':=#[false,true,true,true,false,false,false,false,false,false,false]) 3 rfl (by kernel_rfl) (by kernel_rfl) (by kernel_rfl) rfl (fun _ _ h=>h) (aCy rfl gY cY rfl (mU rfl (by omega)) (by omega) (by simp only[List.length_map,Int.toNat_natCast] <;> omega) (mM (k:=k) (by omega))) ?_
          refine aK 0 #[true,true,true,true,true,true,true,true,true,true,true] ⟨109,[(2,.s (.int .i64 (k:Nat))),(7,.sl 6 (l.map evC)),(9,.adr (aL (aG s l))),(10,.sl 1 (bH (aV s l))),(11,.ref 11 0 0 0),(15,.ref 15 0 0 0),(16,.sl 1 (bH (aV s (l.take k))))],[(15,.box (aL (aG s (l.take k)))),(11,.box (aL (aG s l))),(8,.box (aL s))]⟩ ?_ (fun hD0=>?_)
          ·
           refine dF (by kernel_rfl) ?_
           refine hK15 _ (aC (fun K16 hK16=>(dK bK ?_)))
           refine bY (listed':=#[false,true,false,false,false,false,false,false,false,false,false]) 1 rfl (by kernel_rfl) (by kernel_rfl) (by kernel_rfl) rfl (fun _ _ h=>h) (dL rfl) ?_
           refine bY (listed':=#[false,true,true,false,false,false,false,false,false,false,false]) 2 rfl (by kernel_rfl) (by kernel_rfl) (by kernel_rfl) rfl (fun _ _ h=>h) (dL rfl) ?_
           refine bY (listed':=#[false,true,true,true,false,false,false,false,false,false,false]) 3 rfl (by kernel_rfl) (by kernel_rfl) (by kernel_rfl) rfl (fun _ _ h=>h) (aCy rfl gY cY (mU rfl (by omega)) rfl (by simp only[List.length_map,Int.toNat_natCast] <;> omega) (by omega) (iZ (k:=k) (by omega))) ?_
           refine aK 0 #[true,true,true,true,true,true,true,true,true,true,true] ⟨109,[(9,.adr (aL (aG s l))),(10,.sl 1 (bH (aV s l))),(11,.ref 11 0 0 0),(16,.sl 1 (bH (aV s (l.take k)))),(17,.ref 17 0 0 0),(18,.sl 1 (bH (aV (aG s (l.take k)) (l.drop k))))],[(17,.box (aL (aG s l))),(15,.box (aL (aG s (l.take k)))),(11,.box (aL (aG s l))),(8,.box (aL s))]⟩ ?_ (fun hD0=>?_)
           ·
            refine dF (by kernel_rfl) ?_
            refine hK16 _ (aC (fun K17 hK17=>(aB (aN hf rfl (aP rfl rfl iJ rfl (gS)) (aE aA 3 rfl (bF rfl rfl rfl (aN hf rfl (aP rfl rfl qL rfl (vW (aG s l) (aG s l) rfl (hzF.mono (by omega)))) (aE aA 4 rfl (bF rfl rfl rfl (aN hf rfl (aP rfl rfl qL rfl (vW (aG s l) (aG s l) rfl (hzF.mono (by omega)))) (aE aA 7 rfl (aSm hf rfl rfl rfl rfl rfl rfl rfl rfl sN rfl (bnd_n rfl) (bnd_n rfl) rfl rfl (by unfold maxLen; omega) (by omega) ?_))))))))))))
            refine aE aA 1 rfl (bF rfl rfl rfl (aN hf rfl (aP rfl rfl aFe rfl ((show Den Tryz.prog _ [.sl 1 (bH (aV s (l.take k))++bH (aV (aG s (l.take k)) (l.drop k))),.sl 1 (bH (aV s l))] (·=.s (.bool true)) from by rw[hTH]; exact aC1 (aV s l) (by rw[gL]; omega)))) ?_))
            refine aE aA 2 rfl (aD (hK17 _ (aM ?_)))
            refine⟨_,rfl,?_⟩
            rfl
           refine aK 1 #[true,true,true,true,true,true,true,true,true,true,false] ⟨109,[(9,.adr (aL (aG s l))),(10,.sl 1 (bH (aV s l))),(11,.ref 11 0 0 0),(16,.sl 1 (bH (aV s (l.take k)))),(17,.ref 17 0 0 0),(85,.sl 1 (bH (aV (aG s (l.take k)) (l.drop k))))],[(17,.box (aL (aG s l))),(15,.box (aL (aG s (l.take k)))),(11,.box (aL (aG s l))),(8,.box (aL s))]⟩ ?_ (fun hD1=>?_)
           ·
            refine aH 10 [] (by kernel_rfl) ⟨?_,trivial⟩
            ·
             refine⟨_,rfl,rfl,(ao rfl (aE aA 1 rfl (aF (ag hD0 rfl rfl rfl))))⟩
           refine aK 2 #[true,true,true,true,true,true,true,true,true,false,false] ⟨109,[(9,.adr (aL (aG s l))),(10,.sl 1 (bH (aV s l))),(11,.ref 11 0 0 0),(16,.sl 1 (bH (aV s (l.take k)))),(17,.ref 17 0 0 0),(84,.agg (aL (aG s l))),(85,.sl 1 (bH (aV (aG s (l.take k)) (l.drop k))))],[(17,.box [.s (.int .i64 0),.s (.int .i64 0),.s (.slice none 0 0),.s (.slice none 0 0),.s (.slice none 0 0),.s (.slice none 0 0)]),(15,.box (aL (aG s (l.take k)))),(11,.box (aL (aG s l))),(8,.box (aL s))]⟩ ?_ (fun hD2=>?_)
           ·
            refine aH 9 [] (by kernel_rfl) ⟨?_,trivial⟩
            ·
             refine⟨_,rfl,rfl,(ao rfl (bD hf rfl rfl bS rfl rfl (l1 rfl) (l4 rfl) rfl (aF (ag hD1 rfl rfl rfl))))⟩
           refine aK 2 #[true,true,true,true,true,true,true,false,true,true,false] ⟨109,[(9,.adr (aL (aG s l))),(10,.sl 1 (bH (aV s l))),(11,.ref 11 0 0 0),(16,.sl 1 (bH (aV s (l.take k)))),(17,.ref 17 0 0 0),(78,.tup [.agg (aL (aG s l)),.sl 1 (bH (aV (aG s (l.take k)) (l.drop k)))])],[(17,.box (aL (aG s l))),(15,.box (aL (aG s (l.take k)))),(11,.box (aL (aG s l))),(8,.box (aL s))]⟩ ?_ (fun hD3=>?_)
           ·
            refine aH 7 [] (by kernel_rfl) ⟨?_,trivial⟩
            ·
             refine⟨_,rfl,rfl,(ao rfl (aE aA 1 rfl (aF (ag hD1 rfl rfl rfl))))⟩
           refine aK 3 #[true,true,true,true,true,true,true,true,false,false,false] ⟨109,[(9,.adr (aL (aG s l))),(10,.sl 1 (bH (aV s l))),(11,.ref 11 0 0 0),(16,.sl 1 (bH (aV s (l.take k)))),(84,.agg (aL (aG s l))),(85,.sl 1 (bH (aV (aG s (l.take k)) (l.drop k))))],[(15,.box (aL (aG s (l.take k)))),(11,.box (aL (aG s l))),(8,.box (aL s))]⟩ ?_ (fun hD4=>?_)
           ·
            refine aH 8 [] (by kernel_rfl) ⟨?_,trivial⟩
            ·
             refine⟨_,rfl,rfl,(ao rfl (aZ hf rfl rfl rfl aX (aF (ag hD2 rfl rfl rfl))))⟩
           refine aK 3 #[true,true,true,true,true,true,true,false,true,false,false] ⟨109,[(9,.adr (aL (aG s l))),(10,.sl 1 (bH (aV s l))),(11,.ref 11 0 0 0),(16,.sl 1 (bH (aV s (l.take k)))),(17,.ref 17 0 0 0),(78,.tup [.agg (aL (aG s l)),.sl 1 (bH (aV (aG s (l.take k)) (l.drop k)))]),(84,.agg (aL (aG s l)))],[(17,.box [.s (.int .i64 0),.s (.int .i64 0),.s (.slice none 0 0),.s (.slice none 0 0),.s (.slice none 0 0),.s (.slice none 0 0)]),(15,.box (aL (aG s (l.take k)))),(11,.box (aL (aG s l))),(8,.box (aL s))]⟩ ?_ (fun hD5=>?_)
           ·
            refine aH 7 [9] (by kernel_rfl) ⟨?_,?_,trivial⟩
            ·
             refine⟨_,rfl,rfl,(ao rfl (aE aA 1 rfl (aF (ag hD2 rfl rfl rfl))))⟩
            ·
             refine⟨_,rfl,rfl,(ao rfl (bD hf rfl rfl bS rfl rfl (l1 rfl) (l4 rfl) rfl (aF (ag hD3 rfl rfl rfl))))⟩
           refine aK 3 #[true,true,true,true,true,true,false,true,true,false,false] ⟨109,[(9,.adr (aL (aG s l))),(10,.sl 1 (bH (aV s l))),(11,.ref 11 0 0 0),(16,.sl 1 (bH (aV s (l.take k)))),(17,.ref 17 0 0 0),(78,.tup [.agg (aL (aG s l)),.sl 1 (bH (aV (aG s (l.take k)) (l.drop k)))]),(85,.sl 1 (bH (aV (aG s (l.take k)) (l.drop k))))],[(17,.box [.s (.int .i64 0),.s (.int .i64 0),.s (.slice none 0 0),.s (.slice none 0 0),.s (.slice none 0 0),.s (.slice none 0 0)]),(15,.box (aL (aG s (l.take k)))),(11,.box (aL (aG s l))),(8,.box (aL s))]⟩ ?_ (fun hD6=>?_)
           ·
            refine aH 6 [] (by kernel_rfl) ⟨?_,trivial⟩
            ·
             refine⟨_,rfl,rfl,(ao rfl (aE aA 1 rfl (aF (ag hD2 rfl rfl rfl))))⟩
           refine aK 4 #[true,true,true,true,true,true,true,false,false,false,false] ⟨109,[(9,.adr (aL (aG s l))),(10,.sl 1 (bH (aV s l))),(11,.ref 11 0 0 0),(16,.sl 1 (bH (aV s (l.take k)))),(78,.tup [.agg (aL (aG s l)),.sl 1 (bH (aV (aG s (l.take k)) (l.drop k)))]),(84,.agg (aL (aG s l)))],[(15,.box (aL (aG s (l.take k)))),(11,.box (aL (aG s l))),(8,.box (aL s))]⟩ ?_ (fun hD7=>?_)
           ·
            refine aH 7 [8] (by kernel_rfl) ⟨?_,?_,trivial⟩
            ·
             refine⟨_,rfl,rfl,(ao rfl (aE aA 1 rfl (aF (ag hD4 rfl rfl rfl))))⟩
            ·
             refine⟨_,rfl,rfl,(ao rfl (aZ hf rfl rfl rfl aX (aF (ag hD5 rfl rfl rfl))))⟩
           refine aK 4 #[true,true,true,true,true,true,false,true,false,false,false] ⟨109,[(9,.adr (aL (aG s l))),(10,.sl 1 (bH (aV s l))),(11,.ref 11 0 0 0),(16,.sl 1 (bH (aV s (l.take k)))),(78,.tup [.agg (aL (aG s l)),.sl 1 (bH (aV (aG s (l.take k)) (l.drop k)))]),(85,.sl 1 (bH (aV (aG s (l.take k)) (l.drop k))))],[(15,.box (aL (aG s (l.take k)))),(11,.box (aL (aG s l))),(8,.box (aL s))]⟩ ?_ (fun hD8=>?_)
           ·
            refine aH 6 [8] (by kernel_rfl) ⟨?_,?_,trivial⟩
            ·
             refine⟨_,rfl,rfl,(ao rfl (aE aA 1 rfl (aF (ag hD4 rfl rfl rfl))))⟩
            ·
             refine⟨_,rfl,rfl,(ao rfl (aZ hf rfl rfl rfl aX (aF (ag hD6 rfl rfl rfl))))⟩
           refine aK 4 #[true,true,true,true,true,true,false,false,true,false,false] ⟨109,[(9,.adr (aL (aG s l))),(10,.sl 1 (bH (aV s l))),(11,.ref 11 0 0 0),(16,.sl 1 (bH (aV s (l.take k)))),(17,.ref 17 0 0 0),(78,.tup [.agg (aL (aG s l)),.sl 1 (bH (aV (aG s (l.take k)) (l.drop k)))])],[(17,.box [.s (.int .i64 0),.s (.int .i64 0),.s (.slice none 0 0),.s (.slice none 0 0),.s (.slice none 0 0),.s (.slice none 0 0)]),(15,.box (aL (aG s (l.take k)))),(11,.box (aL (aG s l))),(8,.box (aL s))]⟩ ?_ (fun hD9=>?_)
           ·
            refine aH 6 [7] (by kernel_rfl) ⟨?_,?_,trivial⟩
            ·
             refine⟨_,rfl,rfl,(ao rfl (aE aA 1 rfl (aF (ag hD5 rfl rfl rfl))))⟩
            ·
             refine⟨_,rfl,rfl,(ao rfl (aE aA 1 rfl (aF (ag hD6 rfl rfl rfl))))⟩
           refine aK 5 #[true,true,true,true,true,true,false,false,false,false,false] ⟨109,[(9,.adr (aL (aG s l))),(10,.sl 1 (bH (aV s l))),(11,.ref 11 0 0 0),(16,.sl 1 (bH (aV s (l.take k)))),(78,.tup [.agg (aL (aG s l)),.sl 1 (bH (aV (aG s (l.take k)) (l.drop k)))])],[(15,.box (aL (aG s (l.take k)))),(11,.box (aL (aG s l))),(8,.box (aL s))]⟩ ?_ (fun hD10=>?_)
           ·
            refine aH 6 [7,8] (by kernel_rfl) ⟨?_,?_,?_,trivial⟩
            ·
             refine⟨_,rfl,rfl,(ao rfl (aE aA 1 rfl (aF (ag hD7 rfl rfl rfl))))⟩
            ·
             refine⟨_,rfl,rfl,(ao rfl (aE aA 1 rfl (aF (ag hD8 rfl rfl rfl))))⟩
            ·
             refine⟨_,rfl,rfl,(ao rfl (aZ hf rfl rfl rfl aX (aF (ag hD9 rfl rfl rfl))))⟩
           refine aK 5 #[true,true,true,true,true,false,false,false,true,false,false] ⟨109,[(9,.adr (aL (aG s l))),(10,.sl 1 (bH (aV s l))),(11,.ref 11 0 0 0),(16,.sl 1 (bH (aV s (l.take k)))),(17,.ref 17 0 0 0),(83,.tup [.agg (aL (aG s l)),.sl 1 (bH (aV (aG s (l.take k)) (l.drop k)))])],[(17,.box [.s (.int .i64 0),.s (.int .i64 0),.s (.slice none 0 0),.s (.slice none 0 0),.s (.slice none 0 0),.s (.slice none 0 0)]),(15,.box (aL (aG s (l.take k)))),(11,.box (aL (aG s l))),(8,.box (aL s))]⟩ ?_ (fun hD11=>?_)
           ·
            refine aH 5 [] (by kernel_rfl) ⟨?_,trivial⟩
            ·
             refine⟨_,rfl,rfl,(ao rfl (aE aA 1 rfl (aF (ag hD9 rfl rfl rfl))))⟩
           refine aK 6 #[true,true,true,true,true,false,false,false,false,false,false] ⟨109,[(9,.adr (aL (aG s l))),(10,.sl 1 (bH (aV s l))),(11,.ref 11 0 0 0),(16,.sl 1 (bH (aV s (l.take k)))),(83,.tup [.agg (aL (aG s l)),.sl 1 (bH (aV (aG s (l.take k)) (l.drop k)))])],[(15,.box (aL (aG s (l.take k)))),(11,.box (aL (aG s l))),(8,.box (aL s))]⟩ ?_ (fun hD12=>?_)
           ·
            refine aH 5 [8] (by kernel_rfl) ⟨?_,?_,trivial⟩
            ·
             refine⟨_,rfl,rfl,(ao rfl (aE aA 1 rfl (aF (ag hD10 rfl rfl rfl))))⟩
            ·
             refine⟨_,rfl,rfl,(ao rfl (aZ hf rfl rfl rfl aX (aF (ag hD11 rfl rfl rfl))))⟩
           refine aK 6 #[true,true,true,true,false,false,false,false,true,false,false] ⟨109,[(9,.adr (aL (aG s l))),(10,.sl 1 (bH (aV s l))),(11,.ref 11 0 0 0),(16,.sl 1 (bH (aV s (l.take k)))),(17,.ref 17 0 0 0),(79,.agg (aL (aG s (l.take k)))),(82,.sl 6 ((l.drop k).map evC))],[(17,.box [.s (.int .i64 0),.s (.int .i64 0),.s (.slice none 0 0),.s (.slice none 0 0),.s (.slice none 0 0),.s (.slice none 0 0)]),(15,.box (aL (aG s (l.take k)))),(11,.box (aL (aG s l))),(8,.box (aL s))]⟩ ?_ (fun hD13=>?_)
           ·
            refine aH 4 [] (by kernel_rfl) ⟨?_,trivial⟩
            ·
             refine⟨_,rfl,rfl,(ao rfl (aN hf rfl (aP rfl rfl fC rfl ((show Den Tryz.prog _ _ (·=.tup [.agg (aL (aG s l)),.sl 1 (bH (aV (aG s (l.take k)) (l.drop k)))]) from fH (aAh k (aG s (l.take k)) (l.drop k) hzH hRH (by omega) ht2) (by rw[hFH])))) ?_))⟩
             refine aF (ag hD11 rfl rfl rfl)
           refine aK 7 #[true,true,true,true,false,false,false,false,false,false,false] ⟨109,[(9,.adr (aL (aG s l))),(10,.sl 1 (bH (aV s l))),(11,.ref 11 0 0 0),(16,.sl 1 (bH (aV s (l.take k)))),(79,.agg (aL (aG s (l.take k)))),(82,.sl 6 ((l.drop k).map evC))],[(15,.box (aL (aG s (l.take k)))),(11,.box (aL (aG s l))),(8,.box (aL s))]⟩ ?_ (fun hD14=>?_)
           ·
            refine aH 4 [8] (by kernel_rfl) ⟨?_,?_,trivial⟩
            ·
             refine⟨_,rfl,rfl,(ao rfl (aN hf rfl (aP rfl rfl fC rfl ((show Den Tryz.prog _ _ (·=.tup [.agg (aL (aG s l)),.sl 1 (bH (aV (aG s (l.take k)) (l.drop k)))]) from fH (aAh k (aG s (l.take k)) (l.drop k) hzH hRH (by omega) ht2) (by rw[hFH])))) ?_))⟩
             refine aF (ag hD12 rfl rfl rfl)
            ·
             refine⟨_,rfl,rfl,(ao rfl (aZ hf rfl rfl rfl aX (aF (ag hD13 rfl rfl rfl))))⟩
           refine aK 7 #[false,true,true,true,false,false,false,false,true,false,false] ⟨109,[(9,.adr (aL (aG s l))),(10,.sl 1 (bH (aV s l))),(11,.ref 11 0 0 0),(15,.ref 15 0 0 0),(16,.sl 1 (bH (aV s (l.take k)))),(17,.ref 17 0 0 0),(82,.sl 6 ((l.drop k).map evC))],[(17,.box [.s (.int .i64 0),.s (.int .i64 0),.s (.slice none 0 0),.s (.slice none 0 0),.s (.slice none 0 0),.s (.slice none 0 0)]),(15,.box (aL (aG s (l.take k)))),(11,.box (aL (aG s l))),(8,.box (aL s))]⟩ ?_ (fun hD15=>?_)
           ·
            refine aH 0 [] (by kernel_rfl) ⟨?_,trivial⟩
            ·
             refine⟨_,rfl,rfl,(ao rfl (aE aA 1 rfl (aF (ag hD13 rfl rfl rfl))))⟩
           refine gZ (mQ (sl':=[(9,.adr (aL (aG s l))),(10,.sl 1 (bH (aV s l))),(11,.ref 11 0 0 0),(15,.ref 15 0 0 0),(16,.sl 1 (bH (aV s (l.take k)))),(82,.sl 6 ((l.drop k).map evC))]) (m':=[(15,.box (aL (aG s (l.take k)))),(11,.box (aL (aG s l))),(8,.box (aL s))]) rfl rfl rfl) (aH 0 [8] (by kernel_rfl) ⟨?_,?_,trivial⟩)
           ·
            refine⟨_,rfl,rfl,(ao rfl (aE aA 1 rfl (aF (ag hD14 rfl rfl rfl))))⟩
           ·
            refine⟨_,rfl,rfl,(ao rfl (aZ hf rfl rfl rfl aX (aF (ag hD15 rfl rfl rfl))))⟩
          refine aK 1 #[true,true,true,true,true,true,true,true,true,true,false] ⟨109,[(2,.s (.int .i64 (k:Nat))),(7,.sl 6 (l.map evC)),(9,.adr (aL (aG s l))),(10,.sl 1 (bH (aV s l))),(11,.ref 11 0 0 0),(15,.ref 15 0 0 0),(77,.sl 1 (bH (aV s (l.take k))))],[(15,.box (aL (aG s (l.take k)))),(11,.box (aL (aG s l))),(8,.box (aL s))]⟩ ?_ (fun hD1=>?_)
          ·
           refine aH 10 [] (by kernel_rfl) ⟨?_,trivial⟩
           ·
            refine⟨_,rfl,rfl,(ao rfl (aE aA 1 rfl (aF (ag hD0 rfl rfl rfl))))⟩
          refine aK 2 #[true,true,true,true,true,true,true,true,true,false,false] ⟨109,[(2,.s (.int .i64 (k:Nat))),(7,.sl 6 (l.map evC)),(9,.adr (aL (aG s l))),(10,.sl 1 (bH (aV s l))),(11,.ref 11 0 0 0),(15,.ref 15 0 0 0),(76,.agg (aL (aG s (l.take k)))),(77,.sl 1 (bH (aV s (l.take k))))],[(15,.box [.s (.int .i64 0),.s (.int .i64 0),.s (.slice none 0 0),.s (.slice none 0 0),.s (.slice none 0 0),.s (.slice none 0 0)]),(11,.box (aL (aG s l))),(8,.box (aL s))]⟩ ?_ (fun hD2=>?_)
          ·
           refine aH 9 [] (by kernel_rfl) ⟨?_,trivial⟩
           ·
            refine⟨_,rfl,rfl,(ao rfl (bD hf rfl rfl bS rfl rfl (l1 rfl) (l4 rfl) rfl (aF (ag hD1 rfl rfl rfl))))⟩
          refine aK 2 #[true,true,true,true,true,true,true,false,true,true,false] ⟨109,[(2,.s (.int .i64 (k:Nat))),(7,.sl 6 (l.map evC)),(9,.adr (aL (aG s l))),(10,.sl 1 (bH (aV s l))),(11,.ref 11 0 0 0),(15,.ref 15 0 0 0),(70,.tup [.agg (aL (aG s (l.take k))),.sl 1 (bH (aV s (l.take k)))])],[(15,.box (aL (aG s (l.take k)))),(11,.box (aL (aG s l))),(8,.box (aL s))]⟩ ?_ (fun hD3=>?_)
          ·
           refine aH 7 [] (by kernel_rfl) ⟨?_,trivial⟩
           ·
            refine⟨_,rfl,rfl,(ao rfl (aE aA 1 rfl (aF (ag hD1 rfl rfl rfl))))⟩
          refine aK 3 #[true,true,true,true,true,true,true,true,false,false,false] ⟨109,[(2,.s (.int .i64 (k:Nat))),(7,.sl 6 (l.map evC)),(9,.adr (aL (aG s l))),(10,.sl 1 (bH (aV s l))),(11,.ref 11 0 0 0),(76,.agg (aL (aG s (l.take k)))),(77,.sl 1 (bH (aV s (l.take k))))],[(11,.box (aL (aG s l))),(8,.box (aL s))]⟩ ?_ (fun hD4=>?_)
          ·
           refine aH 8 [] (by kernel_rfl) ⟨?_,trivial⟩
           ·
            refine⟨_,rfl,rfl,(ao rfl (aZ hf rfl rfl rfl aX (aF (ag hD2 rfl rfl rfl))))⟩
          refine aK 3 #[true,true,true,true,true,true,true,false,true,false,false] ⟨109,[(2,.s (.int .i64 (k:Nat))),(7,.sl 6 (l.map evC)),(9,.adr (aL (aG s l))),(10,.sl 1 (bH (aV s l))),(11,.ref 11 0 0 0),(15,.ref 15 0 0 0),(70,.tup [.agg (aL (aG s (l.take k))),.sl 1 (bH (aV s (l.take k)))]),(76,.agg (aL (aG s (l.take k))))],[(15,.box [.s (.int .i64 0),.s (.int .i64 0),.s (.slice none 0 0),.s (.slice none 0 0),.s (.slice none 0 0),.s (.slice none 0 0)]),(11,.box (aL (aG s l))),(8,.box (aL s))]⟩ ?_ (fun hD5=>?_)
          ·
           refine aH 7 [9] (by kernel_rfl) ⟨?_,?_,trivial⟩
           ·
            refine⟨_,rfl,rfl,(ao rfl (aE aA 1 rfl (aF (ag hD2 rfl rfl rfl))))⟩
           ·
            refine⟨_,rfl,rfl,(ao rfl (bD hf rfl rfl bS rfl rfl (l1 rfl) (l4 rfl) rfl (aF (ag hD3 rfl rfl rfl))))⟩
          refine aK 3 #[true,true,true,true,true,true,false,true,true,false,false] ⟨109,[(2,.s (.int .i64 (k:Nat))),(7,.sl 6 (l.map evC)),(9,.adr (aL (aG s l))),(10,.sl 1 (bH (aV s l))),(11,.ref 11 0 0 0),(15,.ref 15 0 0 0),(70,.tup [.agg (aL (aG s (l.take k))),.sl 1 (bH (aV s (l.take k)))]),(77,.sl 1 (bH (aV s (l.take k))))],[(15,.box [.s (.int .i64 0),.s (.int .i64 0),.s (.slice none 0 0),.s (.slice none 0 0),.s (.slice none 0 0),.s (.slice none 0 0)]),(11,.box (aL (aG s l))),(8,.box (aL s))]⟩ ?_ (fun hD6=>?_)
          ·
           refine aH 6 [] (by kernel_rfl) ⟨?_,trivial⟩
           ·
            refine⟨_,rfl,rfl,(ao rfl (aE aA 1 rfl (aF (ag hD2 rfl rfl rfl))))⟩
          refine aK 4 #[true,true,true,true,true,true,true,false,false,false,false] ⟨109,[(2,.s (.int .i64 (k:Nat))),(7,.sl 6 (l.map evC)),(9,.adr (aL (aG s l))),(10,.sl 1 (bH (aV s l))),(11,.ref 11 0 0 0),(70,.tup [.agg (aL (aG s (l.take k))),.sl 1 (bH (aV s (l.take k)))]),(76,.agg (aL (aG s (l.take k))))],[(11,.box (aL (aG s l))),(8,.box (aL s))]⟩ ?_ (fun hD7=>?_)
          ·
           refine aH 7 [8] (by kernel_rfl) ⟨?_,?_,trivial⟩
           ·
            refine⟨_,rfl,rfl,(ao rfl (aE aA 1 rfl (aF (ag hD4 rfl rfl rfl))))⟩
           ·
            refine⟨_,rfl,rfl,(ao rfl (aZ hf rfl rfl rfl aX (aF (ag hD5 rfl rfl rfl))))⟩
          refine aK 4 #[true,true,true,true,true,true,false,true,false,false,false] ⟨109,[(2,.s (.int .i64 (k:Nat))),(7,.sl 6 (l.map evC)),(9,.adr (aL (aG s l))),(10,.sl 1 (bH (aV s l))),(11,.ref 11 0 0 0),(70,.tup [.agg (aL (aG s (l.take k))),.sl 1 (bH (aV s (l.take k)))]),(77,.sl 1 (bH (aV s (l.take k))))],[(11,.box (aL (aG s l))),(8,.box (aL s))]⟩ ?_ (fun hD8=>?_)
          ·
           refine aH 6 [8] (by kernel_rfl) ⟨?_,?_,trivial⟩
           ·
            refine⟨_,rfl,rfl,(ao rfl (aE aA 1 rfl (aF (ag hD4 rfl rfl rfl))))⟩
           ·
            refine⟨_,rfl,rfl,(ao rfl (aZ hf rfl rfl rfl aX (aF (ag hD6 rfl rfl rfl))))⟩
          refine aK 4 #[true,true,true,true,true,true,false,false,true,false,false] ⟨109,[(2,.s (.int .i64 (k:Nat))),(7,.sl 6 (l.map evC)),(9,.adr (aL (aG s l))),(10,.sl 1 (bH (aV s l))),(11,.ref 11 0 0 0),(15,.ref 15 0 0 0),(70,.tup [.agg (aL (aG s (l.take k))),.sl 1 (bH (aV s (l.take k)))])],[(15,.box [.s (.int .i64 0),.s (.int .i64 0),.s (.slice none 0 0),.s (.slice none 0 0),.s (.slice none 0 0),.s (.slice none 0 0)]),(11,.box (aL (aG s l))),(8,.box (aL s))]⟩ ?_ (fun hD9=>?_)
          ·
           refine aH 6 [7] (by kernel_rfl) ⟨?_,?_,trivial⟩
           ·
            refine⟨_,rfl,rfl,(ao rfl (aE aA 1 rfl (aF (ag hD5 rfl rfl rfl))))⟩
           ·
            refine⟨_,rfl,rfl,(ao rfl (aE aA 1 rfl (aF (ag hD6 rfl rfl rfl))))⟩
          refine aK 5 #[true,true,true,true,true,true,false,false,false,false,false] ⟨109,[(2,.s (.int .i64 (k:Nat))),(7,.sl 6 (l.map evC)),(9,.adr (aL (aG s l))),(10,.sl 1 (bH (aV s l))),(11,.ref 11 0 0 0),(70,.tup [.agg (aL (aG s (l.take k))),.sl 1 (bH (aV s (l.take k)))])],[(11,.box (aL (aG s l))),(8,.box (aL s))]⟩ ?_ (fun hD10=>?_)
          ·
           refine aH 6 [7,8] (by kernel_rfl) ⟨?_,?_,?_,trivial⟩
           ·
            refine⟨_,rfl,rfl,(ao rfl (aE aA 1 rfl (aF (ag hD7 rfl rfl rfl))))⟩
           ·
            refine⟨_,rfl,rfl,(ao rfl (aE aA 1 rfl (aF (ag hD8 rfl rfl rfl))))⟩
           ·
            refine⟨_,rfl,rfl,(ao rfl (aZ hf rfl rfl rfl aX (aF (ag hD9 rfl rfl rfl))))⟩
          refine aK 5 #[true,true,true,true,true,false,false,false,true,false,false] ⟨109,[(2,.s (.int .i64 (k:Nat))),(7,.sl 6 (l.map evC)),(9,.adr (aL (aG s l))),(10,.sl 1 (bH (aV s l))),(11,.ref 11 0 0 0),(15,.ref 15 0 0 0),(75,.tup [.agg (aL (aG s (l.take k))),.sl 1 (bH (aV s (l.take k)))])],[(15,.box [.s (.int .i64 0),.s (.int .i64 0),.s (.slice none 0 0),.s (.slice none 0 0),.s (.slice none 0 0),.s (.slice none 0 0)]),(11,.box (aL (aG s l))),(8,.box (aL s))]⟩ ?_ (fun hD11=>?_)
          ·
           refine aH 5 [] (by kernel_rfl) ⟨?_,trivial⟩
           ·
            refine⟨_,rfl,rfl,(ao rfl (aE aA 1 rfl (aF (ag hD9 rfl rfl rfl))))⟩
          refine aK 6 #[true,true,true,true,true,false,false,false,false,false,false] ⟨109,[(2,.s (.int .i64 (k:Nat))),(7,.sl 6 (l.map evC)),(9,.adr (aL (aG s l))),(10,.sl 1 (bH (aV s l))),(11,.ref 11 0 0 0),(75,.tup [.agg (aL (aG s (l.take k))),.sl 1 (bH (aV s (l.take k)))])],[(11,.box (aL (aG s l))),(8,.box (aL s))]⟩ ?_ (fun hD12=>?_)
          ·
           refine aH 5 [8] (by kernel_rfl) ⟨?_,?_,trivial⟩
           ·
            refine⟨_,rfl,rfl,(ao rfl (aE aA 1 rfl (aF (ag hD10 rfl rfl rfl))))⟩
           ·
            refine⟨_,rfl,rfl,(ao rfl (aZ hf rfl rfl rfl aX (aF (ag hD11 rfl rfl rfl))))⟩
          refine aK 6 #[true,true,true,true,false,false,false,false,true,false,false] ⟨109,[(2,.s (.int .i64 (k:Nat))),(7,.sl 6 (l.map evC)),(9,.adr (aL (aG s l))),(10,.sl 1 (bH (aV s l))),(11,.ref 11 0 0 0),(15,.ref 15 0 0 0),(71,.agg (aL s)),(74,.sl 6 ((l.take k).map evC))],[(15,.box [.s (.int .i64 0),.s (.int .i64 0),.s (.slice none 0 0),.s (.slice none 0 0),.s (.slice none 0 0),.s (.slice none 0 0)]),(11,.box (aL (aG s l))),(8,.box (aL s))]⟩ ?_ (fun hD13=>?_)
          ·
           refine aH 4 [] (by kernel_rfl) ⟨?_,trivial⟩
           ·
            refine⟨_,rfl,rfl,(ao rfl (aN hf rfl (aP rfl rfl fC rfl (iB s (l.take k) hz hR (by omega) ht1)) (aF (ag hD11 rfl rfl rfl))))⟩
          refine aK 7 #[true,true,true,true,false,false,false,false,false,false,false] ⟨109,[(2,.s (.int .i64 (k:Nat))),(7,.sl 6 (l.map evC)),(9,.adr (aL (aG s l))),(10,.sl 1 (bH (aV s l))),(11,.ref 11 0 0 0),(71,.agg (aL s)),(74,.sl 6 ((l.take k).map evC))],[(11,.box (aL (aG s l))),(8,.box (aL s))]⟩ ?_ (fun hD14=>?_)
          ·
           refine aH 4 [8] (by kernel_rfl) ⟨?_,?_,trivial⟩
           ·
            refine⟨_,rfl,rfl,(ao rfl (aN hf rfl (aP rfl rfl fC rfl (iB s (l.take k) hz hR (by omega) ht1)) (aF (ag hD12 rfl rfl rfl))))⟩
           ·
            refine⟨_,rfl,rfl,(ao rfl (aZ hf rfl rfl rfl aX (aF (ag hD13 rfl rfl rfl))))⟩
          refine aK 7 #[false,true,true,true,false,false,false,false,true,false,false] ⟨109,[(2,.s (.int .i64 (k:Nat))),(7,.sl 6 (l.map evC)),(8,.ref 8 0 0 0),(9,.adr (aL (aG s l))),(10,.sl 1 (bH (aV s l))),(11,.ref 11 0 0 0),(15,.ref 15 0 0 0),(74,.sl 6 ((l.take k).map evC))],[(15,.box [.s (.int .i64 0),.s (.int .i64 0),.s (.slice none 0 0),.s (.slice none 0 0),.s (.slice none 0 0),.s (.slice none 0 0)]),(11,.box (aL (aG s l))),(8,.box (aL s))]⟩ ?_ (fun hD15=>?_)
          ·
           refine aH 0 [] (by kernel_rfl) ⟨?_,trivial⟩
           ·
            refine⟨_,rfl,rfl,(ao rfl (aE aA 1 rfl (aF (ag hD13 rfl rfl rfl))))⟩
          refine gZ (mQ (sl':=[(2,.s (.int .i64 (k:Nat))),(7,.sl 6 (l.map evC)),(8,.ref 8 0 0 0),(9,.adr (aL (aG s l))),(10,.sl 1 (bH (aV s l))),(11,.ref 11 0 0 0),(74,.sl 6 ((l.take k).map evC))]) (m':=[(11,.box (aL (aG s l))),(8,.box (aL s))]) rfl rfl rfl) (aH 0 [8] (by kernel_rfl) ⟨?_,?_,trivial⟩)
          ·
           refine⟨_,rfl,rfl,(ao rfl (aE aA 1 rfl (aF (ag hD14 rfl rfl rfl))))⟩
          ·
           refine⟨_,rfl,rfl,(ao rfl (aZ hf rfl rfl rfl aX (aF (ag hD15 rfl rfl rfl))))⟩
       refine aK 1 #[true,true,true,true,true,true,true,true,true,true,false] ⟨109,[(2,.s (.int .i64 (k:Nat))),(7,.sl 6 (l.map evC)),(8,.ref 8 0 0 0),(9,.adr (aL (aG s l))),(10,.sl 1 (bH (aV s l))),(11,.ref 11 0 0 0),(60,.sl 1 (bH (aV s (aS s l))))],[(11,.box (aL (aG s l))),(8,.box (aL s))]⟩ ?_ (fun hD1=>?_)
       ·
        refine aH 10 [] (by kernel_rfl) ⟨?_,trivial⟩
        ·
         refine⟨_,rfl,rfl,(ao rfl (aE aA 1 rfl (aF (ag hD0 rfl rfl rfl))))⟩
       refine aK 2 #[true,true,true,true,true,true,true,true,true,false,false] ⟨109,[(2,.s (.int .i64 (k:Nat))),(7,.sl 6 (l.map evC)),(8,.ref 8 0 0 0),(9,.adr (aL (aG s l))),(10,.sl 1 (bH (aV s l))),(11,.ref 11 0 0 0),(59,.agg (aL (aG s l))),(60,.sl 1 (bH (aV s (aS s l))))],[(11,.box [.s (.int .i64 0),.s (.int .i64 0),.s (.slice none 0 0),.s (.slice none 0 0),.s (.slice none 0 0),.s (.slice none 0 0)]),(8,.box (aL s))]⟩ ?_ (fun hD2=>?_)
       ·
        refine aH 9 [] (by kernel_rfl) ⟨?_,trivial⟩
        ·
         refine⟨_,rfl,rfl,(ao rfl (bD hf rfl rfl bS rfl rfl (l1 rfl) (l4 rfl) rfl (aF (ag hD1 rfl rfl rfl))))⟩
       refine aK 2 #[true,true,true,true,true,true,true,false,true,true,false] ⟨109,[(2,.s (.int .i64 (k:Nat))),(7,.sl 6 (l.map evC)),(8,.ref 8 0 0 0),(9,.adr (aL (aG s l))),(10,.sl 1 (bH (aV s l))),(11,.ref 11 0 0 0),(53,.tup [.agg (aL (aG s l)),.sl 1 (bH (aV s (aS s l)))])],[(11,.box (aL (aG s l))),(8,.box (aL s))]⟩ ?_ (fun hD3=>?_)
       ·
        refine aH 7 [] (by kernel_rfl) ⟨?_,trivial⟩
        ·
         refine⟨_,rfl,rfl,(ao rfl (aE aA 1 rfl (aF (ag hD1 rfl rfl rfl))))⟩
       refine aK 3 #[true,true,true,true,true,true,true,true,false,false,false] ⟨109,[(2,.s (.int .i64 (k:Nat))),(7,.sl 6 (l.map evC)),(8,.ref 8 0 0 0),(9,.adr (aL (aG s l))),(10,.sl 1 (bH (aV s l))),(59,.agg (aL (aG s l))),(60,.sl 1 (bH (aV s (aS s l))))],[(8,.box (aL s))]⟩ ?_ (fun hD4=>?_)
       ·
        refine aH 8 [] (by kernel_rfl) ⟨?_,trivial⟩
        ·
         refine⟨_,rfl,rfl,(ao rfl (aZ hf rfl rfl rfl aX (aF (ag hD2 rfl rfl rfl))))⟩
       refine aK 3 #[true,true,true,true,true,true,true,false,true,false,false] ⟨109,[(2,.s (.int .i64 (k:Nat))),(7,.sl 6 (l.map evC)),(8,.ref 8 0 0 0),(9,.adr (aL (aG s l))),(10,.sl 1 (bH (aV s l))),(11,.ref 11 0 0 0),(53,.tup [.agg (aL (aG s l)),.sl 1 (bH (aV s (aS s l)))]),(59,.agg (aL (aG s l)))],[(11,.box [.s (.int .i64 0),.s (.int .i64 0),.s (.slice none 0 0),.s (.slice none 0 0),.s (.slice none 0 0),.s (.slice none 0 0)]),(8,.box (aL s))]⟩ ?_ (fun hD5=>?_)
       ·
        refine aH 7 [9] (by kernel_rfl) ⟨?_,?_,trivial⟩
        ·
         refine⟨_,rfl,rfl,(ao rfl (aE aA 1 rfl (aF (ag hD2 rfl rfl rfl))))⟩
        ·
         refine⟨_,rfl,rfl,(ao rfl (bD hf rfl rfl bS rfl rfl (l1 rfl) (l4 rfl) rfl (aF (ag hD3 rfl rfl rfl))))⟩
       refine aK 3 #[true,true,true,true,true,true,false,true,true,false,false] ⟨109,[(2,.s (.int .i64 (k:Nat))),(7,.sl 6 (l.map evC)),(8,.ref 8 0 0 0),(9,.adr (aL (aG s l))),(10,.sl 1 (bH (aV s l))),(11,.ref 11 0 0 0),(53,.tup [.agg (aL (aG s l)),.sl 1 (bH (aV s (aS s l)))]),(60,.sl 1 (bH (aV s (aS s l))))],[(11,.box [.s (.int .i64 0),.s (.int .i64 0),.s (.slice none 0 0),.s (.slice none 0 0),.s (.slice none 0 0),.s (.slice none 0 0)]),(8,.box (aL s))]⟩ ?_ (fun hD6=>?_)
       ·
        refine aH 6 [] (by kernel_rfl) ⟨?_,trivial⟩
        ·
         refine⟨_,rfl,rfl,(ao rfl (aE aA 1 rfl (aF (ag hD2 rfl rfl rfl))))⟩
       refine aK 4 #[true,true,true,true,true,true,true,false,false,false,false] ⟨109,[(2,.s (.int .i64 (k:Nat))),(7,.sl 6 (l.map evC)),(8,.ref 8 0 0 0),(9,.adr (aL (aG s l))),(10,.sl 1 (bH (aV s l))),(53,.tup [.agg (aL (aG s l)),.sl 1 (bH (aV s (aS s l)))]),(59,.agg (aL (aG s l)))],[(8,.box (aL s))]⟩ ?_ (fun hD7=>?_)
       ·
        refine aH 7 [8] (by kernel_rfl) ⟨?_,?_,trivial⟩
        ·
         refine⟨_,rfl,rfl,(ao rfl (aE aA 1 rfl (aF (ag hD4 rfl rfl rfl))))⟩
        ·
         refine⟨_,rfl,rfl,(ao rfl (aZ hf rfl rfl rfl aX (aF (ag hD5 rfl rfl rfl))))⟩
       refine aK 4 #[true,true,true,true,true,true,false,true,false,false,false] ⟨109,[(2,.s (.int .i64 (k:Nat))),(7,.sl 6 (l.map evC)),(8,.ref 8 0 0 0),(9,.adr (aL (aG s l))),(10,.sl 1 (bH (aV s l))),(53,.tup [.agg (aL (aG s l)),.sl 1 (bH (aV s (aS s l)))]),(60,.sl 1 (bH (aV s (aS s l))))],[(8,.box (aL s))]⟩ ?_ (fun hD8=>?_)
       ·
        refine aH 6 [8] (by kernel_rfl) ⟨?_,?_,trivial⟩
        ·
         refine⟨_,rfl,rfl,(ao rfl (aE aA 1 rfl (aF (ag hD4 rfl rfl rfl))))⟩
        ·
         refine⟨_,rfl,rfl,(ao rfl (aZ hf rfl rfl rfl aX (aF (ag hD6 rfl rfl rfl))))⟩
       refine aK 4 #[true,true,true,true,true,true,false,false,true,false,false] ⟨109,[(2,.s (.int .i64 (k:Nat))),(7,.sl 6 (l.map evC)),(8,.ref 8 0 0 0),(9,.adr (aL (aG s l))),(10,.sl 1 (bH (aV s l))),(11,.ref 11 0 0 0),(53,.tup [.agg (aL (aG s l)),.sl 1 (bH (aV s (aS s l)))])],[(11,.box [.s (.int .i64 0),.s (.int .i64 0),.s (.slice none 0 0),.s (.slice none 0 0),.s (.slice none 0 0),.s (.slice none 0 0)]),(8,.box (aL s))]⟩ ?_ (fun hD9=>?_)
       ·
        refine aH 6 [7] (by kernel_rfl) ⟨?_,?_,trivial⟩
        ·
         refine⟨_,rfl,rfl,(ao rfl (aE aA 1 rfl (aF (ag hD5 rfl rfl rfl))))⟩
        ·
         refine⟨_,rfl,rfl,(ao rfl (aE aA 1 rfl (aF (ag hD6 rfl rfl rfl))))⟩
       refine aK 5 #[true,true,true,true,true,true,false,false,false,false,false] ⟨109,[(2,.s (.int .i64 (k:Nat))),(7,.sl 6 (l.map evC)),(8,.ref 8 0 0 0),(9,.adr (aL (aG s l))),(10,.sl 1 (bH (aV s l))),(53,.tup [.agg (aL (aG s l)),.sl 1 (bH (aV s (aS s l)))])],[(8,.box (aL s))]⟩ ?_ (fun hD10=>?_)
       ·
        refine aH 6 [7,8] (by kernel_rfl) ⟨?_,?_,?_,trivial⟩
        ·
         refine⟨_,rfl,rfl,(ao rfl (aE aA 1 rfl (aF (ag hD7 rfl rfl rfl))))⟩
        ·
         refine⟨_,rfl,rfl,(ao rfl (aE aA 1 rfl (aF (ag hD8 rfl rfl rfl))))⟩
        ·
         refine⟨_,rfl,rfl,(ao rfl (aZ hf rfl rfl rfl aX (aF (ag hD9 rfl rfl rfl))))⟩
       refine aK 5 #[true,true,true,true,true,false,false,false,true,false,false] ⟨109,[(2,.s (.int .i64 (k:Nat))),(7,.sl 6 (l.map evC)),(8,.ref 8 0 0 0),(9,.adr (aL (aG s l))),(10,.sl 1 (bH (aV s l))),(11,.ref 11 0 0 0),(58,.tup [.agg (aL (aG s l)),.sl 1 (bH (aV s (aS s l)))])],[(11,.box [.s (.int .i64 0),.s (.int .i64 0),.s (.slice none 0 0),.s (.slice none 0 0),.s (.slice none 0 0),.s (.slice none 0 0)]),(8,.box (aL s))]⟩ ?_ (fun hD11=>?_)
       ·
        refine aH 5 [] (by kernel_rfl) ⟨?_,trivial⟩
        ·
         refine⟨_,rfl,rfl,(ao rfl (aE aA 1 rfl (aF (ag hD9 rfl rfl rfl))))⟩
       refine aK 6 #[true,true,true,true,true,false,false,false,false,false,false] ⟨109,[(2,.s (.int .i64 (k:Nat))),(7,.sl 6 (l.map evC)),(8,.ref 8 0 0 0),(9,.adr (aL (aG s l))),(10,.sl 1 (bH (aV s l))),(58,.tup [.agg (aL (aG s l)),.sl 1 (bH (aV s (aS s l)))])],[(8,.box (aL s))]⟩ ?_ (fun hD12=>?_)
       ·
        refine aH 5 [8] (by kernel_rfl) ⟨?_,?_,trivial⟩
        ·
         refine⟨_,rfl,rfl,(ao rfl (aE aA 1 rfl (aF (ag hD10 rfl rfl rfl))))⟩
        ·
         refine⟨_,rfl,rfl,(ao rfl (aZ hf rfl rfl rfl aX (aF (ag hD11 rfl rfl rfl))))⟩
       refine aK 6 #[true,true,true,true,false,false,false,false,true,false,false] ⟨109,[(2,.s (.int .i64 (k:Nat))),(7,.sl 6 (l.map evC)),(8,.ref 8 0 0 0),(9,.adr (aL (aG s l))),(10,.sl 1 (bH (aV s l))),(11,.ref 11 0 0 0),(54,.agg (aL s)),(57,.sl 6 ((aS s l).map evC))],[(11,.box [.s (.int .i64 0),.s (.int .i64 0),.s (.slice none 0 0),.s (.slice none 0 0),.s (.slice none 0 0),.s (.slice none 0 0)]),(8,.box (aL s))]⟩ ?_ (fun hD13=>?_)
       ·
        refine aH 4 [] (by kernel_rfl) ⟨?_,trivial⟩
        ·
         refine⟨_,rfl,rfl,(ao rfl (aN hf rfl (aP rfl rfl fC rfl ((show Den Tryz.prog _ _ (·=.tup [.agg (aL (aG s l)),.sl 1 (bH (aV s (aS s l)))]) from fH (iB s (aS s l) hz hR (by omega) htT) (by rw[hFT])))) ?_))⟩
         refine aF (ag hD11 rfl rfl rfl)
       refine aK 7 #[true,true,true,true,false,false,false,false,false,false,false] ⟨109,[(2,.s (.int .i64 (k:Nat))),(7,.sl 6 (l.map evC)),(8,.ref 8 0 0 0),(9,.adr (aL (aG s l))),(10,.sl 1 (bH (aV s l))),(54,.agg (aL s)),(57,.sl 6 ((aS s l).map evC))],[(8,.box (aL s))]⟩ ?_ (fun hD14=>?_)
       ·
        refine aH 4 [8] (by kernel_rfl) ⟨?_,?_,trivial⟩
        ·
         refine⟨_,rfl,rfl,(ao rfl (aN hf rfl (aP rfl rfl fC rfl ((show Den Tryz.prog _ _ (·=.tup [.agg (aL (aG s l)),.sl 1 (bH (aV s (aS s l)))]) from fH (iB s (aS s l) hz hR (by omega) htT) (by rw[hFT])))) ?_))⟩
         refine aF (ag hD12 rfl rfl rfl)
        ·
         refine⟨_,rfl,rfl,(ao rfl (aZ hf rfl rfl rfl aX (aF (ag hD13 rfl rfl rfl))))⟩
       refine aK 7 #[true,true,true,false,false,false,false,false,true,false,false] ⟨109,[(2,.s (.int .i64 (k:Nat))),(7,.sl 6 (l.map evC)),(8,.ref 8 0 0 0),(9,.adr (aL (aG s l))),(10,.sl 1 (bH (aV s l))),(11,.ref 11 0 0 0),(54,.agg (aL s)),(55,.agg (aL s)),(56,.sl 6 (l.map evC))],[(11,.box [.s (.int .i64 0),.s (.int .i64 0),.s (.slice none 0 0),.s (.slice none 0 0),.s (.slice none 0 0),.s (.slice none 0 0)]),(8,.box (aL s))]⟩ ?_ (fun hD15=>?_)
       ·
        refine aH 3 [] (by kernel_rfl) ⟨?_,trivial⟩
        ·
         refine⟨_,rfl,rfl,(ao rfl (aN hf rfl (aP rfl rfl nP rfl (pA s l hz hR hl60 ht)) (aF (ag hD13 rfl rfl rfl))))⟩
       refine aK 7 #[false,true,true,true,false,false,false,false,true,false,false] ⟨109,[(2,.s (.int .i64 (k:Nat))),(7,.sl 6 (l.map evC)),(8,.ref 8 0 0 0),(9,.adr (aL (aG s l))),(10,.sl 1 (bH (aV s l))),(11,.ref 11 0 0 0),(57,.sl 6 ((aS s l).map evC))],[(11,.box [.s (.int .i64 0),.s (.int .i64 0),.s (.slice none 0 0),.s (.slice none 0 0),.s (.slice none 0 0),.s (.slice none 0 0)]),(8,.box (aL s))]⟩ ?_ (fun hD16=>?_)
       ·
        refine aH 0 [] (by kernel_rfl) ⟨?_,trivial⟩
        ·
         refine⟨_,rfl,rfl,(ao rfl (aE aA 1 rfl (aF (ag hD13 rfl rfl rfl))))⟩
       refine aK 8 #[true,true,true,false,false,false,false,false,false,false,false] ⟨109,[(2,.s (.int .i64 (k:Nat))),(7,.sl 6 (l.map evC)),(8,.ref 8 0 0 0),(9,.adr (aL (aG s l))),(10,.sl 1 (bH (aV s l))),(54,.agg (aL s)),(55,.agg (aL s)),(56,.sl 6 (l.map evC))],[(8,.box (aL s))]⟩ ?_ (fun hD17=>?_)
       ·
        refine aH 3 [8] (by kernel_rfl) ⟨?_,?_,trivial⟩
        ·
         refine⟨_,rfl,rfl,(ao rfl (aN hf rfl (aP rfl rfl nP rfl (pA s l hz hR hl60 ht)) (aF (ag hD14 rfl rfl rfl))))⟩
        ·
         refine⟨_,rfl,rfl,(ao rfl (aZ hf rfl rfl rfl aX (aF (ag hD15 rfl rfl rfl))))⟩
       refine aK 8 #[true,false,true,false,false,false,false,false,true,false,false] ⟨109,[(2,.s (.int .i64 (k:Nat))),(7,.sl 6 (l.map evC)),(8,.ref 8 0 0 0),(9,.adr (aL (aG s l))),(10,.sl 1 (bH (aV s l))),(11,.ref 11 0 0 0),(54,.agg (aL s)),(56,.sl 6 (l.map evC))],[(11,.box [.s (.int .i64 0),.s (.int .i64 0),.s (.slice none 0 0),.s (.slice none 0 0),.s (.slice none 0 0),.s (.slice none 0 0)]),(8,.box (aL s))]⟩ ?_ (fun hD18=>?_)
       ·
        refine aH 1 [] (by kernel_rfl) ⟨?_,trivial⟩
        ·
         refine⟨_,rfl,rfl,(ao rfl (aE aA 1 rfl (aF (ag hD15 rfl rfl rfl))))⟩
       refine aK 8 #[false,true,true,true,false,false,false,false,false,false,false] ⟨109,[(2,.s (.int .i64 (k:Nat))),(7,.sl 6 (l.map evC)),(8,.ref 8 0 0 0),(9,.adr (aL (aG s l))),(10,.sl 1 (bH (aV s l))),(57,.sl 6 ((aS s l).map evC))],[(8,.box (aL s))]⟩ ?_ (fun hD19=>?_)
       ·
        refine aH 0 [8] (by kernel_rfl) ⟨?_,?_,trivial⟩
        ·
         refine⟨_,rfl,rfl,(ao rfl (aE aA 1 rfl (aF (ag hD14 rfl rfl rfl))))⟩
        ·
         refine⟨_,rfl,rfl,(ao rfl (aZ hf rfl rfl rfl aX (aF (ag hD16 rfl rfl rfl))))⟩
       refine aK 8 #[false,true,true,false,false,false,false,false,true,false,false] ⟨109,[(2,.s (.int .i64 (k:Nat))),(7,.sl 6 (l.map evC)),(8,.ref 8 0 0 0),(9,.adr (aL (aG s l))),(10,.sl 1 (bH (aV s l))),(11,.ref 11 0 0 0),(55,.agg (aL s)),(56,.sl 6 (l.map evC))],[(11,.box [.s (.int .i64 0),.s (.int .i64 0),.s (.slice none 0 0),.s (.slice none 0 0),.s (.slice none 0 0),.s (.slice none 0 0)]),(8,.box (aL s))]⟩ ?_ (fun hD20=>?_)
       ·
        refine aH 0 [3] (by kernel_rfl) ⟨?_,?_,trivial⟩
        ·
         refine⟨_,rfl,rfl,(ao rfl (aE aA 1 rfl (aF (ag hD15 rfl rfl rfl))))⟩
        ·
         refine⟨_,rfl,rfl,(ao rfl (aN hf rfl (aP rfl rfl nP rfl (pA s l hz hR hl60 ht)) (aF (ag hD16 rfl rfl rfl))))⟩
       refine aK 9 #[true,false,true,false,false,false,false,false,false,false,false] ⟨109,[(2,.s (.int .i64 (k:Nat))),(7,.sl 6 (l.map evC)),(8,.ref 8 0 0 0),(9,.adr (aL (aG s l))),(10,.sl 1 (bH (aV s l))),(54,.agg (aL s)),(56,.sl 6 (l.map evC))],[(8,.box (aL s))]⟩ ?_ (fun hD21=>?_)
       ·
        refine aH 1 [8] (by kernel_rfl) ⟨?_,?_,trivial⟩
        ·
         refine⟨_,rfl,rfl,(ao rfl (aE aA 1 rfl (aF (ag hD17 rfl rfl rfl))))⟩
        ·
         refine⟨_,rfl,rfl,(ao rfl (aZ hf rfl rfl rfl aX (aF (ag hD18 rfl rfl rfl))))⟩
       refine aK 9 #[false,true,true,false,false,false,false,false,false,false,false] ⟨109,[(2,.s (.int .i64 (k:Nat))),(7,.sl 6 (l.map evC)),(8,.ref 8 0 0 0),(9,.adr (aL (aG s l))),(10,.sl 1 (bH (aV s l))),(55,.agg (aL s)),(56,.sl 6 (l.map evC))],[(8,.box (aL s))]⟩ ?_ (fun hD22=>?_)
       ·
        refine aH 0 [3,8] (by kernel_rfl) ⟨?_,?_,?_,trivial⟩
        ·
         refine⟨_,rfl,rfl,(ao rfl (aE aA 1 rfl (aF (ag hD17 rfl rfl rfl))))⟩
        ·
         refine⟨_,rfl,rfl,(ao rfl (aN hf rfl (aP rfl rfl nP rfl (pA s l hz hR hl60 ht)) (aF (ag hD19 rfl rfl rfl))))⟩
        ·
         refine⟨_,rfl,rfl,(ao rfl (aZ hf rfl rfl rfl aX (aF (ag hD20 rfl rfl rfl))))⟩
       refine aK 9 #[false,false,true,false,false,false,false,false,true,false,false] ⟨109,[(2,.s (.int .i64 (k:Nat))),(7,.sl 6 (l.map evC)),(8,.ref 8 0 0 0),(9,.adr (aL (aG s l))),(10,.sl 1 (bH (aV s l))),(11,.ref 11 0 0 0),(56,.sl 6 (l.map evC))],[(11,.box [.s (.int .i64 0),.s (.int .i64 0),.s (.slice none 0 0),.s (.slice none 0 0),.s (.slice none 0 0),.s (.slice none 0 0)]),(8,.box (aL s))]⟩ ?_ (fun hD23=>?_)
       ·
        refine aH 0 [1] (by kernel_rfl) ⟨?_,?_,trivial⟩
        ·
         refine⟨_,rfl,rfl,(ao rfl (aE aA 1 rfl (aF (ag hD18 rfl rfl rfl))))⟩
        ·
         refine⟨_,rfl,rfl,(ao rfl (aE aA 1 rfl (aF (ag hD20 rfl rfl rfl))))⟩
       refine gZ (mQ (sl':=[(2,.s (.int .i64 (k:Nat))),(7,.sl 6 (l.map evC)),(8,.ref 8 0 0 0),(9,.adr (aL (aG s l))),(10,.sl 1 (bH (aV s l))),(56,.sl 6 (l.map evC))]) (m':=[(8,.box (aL s))]) rfl rfl rfl) (aH 0 [1,8] (by kernel_rfl) ⟨?_,?_,?_,trivial⟩)
       ·
        refine⟨_,rfl,rfl,(ao rfl (aE aA 1 rfl (aF (ag hD21 rfl rfl rfl))))⟩
       ·
        refine⟨_,rfl,rfl,(ao rfl (aE aA 1 rfl (aF (ag hD22 rfl rfl rfl))))⟩
       ·
        refine⟨_,rfl,rfl,(ao rfl (aZ hf rfl rfl rfl aX (aF (ag hD23 rfl rfl rfl))))⟩
      refine aK 1 #[true,true,true,true,true,true,false] ⟨109,[(2,.s (.int .i64 (k:Nat))),(7,.sl 6 (l.map evC)),(8,.ref 8 0 0 0),(46,.agg (aL s))],[(8,.box [.s (.int .i64 0),.s (.int .i64 0),.s (.slice none 0 0),.s (.slice none 0 0),.s (.slice none 0 0),.s (.slice none 0 0)])]⟩ ?_ (fun hD1=>?_)
      ·
       refine aH 6 [] (by kernel_rfl) ⟨?_,trivial⟩
       ·
        refine⟨_,rfl,rfl,(ao rfl (bD hf rfl rfl bS rfl rfl (l1 rfl) (l4 rfl) rfl (aF (ag hD0 rfl rfl rfl))))⟩
      refine aK 2 #[true,true,true,true,true,false,false] ⟨109,[(2,.s (.int .i64 (k:Nat))),(8,.ref 8 0 0 0),(44,.sl 6 (l.map evC)),(46,.agg (aL s))],[(8,.box [.s (.int .i64 0),.s (.int .i64 0),.s (.slice none 0 0),.s (.slice none 0 0),.s (.slice none 0 0),.s (.slice none 0 0)])]⟩ ?_ (fun hD2=>?_)
      ·
       refine aH 5 [] (by kernel_rfl) ⟨?_,trivial⟩
       ·
        refine⟨_,rfl,rfl,(ao rfl (aE aA 1 rfl (aF (ag hD1 rfl rfl rfl))))⟩
      refine aK 3 #[true,true,true,true,false,false,false] ⟨109,[(2,.s (.int .i64 (k:Nat))),(44,.sl 6 (l.map evC)),(46,.agg (aL s))],[]⟩ ?_ (fun hD3=>?_)
      ·
       refine aH 4 [] (by kernel_rfl) ⟨?_,trivial⟩
       ·
        refine⟨_,rfl,rfl,(ao rfl (aZ hf rfl rfl rfl aX (aF (ag hD2 rfl rfl rfl))))⟩
      refine aK 3 #[true,true,true,false,true,false,false] ⟨109,[(2,.s (.int .i64 (k:Nat))),(8,.ref 8 0 0 0),(44,.sl 6 (l.map evC)),(45,.agg (aL s))],[(8,.box [.s (.int .i64 0),.s (.int .i64 0),.s (.slice none 0 0),.s (.slice none 0 0),.s (.slice none 0 0),.s (.slice none 0 0)])]⟩ ?_ (fun hD4=>?_)
      ·
       refine aH 3 [] (by kernel_rfl) ⟨?_,trivial⟩
       ·
        refine⟨_,rfl,rfl,(ao rfl (aN hf rfl (aP rfl rfl xV rfl (newW s hzM)) (aF (ag hD2 rfl rfl rfl))))⟩
      refine aK 4 #[true,true,true,false,false,false,false] ⟨109,[(2,.s (.int .i64 (k:Nat))),(44,.sl 6 (l.map evC)),(45,.agg (aL s))],[]⟩ ?_ (fun hD5=>?_)
      ·
       refine aH 3 [4] (by kernel_rfl) ⟨?_,?_,trivial⟩
       ·
        refine⟨_,rfl,rfl,(ao rfl (aN hf rfl (aP rfl rfl xV rfl (newW s hzM)) (aF (ag hD3 rfl rfl rfl))))⟩
       ·
        refine⟨_,rfl,rfl,(ao rfl (aZ hf rfl rfl rfl aX (aF (ag hD4 rfl rfl rfl))))⟩
      refine aK 4 #[true,true,false,false,true,false,false] ⟨109,[(2,.s (.int .i64 (k:Nat))),(3,.adr (aL s)),(8,.ref 8 0 0 0),(44,.sl 6 (l.map evC))],[(8,.box [.s (.int .i64 0),.s (.int .i64 0),.s (.slice none 0 0),.s (.slice none 0 0),.s (.slice none 0 0),.s (.slice none 0 0)])]⟩ ?_ (fun hD6=>?_)
      ·
       refine aH 2 [] (by kernel_rfl) ⟨?_,trivial⟩
       ·
        refine⟨_,rfl,rfl,(ao rfl (aE aA 1 rfl (aF (ag hD4 rfl rfl rfl))))⟩
      refine aK 4 #[true,false,true,false,true,false,false] ⟨109,[(2,.s (.int .i64 (k:Nat))),(8,.ref 8 0 0 0),(43,.sl 6 (l.map evC)),(45,.agg (aL s))],[(8,.box [.s (.int .i64 0),.s (.int .i64 0),.s (.slice none 0 0),.s (.slice none 0 0),.s (.slice none 0 0),.s (.slice none 0 0)])]⟩ ?_ (fun hD7=>?_)
      ·
       refine aH 1 [] (by kernel_rfl) ⟨?_,trivial⟩
       ·
        refine⟨_,rfl,rfl,(ao rfl (aN hf rfl (aP rfl rfl cO rfl (dA l (by omega))) (aF (ag hD4 rfl rfl rfl))))⟩
      refine aK 5 #[true,true,false,false,false,false,false] ⟨109,[(2,.s (.int .i64 (k:Nat))),(3,.adr (aL s)),(44,.sl 6 (l.map evC))],[]⟩ ?_ (fun hD8=>?_)
      ·
       refine aH 2 [4] (by kernel_rfl) ⟨?_,?_,trivial⟩
       ·
        refine⟨_,rfl,rfl,(ao rfl (aE aA 1 rfl (aF (ag hD5 rfl rfl rfl))))⟩
       ·
        refine⟨_,rfl,rfl,(ao rfl (aZ hf rfl rfl rfl aX (aF (ag hD6 rfl rfl rfl))))⟩
      refine aK 5 #[true,false,true,false,false,false,false] ⟨109,[(2,.s (.int .i64 (k:Nat))),(43,.sl 6 (l.map evC)),(45,.agg (aL s))],[]⟩ ?_ (fun hD9=>?_)
      ·
       refine aH 1 [4] (by kernel_rfl) ⟨?_,?_,trivial⟩
       ·
        refine⟨_,rfl,rfl,(ao rfl (aN hf rfl (aP rfl rfl cO rfl (dA l (by omega))) (aF (ag hD5 rfl rfl rfl))))⟩
       ·
        refine⟨_,rfl,rfl,(ao rfl (aZ hf rfl rfl rfl aX (aF (ag hD7 rfl rfl rfl))))⟩
      refine aK 5 #[true,false,false,false,true,false,false] ⟨109,[(2,.s (.int .i64 (k:Nat))),(3,.adr (aL s)),(8,.ref 8 0 0 0),(43,.sl 6 (l.map evC))],[(8,.box [.s (.int .i64 0),.s (.int .i64 0),.s (.slice none 0 0),.s (.slice none 0 0),.s (.slice none 0 0),.s (.slice none 0 0)])]⟩ ?_ (fun hD10=>?_)
      ·
       refine aH 1 [2] (by kernel_rfl) ⟨?_,?_,trivial⟩
       ·
        refine⟨_,rfl,rfl,(ao rfl (aN hf rfl (aP rfl rfl cO rfl (dA l (by omega))) (aF (ag hD6 rfl rfl rfl))))⟩
       ·
        refine⟨_,rfl,rfl,(ao rfl (aE aA 1 rfl (aF (ag hD7 rfl rfl rfl))))⟩
      refine gZ (mQ (sl':=[(2,.s (.int .i64 (k:Nat))),(3,.adr (aL s)),(43,.sl 6 (l.map evC))]) (m':=[]) rfl rfl rfl) (aH 1 [2,4] (by kernel_rfl) ⟨?_,?_,?_,trivial⟩)
      ·
       refine⟨_,rfl,rfl,(ao rfl (aN hf rfl (aP rfl rfl cO rfl (dA l (by omega))) (aF (ag hD8 rfl rfl rfl))))⟩
      ·
       refine⟨_,rfl,rfl,(ao rfl (aE aA 1 rfl (aF (ag hD9 rfl rfl rfl))))⟩
      ·
       refine⟨_,rfl,rfl,(ao rfl (aZ hf rfl rfl rfl aX (aF (ag hD10 rfl rfl rfl))))⟩
    ·
     simp only[bs] at hg4
     refine aE aA 4 rfl (aD (hK3 _ (bP rfl (aC (fun K18 hK18=>(aB (aN hf rfl (aP rfl rfl iJ rfl (gS)) (aE aA 1 rfl (aD (hK18 _ (aM ?_)))))))))))
     refine⟨_,rfl,?_⟩
     rfl
   ·
    simp only[bs] at hg3
    refine aE aA 8 rfl (aD (hK3 _ (bP rfl (aC (fun K19 hK19=>(aB (aN hf rfl (aP rfl rfl iJ rfl (gS)) (aE aA 1 rfl (aD (hK19 _ (aM ?_)))))))))))
    refine⟨_,rfl,?_⟩
    rfl
  ·
   simp only[bs] at hg2
   refine aE aA 13 rfl (aD (hK3 _ (bP rfl (aC (fun K20 hK20=>(aB (aN hf rfl (aP rfl rfl iJ rfl (gS)) (aE aA 1 rfl (aD (hK20 _ (aM ?_)))))))))))
   refine⟨_,rfl,?_⟩
   rfl
 ·
  simp only[bs] at hg1
  refine aE aA 18 rfl (aD (hK3 _ (bP rfl (aC (fun K21 hK21=>(aB (aN hf rfl (aP rfl rfl iJ rfl (gS)) (aE aA 1 rfl (aD (hK21 _ (aM ?_)))))))))))
  refine⟨_,rfl,?_⟩
  rfl
end Go.Proofs.YtijnkglkchhomaaGreat
set_option linter.unusedVariables false
set_option linter.unusedSimpArgs false
namespace Go.Proofs.YtijnkglkchhomaaGreat
open Go Go.Abs
end Go.Proofs.YtijnkglkchhomaaGreat
namespace Go.Proofs.YtijnkglkchhomaaGreat
open Go.ChangeShapes Go.WideShapes Go.ChangeAt Go.RowKit Go.Abs
set_option linter.unusedVariables false
theorem own:ownKnob Tryz.prog.godebug=none:=by kernel_rfl
theorem laid:laidOutB Tryz.prog=true:=by kernel_rfl
theorem td3:tdOf? Tryz.prog 16 3=some (.int .i64):=by kernel_rfl
theorem td27:tdOf? Tryz.prog 16 27=some (.agg [.int .i64,.int .i64,.sl 40 (.agg [.int .i64,.str,.int .i64,.int .i64]),.sl 40 (.agg [.str,.sl 32 (.agg [.int .i64,.int .i64,.int .i64,.int .i64])]),.sl 48 (.agg [.str,.str,.int .i64,.int .i64]),.sl 24 (.agg [.str,.int .i64])]):=by kernel_rfl
theorem td28:tdOf? Tryz.prog 16 28=some (.sl 64 (.agg [.int .i64,.int .i64,.str,.str,.int .i64,.int .i64])):=by kernel_rfl
set_option maxRecDepth 100000 in
theorem xJ (H:Type) (enc:TypeId×Value→H) (W:World) (base:Nat) (args:Array Value) (ds gs:List (DataW H)) (before:List MemPlace)
    (hval:∀ (j:Nat) t v,Tryz.f7.params[j]?=some t→args[j]?=some v→Value.okWide Tryz.prog W .any base t v)
    (hW:DataW.Whole enc Tryz.prog Tryz.f7.params.toList Rows.foldAgainSpec.vars false W args.toList ds gs before)
    (hsz:(DataW.weightsEach Tryz.prog (Tryz.f7.params.toList++Rows.foldAgainSpec.plain.varTypes Tryz.prog) (ds++gs)).all (·≤reachBytes)=true) :
    Calls Tryz.prog 7 args W fun e W'=>∃ v,e=.returned v∧Rows.foldAgainSpec.post enc Tryz.prog Tryz.f7 false true false false W args v W':=by
  have hW':=hW
  obtain ⟨p,q,hA0,hV,rfl,hfz,hnd⟩:=hW
  have hA:DataW.TrodAll enc Tryz.prog W 0 (fun _=>true) true Tryz.f7.params.toList args.toList ds p:=hA0
  rw[Tryz.params7] at hA hval
  obtain ⟨v0,vs0,d0,ds0,p0,q0,hargs,rfl,rfl,h0,r0⟩:=trodAll_cons hA
  obtain ⟨v1,vs1,d1,ds1,p1,q1,rfl,rfl,rfl,h1,r1⟩:=trodAll_cons r0
  obtain ⟨v2,vs2,d2,ds2,p2,q2,rfl,rfl,rfl,h2,r2⟩:=trodAll_cons r1
  obtain ⟨rfl,rfl,rfl⟩:=trodAll_nil r2
  obtain rfl:args=#[v0,v1,v2]:=by cases args; simp_all
  obtain ⟨c0,y0,a0⟩:=aP5 td27 zG (hval 0 27 v0 rfl rfl) h0 (lU (i:=0) hsz (by rw[Tryz.params7]; rfl) rfl)
  obtain ⟨s,rfl,hz,ts⟩:=aSo (by simpa only[Ty] using y0)
  obtain ⟨c1,y1,a1⟩:=yK td28 aE8 (hval 1 28 v1 rfl rfl) h1 (lU (i:=1) hsz (by rw[Tryz.params7]; rfl) rfl)
  obtain ⟨l,rfl,_,hl⟩:=aNw y1
  obtain ⟨c2,y2,a2⟩:=yK td3 aQl (hval 2 3 v2 rfl rfl) h2 (lU (i:=2) hsz (by rw[Tryz.params7]; rfl) rfl)
  obtain ⟨t0,rfl,ht0⟩:=aNv y2
  refine(aGb s hz ts l hl t0 (fun _=>False) W [v0,v1,v2] (fun _ h=>h.elim) ⟨rfl,fun i c v hc hv=>?_⟩).mono fun e W' ⟨v,r,he,hr,hE,hv⟩=>?_
  · match i,hc,hv with
    | 0,hc,hv=>cases hc; cases hv; exact a0
    | 1,hc,hv=>cases hc; cases hv; exact a1
    | 2,hc,hv=>cases hc; cases hv; exact a2
  · subst hr
    cases hv
    exact⟨_,he,zS (t:=4) hW' (tG hE) laid (by rw[Tryz.params7]; decide +kernel) rfl (fun _=>rfl) (by kernel_rfl) (by kernel_rfl) Tryz.underlying4⟩
set_option maxRecDepth 100000 in
theorem aAi (os:Os) (started:os.Started) (H:Type) (enc:TypeId×Value→H) (F:Stop.Interp) :
    ReturnsInHanded {} Tryz.checked os 7 .any (Rows.foldAgainSpec.pre6 enc Tryz.prog Tryz.f7 Rows.foldAgainRow.domain false) (Rows.foldAgainSpec.post enc Tryz.prog Tryz.f7 false true false false):=by
  refine returnsInHanded_of_change_sized (C:=Tryz.checked) (s:=Rows.foldAgainSpec) own started (by kernel_rfl) Tryz.func7
    (ChangeSpec.witness6 (enc:=enc) (C:=Tryz.checked) (s:=Rows.foldAgainSpec) false ⟨#[],#[.agg #[.int .i64 0,.int .i64 0,.slice none 0 0,.slice none 0 0,.slice none 0 0,.slice none 0 0],.slice none 0 0,.int .i64 0],[]⟩ 8 (by kernel_rfl) (by kernel_rfl) (by kernel_rfl) (by kernel_rfl)) ?_
  intro W base args ds gs before hval hW _ hsz _
  exact xJ H enc W base args ds gs before hval hW hsz
theorem aIh:(Rows.foldAgainRow.wf (OpenSpec.ofChange Rows.foldAgainSpec)&&laidOutB Tryz.prog&&mapsRowed Tryz.prog)=true:=by kernel_rfl
theorem aIg:(Rows.foldAgainRow.inPlace == Tryz.prog.inPlace 7)=true:=by kernel_rfl
theorem aIf:(Rows.foldAgainRow.unfollowed == Tryz.prog.unfollowed 7)=true:=by kernel_rfl
theorem aIe:(Rows.foldAgainRow.recurses == Tryz.prog.recurses 7)=true:=by kernel_rfl
theorem aId:(Rows.foldAgainRow.named == Tryz.prog.varsNamed 7)=true:=by kernel_rfl
theorem aAj:joinedFacts Tryz.prog 7 Tryz.f7 Rows.foldAgainSpec Rows.foldAgainRow=true:=by
  have h0:=aIh
  simp only[Bool.and_eq_true] at h0
  obtain ⟨⟨h5,h6⟩,h7⟩:=h0
  unfold joinedFacts
  repeat (rw[Bool.and_eq_true]; refine And.intro ?_ ?_)
  all_goals with_reducible first | exact aIg | exact aIf | exact aIe | exact aId | exact h5 | exact h6 | exact h7 | kernel_rfl
theorem foldAgain_proved:Rows.FoldAgainSaid :=
  OpenClaim.holds_of_wide 7 Tryz.f7 rfl rfl rfl rfl rfl rfl rfl ⟨rfl,rfl,rfl,rfl,rfl⟩ rfl rfl rfl rfl rfl (by kernel_rfl) Tryz.func7 aAj
    (of_decide_eq_true (by kernel_rfl)) (by unfold Func.isWrapper; first | (rw[if_pos (by decide +kernel)]; kernel_rfl) | (rw[if_neg (by decide +kernel)]; exact⟨rfl,rfl⟩))
    (fun os started H enc _=>aAi os started H enc default)
end Go.Proofs.YtijnkglkchhomaaGreat
