/-
  The law FoldOthers: whatever the state, the events and the user, the call returns true, and all read behind it as they read before. No condition beyond the row's own.
-/
import Derived.Test.YthapfogcaklbbaaGreatRows
import Derived.WalkKit
import Derived.ProofKit
import Derived.OpenShut
import Derived.JoinedCond
import Derived.SizedLaws
import Derived.Test.YthapfogcaklbbaaGreatK1
import Derived.Test.YthapfogcaklbbaaGreatK2
import Derived.Test.YthapfogcaklbbaaGreatK3
import Derived.Test.YthapfogcaklbbaaGreatK4
import Derived.Test.YthapfogcaklbbaaGreatK5
import Derived.Test.YthapfogcaklbbaaGreatK6
set_option maxRecDepth 20000
set_option maxHeartbeats 16000000
set_option linter.unusedVariables false
set_option linter.unusedSimpArgs false
namespace Go.Proofs.YthapfogcaklbbaaGreat
open Go Go.Abs
theorem aNz (s:Sta) (hz:SzS 140737488351232 s) (ts:TsS s) (l:List Ev) (ht:∀ e∈l,TS e.user∧TS e.other) (u:ByteArray) (hu:TS u) :Den Tryz.prog 6 [.agg (aY s),.sl 6 (l.map evC),.s (.string u)]  (·=.s (.bool true)):=by
 have hzM:SzS 140737488353280 s:=hz.mono (by omega)
 refine aU Tryz.func6 rfl (Nat.le_of_ble_eq_true rfl) (fun w0 A hf=>(aC (fun K1 hK1=>(aB (aM hf rfl (cP rfl rfl (lf rfl)) (aE aA 1 rfl (aD (hK1 _ (aC (fun K2 hK2=>(aC (fun K3 hK3=>(aB (aE aA 1 rfl (aM hf rfl (aQ rfl rfl aJf rfl (aId s hzM)) (aE aA 2 rfl ?_))))))))))))))))
 refine aV rfl rfl rfl (fun hg1=>?_) (fun hg1=>?_)
 ·
  simp only[bs] at hg1
  refine aG rfl (gP rfl aAl aHx rfl rfl) ?_
  refine aZ rfl rfl rfl (aM hf rfl (aQ rfl rfl aJe rfl (aA2 s (hz.mono (by omega)) ts)) (aE aA 3 rfl (aV rfl rfl rfl (fun hg2=>?_) (fun hg2=>?_))))
  ·
   simp only[bs] at hg2
   refine aG rfl (gD rfl) (aE aA 4 rfl (aV rfl rfl rfl (fun hg3=>?_) (fun hg3=>?_)))
   ·
    simp only[bs] at hg3
    refine aG rfl (gD rfl) (aZ rfl rfl rfl (aM hf rfl (aQ rfl rfl nI rfl (Nm.refRight_den u hu)) (aE aA 2 rfl (aD (hK3 _ (aK rfl (fun hc4=>?_) (fun hc4=>?_)))))))
    ·
     simp only[bs] at hc4
     refine aC (fun K4 hK4=>(aB (aM hf rfl (aQ rfl rfl nJ rfl (lJ)) (aE aA 1 rfl (aD (hK4 _ (aJ ?_)))))))
     refine⟨_,rfl,?_⟩
     rfl
    ·
     simp only[bs] at hc4
     have hR:RightP s:=oQ.1 (by simp_all)
     have hl40:l.length≤40:=by omega
     have hl60:l.length≤60:=by omega
     have hlW:(aDo u l).length≤l.length:=List.length_filter_le _ _
     have htW:∀ e∈(aDo u l),TS e.user∧TS e.other:=fun e he=>ht e (List.mem_filter.1 he).1
     have hzW:SzS 140737488353280 (fH s (aDo u l)):=(aMq (aDo u l) hz hR).mono (by omega)
     have hRW:RightP (fH s (aDo u l)):=zQ (aDo u l) hR
     have hmo:=aO0 (aDo u l) s
     have hst:=aOa (u:=u) (t:=(fH s (aDo u l)).now) (aDo u l) hR aN5
     refine aN (hK2 _ (aC (fun K5 hK5=>(aB (aE aA 1 rfl (aM hf rfl (aQ rfl rfl aAp rfl (aYv s hzM)) (cC hf rfl bC rfl cF rfl rfl rfl rfl (lf rfl) (aD (hK5 _ (aC (fun K6 hK6=>(eS bI ?_))))))))))))
     refine bK (listed':=#[false,true,false,false,false,false,false,false,false,false,false,false]) 1 rfl (by kernel_rfl) (by kernel_rfl) (by kernel_rfl) rfl (fun _ _ h=>h) (dJ rfl) ?_
     refine bK (listed':=#[false,true,true,false,false,false,false,false,false,false,false,false]) 2 rfl (by kernel_rfl) (by kernel_rfl) (by kernel_rfl) rfl (fun _ _ h=>h) (dJ rfl) ?_
     refine aR 0 #[true,true,true,true,true,true,true,true,true,true,true,true] ⟨62,[(2,.s (.string u)),(3,.adr (aY s)),(8,.ref 8 0 0 0)],[(8,.box (aY (fH s (aDo u l))))]⟩ ?_ (fun hD0=>?_)
     ·
      refine dC (by kernel_rfl) ?_
      refine hK6 _ (aC (fun K7 hK7=>(eB hf bI (by kernel_rfl) rfl (bT [] rfl rfl trivial rfl (aQ rfl rfl nJ rfl (lJ)) (aX aA 5 rfl (bL [(43,_),(45,_)] rfl rfl ⟨⟨rfl,rfl⟩,⟨rfl,rfl⟩,trivial⟩ rfl (eI rfl rfl (aYs hmo)) (aX aA 6 rfl (bT [(49,_),(50,_),(52,_)] rfl rfl ⟨⟨rfl,rfl⟩,⟨rfl,rfl⟩,⟨rfl,rfl⟩,trivial⟩ rfl (aQ rfl rfl aJc rfl ((show Den Tryz.prog _ _ (·=.sl 4 ((aDz s u (fH s (aDo u l)).now).map stC)) from aC3 (aYu (fH s (aDo u l)) u (fH s (aDo u l)).now hzW hRW) (by rw[hst])))) ?_))))))))
      refine bT [(53,_)] rfl rfl ⟨⟨rfl,rfl⟩,trivial⟩ rfl (aQ rfl rfl aOn rfl (aOg s u (fH s (aDo u l)).now hzM hR)) (aX aA 4 rfl (bT [(55,_),(56,_),(58,_)] rfl rfl ⟨⟨rfl,rfl⟩,⟨rfl,rfl⟩,⟨rfl,rfl⟩,trivial⟩ rfl (aQ rfl rfl aOm rfl (aOw s u (fH s (aDo u l)).now hzM hR)) (bT [(54,_),(59,_)] rfl rfl ⟨⟨rfl,rfl⟩,⟨rfl,rfl⟩,trivial⟩ rfl (aQ rfl rfl aOo rfl (aOf s u (fH s (aDo u l)).now hzM hR)) (aX aA 2 rfl (eE [6] rfl rfl rfl (hK7 _ (aJ ?_)))))))
      refine⟨_,rfl,?_⟩
      rfl
     refine aR 1 #[true,true,true,true,true,true,true,true,true,true,true,false] ⟨62,[(2,.s (.string u)),(3,.adr (aY s)),(8,.ref 8 0 0 0),(39,.sl 1 (oY (fX s (aDo u l))))],[(8,.box (aY (fH s (aDo u l))))]⟩ ?_ (fun hD1=>?_)
     ·
      refine aI 11 [] (by kernel_rfl) ⟨?_,trivial⟩
      ·
       refine⟨_,rfl,rfl,(ao rfl (aE aA 1 rfl (aF (ag hD0 rfl rfl rfl))))⟩
     refine aR 2 #[true,true,true,true,true,true,true,true,true,true,false,false] ⟨62,[(2,.s (.string u)),(3,.adr (aY s)),(8,.ref 8 0 0 0),(38,.agg (aY (fH s (aDo u l)))),(39,.sl 1 (oY (fX s (aDo u l))))],[(8,.box [.s (.int .i64 0),.s (.int .i64 0),.s (.slice none 0 0),.s (.slice none 0 0),.s (.slice none 0 0),.s (.slice none 0 0)])]⟩ ?_ (fun hD2=>?_)
     ·
      refine aI 10 [] (by kernel_rfl) ⟨?_,trivial⟩
      ·
       refine⟨_,rfl,rfl,(ao rfl (aT hf rfl rfl cF rfl rfl (l1 rfl) (l4 rfl) rfl (aF (ag hD1 rfl rfl rfl))))⟩
     refine aR 2 #[true,true,true,true,true,true,true,true,false,true,true,false] ⟨62,[(2,.s (.string u)),(3,.adr (aY s)),(8,.ref 8 0 0 0),(31,.tup [.agg (aY (fH s (aDo u l))),.sl 1 (oY (fX s (aDo u l)))])],[(8,.box (aY (fH s (aDo u l))))]⟩ ?_ (fun hD3=>?_)
     ·
      refine aI 8 [] (by kernel_rfl) ⟨?_,trivial⟩
      ·
       refine⟨_,rfl,rfl,(ao rfl (aE aA 1 rfl (aF (ag hD1 rfl rfl rfl))))⟩
     refine aR 3 #[true,true,true,true,true,true,true,true,true,false,false,false] ⟨62,[(2,.s (.string u)),(3,.adr (aY s)),(38,.agg (aY (fH s (aDo u l)))),(39,.sl 1 (oY (fX s (aDo u l))))],[]⟩ ?_ (fun hD4=>?_)
     ·
      refine aI 9 [] (by kernel_rfl) ⟨?_,trivial⟩
      ·
       refine⟨_,rfl,rfl,(ao rfl (bJ hf rfl rfl rfl bC (aF (ag hD2 rfl rfl rfl))))⟩
     refine aR 3 #[true,true,true,true,true,true,true,true,false,true,false,false] ⟨62,[(2,.s (.string u)),(3,.adr (aY s)),(8,.ref 8 0 0 0),(31,.tup [.agg (aY (fH s (aDo u l))),.sl 1 (oY (fX s (aDo u l)))]),(38,.agg (aY (fH s (aDo u l))))],[(8,.box [.s (.int .i64 0),.s (.int .i64 0),.s (.slice none 0 0),.s (.slice none 0 0),.s (.slice none 0 0),.s (.slice none 0 0)])]⟩ ?_ (fun hD5=>?_)
     ·
      refine aI 8 [10] (by kernel_rfl) ⟨?_,?_,trivial⟩
      ·
       refine⟨_,rfl,rfl,(ao rfl (aE aA 1 rfl (aF (ag hD2 rfl rfl rfl))))⟩
      ·
       refine⟨_,rfl,rfl,(ao rfl (aT hf rfl rfl cF rfl rfl (l1 rfl) (l4 rfl) rfl (aF (ag hD3 rfl rfl rfl))))⟩
     refine aR 3 #[true,true,true,true,true,true,true,false,true,true,false,false] ⟨62,[(2,.s (.string u)),(3,.adr (aY s)),(8,.ref 8 0 0 0),(31,.tup [.agg (aY (fH s (aDo u l))),.sl 1 (oY (fX s (aDo u l)))]),(39,.sl 1 (oY (fX s (aDo u l))))],[(8,.box [.s (.int .i64 0),.s (.int .i64 0),.s (.slice none 0 0),.s (.slice none 0 0),.s (.slice none 0 0),.s (.slice none 0 0)])]⟩ ?_ (fun hD6=>?_)
     ·
      refine aI 7 [] (by kernel_rfl) ⟨?_,trivial⟩
      ·
       refine⟨_,rfl,rfl,(ao rfl (aE aA 1 rfl (aF (ag hD2 rfl rfl rfl))))⟩
     refine aR 4 #[true,true,true,true,true,true,true,true,false,false,false,false] ⟨62,[(2,.s (.string u)),(3,.adr (aY s)),(31,.tup [.agg (aY (fH s (aDo u l))),.sl 1 (oY (fX s (aDo u l)))]),(38,.agg (aY (fH s (aDo u l))))],[]⟩ ?_ (fun hD7=>?_)
     ·
      refine aI 8 [9] (by kernel_rfl) ⟨?_,?_,trivial⟩
      ·
       refine⟨_,rfl,rfl,(ao rfl (aE aA 1 rfl (aF (ag hD4 rfl rfl rfl))))⟩
      ·
       refine⟨_,rfl,rfl,(ao rfl (bJ hf rfl rfl rfl bC (aF (ag hD5 rfl rfl rfl))))⟩
     refine aR 4 #[true,true,true,true,true,true,true,false,true,false,false,false] ⟨62,[(2,.s (.string u)),(3,.adr (aY s)),(31,.tup [.agg (aY (fH s (aDo u l))),.sl 1 (oY (fX s (aDo u l)))]),(39,.sl 1 (oY (fX s (aDo u l))))],[]⟩ ?_ (fun hD8=>?_)
     ·
      refine aI 7 [9] (by kernel_rfl) ⟨?_,?_,trivial⟩
      ·
       refine⟨_,rfl,rfl,(ao rfl (aE aA 1 rfl (aF (ag hD4 rfl rfl rfl))))⟩
      ·
       refine⟨_,rfl,rfl,(ao rfl (bJ hf rfl rfl rfl bC (aF (ag hD6 rfl rfl rfl))))⟩
     refine aR 4 #[true,true,true,true,true,true,true,false,false,true,false,false] ⟨62,[(2,.s (.string u)),(3,.adr (aY s)),(8,.ref 8 0 0 0),(31,.tup [.agg (aY (fH s (aDo u l))),.sl 1 (oY (fX s (aDo u l)))])],[(8,.box [.s (.int .i64 0),.s (.int .i64 0),.s (.slice none 0 0),.s (.slice none 0 0),.s (.slice none 0 0),.s (.slice none 0 0)])]⟩ ?_ (fun hD9=>?_)
     ·
      refine aI 7 [8] (by kernel_rfl) ⟨?_,?_,trivial⟩
      ·
       refine⟨_,rfl,rfl,(ao rfl (aE aA 1 rfl (aF (ag hD5 rfl rfl rfl))))⟩
      ·
       refine⟨_,rfl,rfl,(ao rfl (aE aA 1 rfl (aF (ag hD6 rfl rfl rfl))))⟩
     refine aR 5 #[true,true,true,true,true,true,true,false,false,false,false,false] ⟨62,[(2,.s (.string u)),(3,.adr (aY s)),(31,.tup [.agg (aY (fH s (aDo u l))),.sl 1 (oY (fX s (aDo u l)))])],[]⟩ ?_ (fun hD10=>?_)
     ·
      refine aI 7 [8,9] (by kernel_rfl) ⟨?_,?_,?_,trivial⟩
      ·
       refine⟨_,rfl,rfl,(ao rfl (aE aA 1 rfl (aF (ag hD7 rfl rfl rfl))))⟩
      ·
       refine⟨_,rfl,rfl,(ao rfl (aE aA 1 rfl (aF (ag hD8 rfl rfl rfl))))⟩
      ·
       refine⟨_,rfl,rfl,(ao rfl (bJ hf rfl rfl rfl bC (aF (ag hD9 rfl rfl rfl))))⟩
     refine aR 5 #[true,true,true,true,true,true,false,false,false,true,false,false] ⟨62,[(2,.s (.string u)),(3,.adr (aY s)),(8,.ref 8 0 0 0),(37,.tup [.agg (aY (fH s (aDo u l))),.sl 1 (oY (fX s (aDo u l)))])],[(8,.box [.s (.int .i64 0),.s (.int .i64 0),.s (.slice none 0 0),.s (.slice none 0 0),.s (.slice none 0 0),.s (.slice none 0 0)])]⟩ ?_ (fun hD11=>?_)
     ·
      refine aI 6 [] (by kernel_rfl) ⟨?_,trivial⟩
      ·
       refine⟨_,rfl,rfl,(ao rfl (aE aA 1 rfl (aF (ag hD9 rfl rfl rfl))))⟩
     refine aR 6 #[true,true,true,true,true,true,false,false,false,false,false,false] ⟨62,[(2,.s (.string u)),(3,.adr (aY s)),(37,.tup [.agg (aY (fH s (aDo u l))),.sl 1 (oY (fX s (aDo u l)))])],[]⟩ ?_ (fun hD12=>?_)
     ·
      refine aI 6 [9] (by kernel_rfl) ⟨?_,?_,trivial⟩
      ·
       refine⟨_,rfl,rfl,(ao rfl (aE aA 1 rfl (aF (ag hD10 rfl rfl rfl))))⟩
      ·
       refine⟨_,rfl,rfl,(ao rfl (bJ hf rfl rfl rfl bC (aF (ag hD11 rfl rfl rfl))))⟩
     refine aR 6 #[true,true,true,true,true,false,false,false,false,true,false,false] ⟨62,[(2,.s (.string u)),(3,.adr (aY s)),(8,.ref 8 0 0 0),(32,.agg (aY s)),(36,.sl 6 ((aDo u l).map evC))],[(8,.box [.s (.int .i64 0),.s (.int .i64 0),.s (.slice none 0 0),.s (.slice none 0 0),.s (.slice none 0 0),.s (.slice none 0 0)])]⟩ ?_ (fun hD13=>?_)
     ·
      refine aI 5 [] (by kernel_rfl) ⟨?_,trivial⟩
      ·
       refine⟨_,rfl,rfl,(ao rfl (aM hf rfl (aQ rfl rfl tA rfl (zR s (aDo u l) hz hR (by omega) htW)) (aF (ag hD11 rfl rfl rfl))))⟩
     refine aR 7 #[true,true,true,true,true,false,false,false,false,false,false,false] ⟨62,[(2,.s (.string u)),(3,.adr (aY s)),(32,.agg (aY s)),(36,.sl 6 ((aDo u l).map evC))],[]⟩ ?_ (fun hD14=>?_)
     ·
      refine aI 5 [9] (by kernel_rfl) ⟨?_,?_,trivial⟩
      ·
       refine⟨_,rfl,rfl,(ao rfl (aM hf rfl (aQ rfl rfl tA rfl (zR s (aDo u l) hz hR (by omega) htW)) (aF (ag hD12 rfl rfl rfl))))⟩
      ·
       refine⟨_,rfl,rfl,(ao rfl (bJ hf rfl rfl rfl bC (aF (ag hD13 rfl rfl rfl))))⟩
     refine aR 7 #[true,true,true,true,false,false,false,false,false,true,false,false] ⟨62,[(2,.s (.string u)),(3,.adr (aY s)),(8,.ref 8 0 0 0),(32,.agg (aY s)),(33,.s (.string u)),(35,.sl 6 (l.map evC))],[(8,.box [.s (.int .i64 0),.s (.int .i64 0),.s (.slice none 0 0),.s (.slice none 0 0),.s (.slice none 0 0),.s (.slice none 0 0)])]⟩ ?_ (fun hD15=>?_)
     ·
      refine aI 4 [] (by kernel_rfl) ⟨?_,trivial⟩
      ·
       refine⟨_,rfl,rfl,(ao rfl (aM hf rfl (aQ rfl rfl aJd rfl (aAw l u (by omega))) (aF (ag hD13 rfl rfl rfl))))⟩
     refine aR 7 #[false,true,true,true,true,false,false,false,false,true,false,false] ⟨62,[(2,.s (.string u)),(3,.adr (aY s)),(7,.adr (aY s)),(8,.ref 8 0 0 0),(36,.sl 6 ((aDo u l).map evC))],[(8,.box [.s (.int .i64 0),.s (.int .i64 0),.s (.slice none 0 0),.s (.slice none 0 0),.s (.slice none 0 0),.s (.slice none 0 0)])]⟩ ?_ (fun hD16=>?_)
     ·
      refine aI 0 [] (by kernel_rfl) ⟨?_,trivial⟩
      ·
       refine⟨_,rfl,rfl,(ao rfl (aE aA 1 rfl (aF (ag hD13 rfl rfl rfl))))⟩
     refine aR 8 #[true,true,true,true,false,false,false,false,false,false,false,false] ⟨62,[(2,.s (.string u)),(3,.adr (aY s)),(32,.agg (aY s)),(33,.s (.string u)),(35,.sl 6 (l.map evC))],[]⟩ ?_ (fun hD17=>?_)
     ·
      refine aI 4 [9] (by kernel_rfl) ⟨?_,?_,trivial⟩
      ·
       refine⟨_,rfl,rfl,(ao rfl (aM hf rfl (aQ rfl rfl aJd rfl (aAw l u (by omega))) (aF (ag hD14 rfl rfl rfl))))⟩
      ·
       refine⟨_,rfl,rfl,(ao rfl (bJ hf rfl rfl rfl bC (aF (ag hD15 rfl rfl rfl))))⟩
     refine aR 8 #[true,true,true,false,false,false,false,false,false,true,false,false] ⟨62,[(2,.s (.string u)),(3,.adr (aY s)),(8,.ref 8 0 0 0),(32,.agg (aY s)),(33,.s (.string u)),(34,.sl 6 (l.map evC))],[(8,.box [.s (.int .i64 0),.s (.int .i64 0),.s (.slice none 0 0),.s (.slice none 0 0),.s (.slice none 0 0),.s (.slice none 0 0)])]⟩ ?_ (fun hD18=>?_)
     ·
      refine aI 3 [] (by kernel_rfl) ⟨?_,trivial⟩
      ·
       refine⟨_,rfl,rfl,(ao rfl (aM hf rfl (aQ rfl rfl aAq rfl (aBp _ (by omega))) (aF (ag hD15 rfl rfl rfl))))⟩
     refine aR 8 #[false,true,true,true,true,false,false,false,false,false,false,false] ⟨62,[(2,.s (.string u)),(3,.adr (aY s)),(7,.adr (aY s)),(36,.sl 6 ((aDo u l).map evC))],[]⟩ ?_ (fun hD19=>?_)
     ·
      refine aI 0 [9] (by kernel_rfl) ⟨?_,?_,trivial⟩
      ·
       refine⟨_,rfl,rfl,(ao rfl (aE aA 1 rfl (aF (ag hD14 rfl rfl rfl))))⟩
      ·
       refine⟨_,rfl,rfl,(ao rfl (bJ hf rfl rfl rfl bC (aF (ag hD16 rfl rfl rfl))))⟩
     refine aR 8 #[false,true,true,true,false,false,false,false,false,true,false,false] ⟨62,[(2,.s (.string u)),(3,.adr (aY s)),(7,.adr (aY s)),(8,.ref 8 0 0 0),(33,.s (.string u)),(35,.sl 6 (l.map evC))],[(8,.box [.s (.int .i64 0),.s (.int .i64 0),.s (.slice none 0 0),.s (.slice none 0 0),.s (.slice none 0 0),.s (.slice none 0 0)])]⟩ ?_ (fun hD20=>?_)
     ·
      refine aI 0 [4] (by kernel_rfl) ⟨?_,?_,trivial⟩
      ·
       refine⟨_,rfl,rfl,(ao rfl (aE aA 1 rfl (aF (ag hD15 rfl rfl rfl))))⟩
      ·
       refine⟨_,rfl,rfl,(ao rfl (aM hf rfl (aQ rfl rfl aJd rfl (aAw l u (by omega))) (aF (ag hD16 rfl rfl rfl))))⟩
     refine aR 9 #[true,true,true,false,false,false,false,false,false,false,false,false] ⟨62,[(2,.s (.string u)),(3,.adr (aY s)),(32,.agg (aY s)),(33,.s (.string u)),(34,.sl 6 (l.map evC))],[]⟩ ?_ (fun hD21=>?_)
     ·
      refine aI 3 [9] (by kernel_rfl) ⟨?_,?_,trivial⟩
      ·
       refine⟨_,rfl,rfl,(ao rfl (aM hf rfl (aQ rfl rfl aAq rfl (aBp _ (by omega))) (aF (ag hD17 rfl rfl rfl))))⟩
      ·
       refine⟨_,rfl,rfl,(ao rfl (bJ hf rfl rfl rfl bC (aF (ag hD18 rfl rfl rfl))))⟩
     refine aR 9 #[false,true,true,true,false,false,false,false,false,false,false,false] ⟨62,[(2,.s (.string u)),(3,.adr (aY s)),(7,.adr (aY s)),(33,.s (.string u)),(35,.sl 6 (l.map evC))],[]⟩ ?_ (fun hD22=>?_)
     ·
      refine aI 0 [4,9] (by kernel_rfl) ⟨?_,?_,?_,trivial⟩
      ·
       refine⟨_,rfl,rfl,(ao rfl (aE aA 1 rfl (aF (ag hD17 rfl rfl rfl))))⟩
      ·
       refine⟨_,rfl,rfl,(ao rfl (aM hf rfl (aQ rfl rfl aJd rfl (aAw l u (by omega))) (aF (ag hD19 rfl rfl rfl))))⟩
      ·
       refine⟨_,rfl,rfl,(ao rfl (bJ hf rfl rfl rfl bC (aF (ag hD20 rfl rfl rfl))))⟩
     refine aR 9 #[false,true,true,false,false,false,false,false,false,true,false,false] ⟨62,[(2,.s (.string u)),(3,.adr (aY s)),(7,.adr (aY s)),(8,.ref 8 0 0 0),(33,.s (.string u)),(34,.sl 6 (l.map evC))],[(8,.box [.s (.int .i64 0),.s (.int .i64 0),.s (.slice none 0 0),.s (.slice none 0 0),.s (.slice none 0 0),.s (.slice none 0 0)])]⟩ ?_ (fun hD23=>?_)
     ·
      refine aI 0 [3] (by kernel_rfl) ⟨?_,?_,trivial⟩
      ·
       refine⟨_,rfl,rfl,(ao rfl (aE aA 1 rfl (aF (ag hD18 rfl rfl rfl))))⟩
      ·
       refine⟨_,rfl,rfl,(ao rfl (aM hf rfl (aQ rfl rfl aAq rfl (aBp _ (by omega))) (aF (ag hD20 rfl rfl rfl))))⟩
     refine kZ (aCu (sl':=[(2,.s (.string u)),(3,.adr (aY s)),(7,.adr (aY s)),(33,.s (.string u)),(34,.sl 6 (l.map evC))]) (m':=[]) rfl rfl rfl) (aI 0 [3,9] (by kernel_rfl) ⟨?_,?_,?_,trivial⟩)
     ·
      refine⟨_,rfl,rfl,(ao rfl (aE aA 1 rfl (aF (ag hD21 rfl rfl rfl))))⟩
     ·
      refine⟨_,rfl,rfl,(ao rfl (aM hf rfl (aQ rfl rfl aAq rfl (aBp _ (by omega))) (aF (ag hD22 rfl rfl rfl))))⟩
     ·
      refine⟨_,rfl,rfl,(ao rfl (bJ hf rfl rfl rfl bC (aF (ag hD23 rfl rfl rfl))))⟩
   ·
    simp only[bs] at hg3
    refine aE aA 3 rfl (aD (hK3 _ (bU rfl (aC (fun K8 hK8=>(aB (aM hf rfl (aQ rfl rfl nJ rfl (lJ)) (aE aA 1 rfl (aD (hK8 _ (aJ ?_)))))))))))
    refine⟨_,rfl,?_⟩
    rfl
  ·
   simp only[bs] at hg2
   refine aE aA 8 rfl (aD (hK3 _ (bU rfl (aC (fun K9 hK9=>(aB (aM hf rfl (aQ rfl rfl nJ rfl (lJ)) (aE aA 1 rfl (aD (hK9 _ (aJ ?_)))))))))))
   refine⟨_,rfl,?_⟩
   rfl
 ·
  simp only[bs] at hg1
  refine aE aA 13 rfl (aD (hK3 _ (bU rfl (aC (fun K10 hK10=>(aB (aM hf rfl (aQ rfl rfl nJ rfl (lJ)) (aE aA 1 rfl (aD (hK10 _ (aJ ?_)))))))))))
  refine⟨_,rfl,?_⟩
  rfl
end Go.Proofs.YthapfogcaklbbaaGreat
set_option linter.unusedVariables false
set_option linter.unusedSimpArgs false
namespace Go.Proofs.YthapfogcaklbbaaGreat
open Go Go.Abs
end Go.Proofs.YthapfogcaklbbaaGreat
namespace Go.Proofs.YthapfogcaklbbaaGreat
open Go.ChangeShapes Go.WideShapes Go.ChangeAt Go.RowKit Go.Abs
set_option linter.unusedVariables false
theorem own:ownKnob Tryz.prog.godebug=none:=by kernel_rfl
theorem laid:laidOutB Tryz.prog=true:=by kernel_rfl
theorem td9:tdOf? Tryz.prog 16 9=some (.str):=by kernel_rfl
theorem aYt:tdOf? Tryz.prog 16 27=some (.agg [.int .i64,.int .i64,.sl 40 (.agg [.int .i64,.str,.int .i64,.int .i64]),.sl 40 (.agg [.str,.sl 32 (.agg [.int .i64,.int .i64,.int .i64,.int .i64])]),.sl 48 (.agg [.str,.str,.int .i64,.int .i64]),.sl 24 (.agg [.str,.int .i64])]):=by kernel_rfl
theorem aYp:tdOf? Tryz.prog 16 28=some (.sl 64 (.agg [.int .i64,.int .i64,.str,.str,.int .i64,.int .i64])):=by kernel_rfl
set_option maxRecDepth 100000 in
theorem aNq (H:Type) (enc:TypeId×Value→H) (W:World) (base:Nat) (args:Array Value) (ds gs:List (DataW H)) (before:List MemPlace)
    (hval:∀ (j:Nat) t v,Tryz.f6.params[j]?=some t→args[j]?=some v→Value.okWide Tryz.prog W .any base t v)
    (hW:DataW.Whole enc Tryz.prog Tryz.f6.params.toList Rows.foldOthersSpec.vars false W args.toList ds gs before)
    (hsz:(DataW.weightsEach Tryz.prog (Tryz.f6.params.toList++Rows.foldOthersSpec.plain.varTypes Tryz.prog) (ds++gs)).all (·≤reachBytes)=true) :
    Calls Tryz.prog 6 args W fun e W'=>∃ v,e=.returned v∧Rows.foldOthersSpec.post enc Tryz.prog Tryz.f6 false true false false W args v W':=by
  have hW':=hW
  obtain ⟨p,q,hA0,hV,rfl,hfz,hnd⟩:=hW
  have hA:DataW.TrodAll enc Tryz.prog W 0 (fun _=>true) true Tryz.f6.params.toList args.toList ds p:=hA0
  rw[Tryz.params6] at hA hval
  obtain ⟨v0,vs0,d0,ds0,p0,q0,hargs,rfl,rfl,h0,r0⟩:=trodAll_cons hA
  obtain ⟨v1,vs1,d1,ds1,p1,q1,rfl,rfl,rfl,h1,r1⟩:=trodAll_cons r0
  obtain ⟨v2,vs2,d2,ds2,p2,q2,rfl,rfl,rfl,h2,r2⟩:=trodAll_cons r1
  obtain ⟨rfl,rfl,rfl⟩:=trodAll_nil r2
  obtain rfl:args=#[v0,v1,v2]:=by cases args; simp_all
  obtain ⟨c0,y0,a0⟩:=aYq aYt aAl (hval 0 27 v0 rfl rfl) h0 (aBq (i:=0) hsz (by rw[Tryz.params6]; rfl) rfl)
  obtain ⟨s,rfl,hz,ts⟩:=aYr (by simpa only[Ty] using y0)
  obtain ⟨c1,y1,a1⟩:=aOq aYp aNk (hval 1 28 v1 rfl rfl) h1 (aBq (i:=1) hsz (by rw[Tryz.params6]; rfl) rfl)
  obtain ⟨l,rfl,_,hl⟩:=aYo y1
  obtain ⟨c2,y2,a2⟩:=aOq td9 aOs (hval 2 9 v2 rfl rfl) h2 (aBq (i:=2) hsz (by rw[Tryz.params6]; rfl) rfl)
  obtain ⟨u,rfl,hu⟩:=aO5 y2
  have huT:TS u:=Nat.le_trans hu (by decide)
  refine(aNz s hz ts l hl u huT (fun _=>False) W [v0,v1,v2] (fun _ h=>h.elim) ⟨rfl,fun i c v hc hv=>?_⟩).mono fun e W' ⟨v,r,he,hr,hE,hv⟩=>?_
  · match i,hc,hv with
    | 0,hc,hv=>cases hc; cases hv; exact a0
    | 1,hc,hv=>cases hc; cases hv; exact a1
    | 2,hc,hv=>cases hc; cases hv; exact a2
  · subst hr
    cases hv
    exact⟨_,he,aKg (t:=4) hW' (aC9 hE) laid (by rw[Tryz.params6]; decide +kernel) rfl (fun _=>rfl) (by kernel_rfl) (by kernel_rfl) Tryz.underlying4⟩
set_option maxRecDepth 100000 in
theorem aNs (os:Os) (started:os.Started) (H:Type) (enc:TypeId×Value→H) (F:Stop.Interp) :
    ReturnsInHanded {} Tryz.checked os 6 .any (Rows.foldOthersSpec.pre6 enc Tryz.prog Tryz.f6 Rows.foldOthersRow.domain false) (Rows.foldOthersSpec.post enc Tryz.prog Tryz.f6 false true false false):=by
  refine returnsInHanded_of_change_sized (C:=Tryz.checked) (s:=Rows.foldOthersSpec) own started (by kernel_rfl) Tryz.func6
    (ChangeSpec.witness6 (enc:=enc) (C:=Tryz.checked) (s:=Rows.foldOthersSpec) false ⟨#[],#[.agg #[.int .i64 0,.int .i64 0,.slice none 0 0,.slice none 0 0,.slice none 0 0,.slice none 0 0],.slice none 0 0,.string ⟨#[]⟩],[]⟩ 8 (by kernel_rfl) (by kernel_rfl) (by kernel_rfl) (by kernel_rfl)) ?_
  intro W base args ds gs before hval hW _ hsz _
  exact aNq H enc W base args ds gs before hval hW hsz
theorem aY1:(Rows.foldOthersRow.wf (OpenSpec.ofChange Rows.foldOthersSpec)&&laidOutB Tryz.prog&&mapsRowed Tryz.prog)=true:=by kernel_rfl
theorem aY0:(Rows.foldOthersRow.inPlace == Tryz.prog.inPlace 6)=true:=by kernel_rfl
theorem aYz:(Rows.foldOthersRow.unfollowed == Tryz.prog.unfollowed 6)=true:=by kernel_rfl
theorem aYy:(Rows.foldOthersRow.recurses == Tryz.prog.recurses 6)=true:=by kernel_rfl
theorem aYx:(Rows.foldOthersRow.named == Tryz.prog.varsNamed 6)=true:=by kernel_rfl
theorem hH:joinedFacts Tryz.prog 6 Tryz.f6 Rows.foldOthersSpec Rows.foldOthersRow=true:=by
  have h0:=aY1
  simp only[Bool.and_eq_true] at h0
  obtain ⟨⟨h5,h6⟩,h7⟩:=h0
  unfold joinedFacts
  repeat (rw[Bool.and_eq_true]; refine And.intro ?_ ?_)
  all_goals with_reducible first | exact aY0 | exact aYz | exact aYy | exact aYx | exact h5 | exact h6 | exact h7 | kernel_rfl
theorem foldOthers_proved:Rows.FoldOthersSaid :=
  OpenClaim.holds_of_wide 6 Tryz.f6 rfl rfl rfl rfl rfl rfl rfl ⟨rfl,rfl,rfl,rfl,rfl⟩ rfl rfl rfl rfl rfl (by kernel_rfl) Tryz.func6 hH
    (of_decide_eq_true (by kernel_rfl)) (by unfold Func.isWrapper; first | (rw[if_pos (by decide +kernel)]; kernel_rfl) | (rw[if_neg (by decide +kernel)]; exact⟨rfl,rfl⟩))
    (fun os started H enc _=>aNs os started H enc default)
end Go.Proofs.YthapfogcaklbbaaGreat
