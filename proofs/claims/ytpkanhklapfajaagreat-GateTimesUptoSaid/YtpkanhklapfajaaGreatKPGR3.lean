/-
  The law GateTimes, in its second form: whatever the state, the question and the time, the call returns true, and all read behind it as they read before. Condition: all that is handed over takes no more than 1048576 places, counted each time they are reached.
-/
import Derived.Test.YtpkanhklapfajaaGreatRows
import Derived.WalkKit
import Derived.ProofKit
import Derived.OpenShut
import Derived.JoinedCond
import Derived.SizedLaws
import Derived.Deep.CondSized
import Derived.Test.YtpkanhklapfajaaGreatKP1
import Derived.Test.YtpkanhklapfajaaGreatKP2
import Derived.Test.YtpkanhklapfajaaGreatKP3
import Derived.Test.YtpkanhklapfajaaGreatKP4
import Derived.Test.YtpkanhklapfajaaGreatKP5
import Derived.Test.YtpkanhklapfajaaGreatKP6
set_option maxRecDepth 20000
set_option maxHeartbeats 16000000
set_option linter.unusedVariables false
set_option linter.unusedSimpArgs false
namespace Go.Proofs.YtpkanhklapfajaaGreat
open Go Go.Abs
end Go.Proofs.YtpkanhklapfajaaGreat
set_option linter.unusedVariables false
set_option linter.unusedSimpArgs false
namespace Go.Proofs.YtpkanhklapfajaaGreat
open Go Go.Abs
theorem aFj (s:Sta) (hz:SzS 140737488351232 s) (ts:TsS s) (hc:fG s+s.usr.length≤1048576) (p:Pr) (q:Sp) (t:Int) (h1:TS p.1) (h2:TS p.2) (a:Int) :Den Tryz.prog 5 [.agg (bJ s),.agg (zR p q t),.s (.int .i64 a)]  (·=.s (.bool true)):=by
 have hzM:SzS 140737488353280 s:=hz.mono (by omega)
 have hmi:=wE hc
 refine aR Tryz.func5 rfl (Nat.le_of_ble_eq_true rfl) (fun w0 A hf=>(aC (fun K1 hK1=>(aB (aJ hf rfl (cE rfl rfl (lf rfl)) (aJ hf rfl (cE rfl rfl (lf rfl)) (aE aA 1 rfl (aD (hK1 _ (aC (fun K2 hK2=>(aC (fun K3 hK3=>(aB (aE aA 1 rfl (aJ hf rfl (aO rfl rfl wX rfl (wF s hzM)) ?_))))))))))))))))
 refine aE aA 2 rfl (aW rfl rfl rfl (fun hg1=>?_) (fun hg1=>?_))
 ·
  simp only[bs] at hg1
  refine aG rfl (aB1 rfl rQ aE1 rfl rfl) ?_
  refine bE rfl rfl rfl (aJ hf rfl (aO rfl rfl wW rfl (qL s (hz.mono (by omega)) ts)) (aE aA 2 rfl (aD (hK3 _ (aK rfl (fun hc2=>?_) (fun hc2=>?_))))))
  ·
   simp only[bs] at hc2
   refine aC (fun K4 hK4=>(aB (aJ hf rfl (aO rfl rfl fQ rfl (eX)) (aE aA 1 rfl (aD (hK4 _ (aI ?_)))))))
   refine⟨_,rfl,?_⟩
   rfl
  ·
   simp only[bs] at hc2
   have hR:RightP s:=mR.1 (by simp_all)
   have hcn:fG s≤100:=by omega
   have hs:∀ t,(dN s p.2 t).length≤102:=fun t=>by have:=tD hR p.2 t; omega
   have hb:s.sub.length≤101:=by unfold fG at hcn; omega
   have hrl:∀ q t,(fU s p q t).length≤100000:=fun q t=>qW (hs t) hb
   have hr1:=hrl q t
   have hs1:=hs t
   refine aL (hK2 _ (aC (fun K5 hK5=>(cU hf bF (by kernel_rfl) rfl (aT aA 1 rfl (bL [(26,_)] rfl rfl ⟨⟨rfl,rfl⟩,trivial⟩ rfl (aO rfl rfl sR rfl (newW s hzM)) (aT aA 1 rfl (bL [(28,_)] rfl rfl ⟨⟨rfl,rfl⟩,trivial⟩ rfl (aO rfl rfl aEz rfl (aGb p q t)) (bL [(27,_),(29,_)] rfl rfl ⟨⟨rfl,rfl⟩,⟨rfl,rfl⟩,trivial⟩ rfl (aO rfl rfl nA rfl (lM s p q t h1 h2 hzM hR (hs t) hb)) (aT aA 5 rfl (cY [2,3,4,7,8] rfl rfl rfl (hK5 _ (aC (fun K6 hK6=>?_))))))))))))))
   refine aC (fun K7 hK7=>(aB (aE aA 2 rfl (aD (hK7 _ (aK rfl (fun hc3=>?_) (fun hc3=>?_)))))))
   ·
    simp only[bs] at hc3
    refine aC (fun K8 hK8=>(aB (aJ hf rfl (aO rfl rfl fQ rfl (eX)) (aE aA 3 rfl (bE rfl rfl rfl (aG rfl (eN rfl rfl (iF (by rw[List.length_map,xI (by simp_all)]; rfl))) ?_))))))
    refine aE aA 2 rfl (aD (hK8 _ (aI ?_)))
    refine⟨_,rfl,?_⟩
    rfl
   ·
    simp only[bs] at hc3
    have h0:lY s p t=0:=by simp_all
    have hta:=aQs (s:=s) (p:=p) (q:=q) (now:=t) (t:=a) h0
    have hcl:∀ (l:List bC) (k:Nat),kF (l.take k) a≤k:=fun l k=>Nat.le_trans (cnt_le _ a) (by rw[List.length_take]; omega)
    refine aL (hK6 _ (aC (fun K9 hK9=>(aB (aE aA 2 rfl (aD (hK9 _ (aC (fun K10 hK10=>(aC (fun K11 hK11=>(aB (aE aA 3 rfl (aD (hK11 _ ?_)))))))))))))))
    refine aM (bM (ι:=Nat) (fun k=>⟨125,[(2,.s (.int .i64 a)),(3,.adr (bJ s)),(4,.adr (zR p q t)),(9,.s (.int .i64 ((kF ((fU s p q t).take k) a:Nat):Int))),(10,.s (.int .i64 0)),(41,.sl 4 (((fU s p q t)).map stC)),(42,.s (.int .i64 (((fU s p q t).map stC).length:Nat))),(43,.s (.int .i64 (k:Nat)))],[]⟩) (fun k=>k≤(fU s p q t).length) (fun k=>(fU s p q t).length - k) 0 ?_ ?_ ?_)
    · exact Nat.zero_le _
    · exact aDq rfl rfl rfl
    ·
     rintro k hC
     refine aC (fun K12 hK12=>(aB (aE aA 1 rfl (aD (hK12 _ (aC (fun K13 hK13=>(aK rfl (fun hc4=>?_) (fun hc4=>?_)))))))))
     ·
      simp only[bs] at hc4
      have hk:k<(fU s p q t).length:=by omega
      have hck:=hcl (fU s p q t) k
      refine aL (hK13 _ (aC (fun K14 hK14=>(aM (aC (fun K15 hK15=>(aB ?_)))))))
      refine aG rfl (aY rfl rfl cB bA (by first | exact ixm (by omega) | assumption | exact⟨by decide,rfl⟩)) ?_
      refine aE aA 1 rfl (cA hf rfl eE rfl bA rfl rfl rfl rfl (lf rfl) (aD (hK15 _ (aC (fun K16 hK16=>(aB (aE aA 3 rfl (aJ hf rfl (aO rfl rfl aEw rfl (aQa (fU s p q t)[k].1 a)) (aD (hK16 _ (aK rfl (fun hc5=>?_) (fun hc5=>?_))))))))))))
      ·
       simp only[bs] at hc5
       refine aB (aE aA 1 rfl ?_)
       refine aG rfl (bK rfl rfl (by omega) (by omega)) ?_
       refine aE aA 1 rfl ?_
       refine bH ?_
       refine hK14 _ (aB ?_)
       refine aG rfl (bK rfl rfl (by omega) (by omega)) ?_
       refine aE aA 1 rfl (aD ?_)
       exact⟨k+1,by omega,by omega,cF ⟨rfl,rfl,rfl,aN (by rw[rJ hk,if_pos (by first | (simp_all; done) | omega)]; omega),rfl,rfl,rfl,aN (by omega),trivial⟩ rfl⟩
      ·
       refine aL (hK14 _ (aB ?_))
       refine aG rfl (bK rfl rfl (by omega) (by omega)) ?_
       refine aE aA 1 rfl (aD ?_)
       exact⟨k+1,by omega,by omega,cF ⟨rfl,rfl,rfl,aN (by rw[rJ hk,if_neg (by first | (simp_all; done) | omega)]; omega),rfl,rfl,rfl,aN (by omega),trivial⟩ rfl⟩
     ·
      simp only[bs] at hc4
      refine aX (hK10 _ (aC (fun K17 hK17=>(aC (fun K18 hK18=>(aB ?_))))))
      rw[aQf (l:=(fU s p q t)) (by omega)]
      refine aE aA 5 rfl (aJ hf rfl (aO rfl rfl aEv rfl (aF5 s p.2 t hzM hR)) (aE aA 2 rfl (aD (hK18 _ (aM (bM (ι:=Nat) (fun k=>⟨125,[(2,.s (.int .i64 a)),(3,.adr (bJ s)),(4,.adr (zR p q t)),(9,.s (.int .i64 ((kF (fU s p q t) a:Nat):Int))),(10,.s (.int .i64 ((kF ((dN s p.2 t).take k) a:Nat):Int))),(59,.sl 4 (((dN s p.2 t)).map stC)),(60,.s (.int .i64 (((dN s p.2 t).map stC).length:Nat))),(61,.s (.int .i64 (k:Nat)))],[]⟩) (fun k=>k≤(dN s p.2 t).length) (fun k=>(dN s p.2 t).length - k) 0 ?_ ?_ ?_))))))
      · exact Nat.zero_le _
      · exact cF ⟨(by first | rfl | exact aN (by omega)),(by first | rfl | exact aN (by omega)),(by first | rfl | exact aN (by omega)),(by first | rfl | exact aN (by omega)),(by first | rfl | exact aN (by omega)),(by first | rfl | exact aN (by omega)),(by first | rfl | exact aN (by omega)),(by first | rfl | exact aN (by omega)),trivial⟩ rfl
      ·
       rintro k hC
       refine aC (fun K19 hK19=>(aB (aE aA 1 rfl (aD (hK19 _ (aC (fun K20 hK20=>(aK rfl (fun hc6=>?_) (fun hc6=>?_)))))))))
       ·
        simp only[bs] at hc6
        have hk:k<(dN s p.2 t).length:=by omega
        have hck:=hcl (dN s p.2 t) k
        refine aL (hK20 _ (aC (fun K21 hK21=>(aM (aC (fun K22 hK22=>(aB ?_)))))))
        refine aG rfl (aY rfl rfl dC cS (by first | exact ixm (by omega) | assumption | exact⟨by decide,rfl⟩)) ?_
        refine aE aA 1 rfl (cA hf rfl nU rfl cS rfl rfl rfl rfl (lf rfl) (aD (hK22 _ (aC (fun K23 hK23=>(aB (aE aA 5 rfl (aW rfl rfl rfl (fun hg7=>?_) (fun hg7=>?_)))))))))
        ·
         simp only[bs] at hg7
         refine aG rfl (fB rfl) (aE aA 4 rfl (aD (hK23 _ (aK rfl (fun hc8=>?_) (fun hc8=>?_)))))
         ·
          simp only[bs] at hc8
          refine aB (aE aA 1 rfl ?_)
          refine aG rfl (bK rfl rfl (by omega) (by omega)) ?_
          refine aE aA 1 rfl ?_
          refine bH ?_
          refine hK21 _ (aB ?_)
          refine aG rfl (bK rfl rfl (by omega) (by omega)) ?_
          refine aE aA 1 rfl (aD ?_)
          exact⟨k+1,by omega,by omega,cF ⟨rfl,rfl,rfl,rfl,aN (by rw[rJ hk,if_pos (by first | (simp_all; done) | omega)]; omega),rfl,rfl,aN (by omega),trivial⟩ rfl⟩
         ·
          simp only[bs] at hc8
          refine aL (hK21 _ (aB ?_))
          refine aG rfl (bK rfl rfl (by omega) (by omega)) ?_
          refine aE aA 1 rfl (aD ?_)
          exact⟨k+1,by omega,by omega,cF ⟨rfl,rfl,rfl,rfl,aN (by rw[rJ hk,if_neg (by first | (simp_all; done) | omega)]; omega),rfl,rfl,aN (by omega),trivial⟩ rfl⟩
        ·
         simp only[bs] at hg7
         refine aE aA 4 rfl (aD (hK23 _ (bT rfl (aL (hK21 _ (aB ?_))))))
         refine aG rfl (bK rfl rfl (by omega) (by omega)) ?_
         refine aE aA 1 rfl (aD ?_)
         exact⟨k+1,by omega,by omega,cF ⟨rfl,rfl,rfl,rfl,aN (by rw[rJ hk,if_neg (by first | (simp_all; done) | omega)]; omega),rfl,rfl,aN (by omega),trivial⟩ rfl⟩
       ·
        simp only[bs] at hc6
        refine aX (hK17 _ (aC (fun K24 hK24=>(aB ?_))))
        rw[aQf (l:=(dN s p.2 t)) (by omega)]
        refine aE aA 5 rfl (aG rfl (bO rfl aK9 aGo (l3 rfl) rfl) (aE aA 1 rfl (aJ hf rfl (aO rfl rfl aEx rfl (vJ s p a hb)) (aE aA 1 rfl (aW rfl rfl rfl (fun hg10=>?_) (fun hg10=>?_))))))
        ·
         refine aG rfl (fB rfl) (aE aA 5 rfl (aW rfl rfl rfl (fun hg11=>?_) (fun hg11=>?_)))
         ·
          simp only[bs] at hg11
          refine aG rfl (fB rfl) (aE aA 3 rfl (aW rfl rfl rfl (fun hg12=>?_) (fun hg12=>?_)))
          ·
           simp only[bs] at hg12
           refine aG rfl (fB rfl) (aE aA 5 rfl (aW rfl rfl rfl (fun hg13=>?_) (fun hg13=>?_)))
           ·
            simp only[bs] at hg13
            refine aG rfl (fB rfl) (aE aA 5 rfl (aD (hK24 _ (aC (fun K25 hK25=>(aB (aJ hf rfl (aO rfl rfl fQ rfl (eX)) (aE aA 3 rfl (aW rfl rfl rfl (fun hg14=>?_) (fun hg14=>?_))))))))))
            ·
             simp only[bs] at hg14
             refine aG rfl (fB rfl) (aE aA 1 rfl (bE rfl rfl rfl (aG rfl (eN rfl rfl (iF (by rw[hta,if_pos ⟨by assumption,by omega,by omega,by omega,by omega⟩]))) ?_)))
             refine aE aA 5 rfl (fE rfl rfl rfl ?_)
             refine fE rfl rfl rfl ?_
             refine aE aA 4 rfl (aD (hK25 _ (aI ?_)))
             refine⟨_,rfl,?_⟩
             rfl
            ·
             simp only[bs] at hg14
             refine aE aA 7 rfl (aW rfl rfl rfl (fun hg15=>?_) (fun hg15=>?_))
             ·
              simp only[bs] at hg15
              refine aG rfl (fB rfl) (bE rfl rfl rfl (aG rfl (eN rfl rfl (iF (by rw[hta,if_neg (by rintro ⟨g1,g2,g3,g4,g5⟩; first | omega | (simp_all; done))]; rfl))) ?_))
              refine aE aA 4 rfl (aD (hK25 _ (aI ?_)))
              refine⟨_,rfl,?_⟩
              rfl
             ·
              simp only[bs] at hg15
              omega
           ·
            simp only[bs] at hg13
            refine aE aA 5 rfl (aD (hK24 _ (aC (fun K26 hK26=>(aB (aJ hf rfl (aO rfl rfl fQ rfl (eX)) (aE aA 12 rfl (bE rfl rfl rfl (aG rfl (eN rfl rfl (iF (by rw[hta,if_neg (by rintro ⟨g1,g2,g3,g4,g5⟩; first | omega | (simp_all; done))]; rfl))) ?_)))))))))
            refine aE aA 4 rfl (aD (hK26 _ (aI ?_)))
            refine⟨_,rfl,?_⟩
            rfl
          ·
           simp only[bs] at hg12
           refine aE aA 11 rfl (aD (hK24 _ (aC (fun K27 hK27=>(aB (aJ hf rfl (aO rfl rfl fQ rfl (eX)) (aE aA 12 rfl (bE rfl rfl rfl (aG rfl (eN rfl rfl (iF (by rw[hta,if_neg (by rintro ⟨g1,g2,g3,g4,g5⟩; first | omega | (simp_all; done))]; rfl))) ?_)))))))))
           refine aE aA 4 rfl (aD (hK27 _ (aI ?_)))
           refine⟨_,rfl,?_⟩
           rfl
         ·
          simp only[bs] at hg11
          refine aE aA 15 rfl (aD (hK24 _ (aC (fun K28 hK28=>(aB (aJ hf rfl (aO rfl rfl fQ rfl (eX)) (aE aA 12 rfl (bE rfl rfl rfl (aG rfl (eN rfl rfl (iF (by rw[hta,if_neg (by rintro ⟨g1,g2,g3,g4,g5⟩; first | omega | (simp_all; done))]; rfl))) ?_)))))))))
          refine aE aA 4 rfl (aD (hK28 _ (aI ?_)))
          refine⟨_,rfl,?_⟩
          rfl
        ·
         simp only[bs] at hg10
         refine aE aA 21 rfl (aD (hK24 _ (aC (fun K29 hK29=>(aB (aJ hf rfl (aO rfl rfl fQ rfl (eX)) (aE aA 12 rfl (bE rfl rfl rfl (aG rfl (eN rfl rfl (iF (by rw[hta,if_neg (by rintro ⟨g1,g2,g3,g4,g5⟩; first | omega | (simp_all; done))]; rfl))) ?_)))))))))
         refine aE aA 4 rfl (aD (hK29 _ (aI ?_)))
         refine⟨_,rfl,?_⟩
         rfl
 ·
  simp only[bs] at hg1
  refine aE aA 3 rfl (aD (hK3 _ (bY rfl (aC (fun K30 hK30=>(aB (aJ hf rfl (aO rfl rfl fQ rfl (eX)) (aE aA 1 rfl (aD (hK30 _ (aI ?_)))))))))))
  refine⟨_,rfl,?_⟩
  rfl
end Go.Proofs.YtpkanhklapfajaaGreat
namespace Go.Proofs.YtpkanhklapfajaaGreat
open Go.ChangeShapes Go.WideShapes Go.ChangeAt Go.RowKit Go.Abs
set_option linter.unusedVariables false
theorem own:ownKnob Tryz.prog.godebug=none:=by kernel_rfl
theorem laid:laidOutB Tryz.prog=true:=by kernel_rfl
theorem td3:tdOf? Tryz.prog 16 3=some (.int .i64):=by kernel_rfl
theorem aSs:tdOf? Tryz.prog 16 27=some (.agg [.int .i64,.int .i64,.sl 40 (.agg [.int .i64,.str,.int .i64,.int .i64]),.sl 40 (.agg [.str,.sl 32 (.agg [.int .i64,.int .i64,.int .i64,.int .i64])]),.sl 48 (.agg [.str,.str,.int .i64,.int .i64]),.sl 24 (.agg [.str,.int .i64])]):=by kernel_rfl
theorem td29:tdOf? Tryz.prog 16 29=some (.agg [.str,.str,.int .i64,.int .i64,.int .i64]):=by kernel_rfl
theorem kG {H:Type}:∀ l:List (DataW H),(l.map Rows.uptoBulk).sum=Rows.uptoBulkAll l
  | []=>rfl
  | d::l=>by simp only[List.map_cons,List.sum_cons,kG l,Rows.uptoBulkAll]
theorem yG {H:Type}:IsBulk (H:=H) Rows.uptoBulk:=⟨fun d=>by
    cases d with
    | lit l=>cases l <;> simp [Rows.uptoBulk]
    | nil=>simp [Rows.uptoBulk]
    | ptr d=>simp [Rows.uptoBulk]
    | slice elems spare=>simp [Rows.uptoBulk]
    | agg parts=>simp [Rows.uptoBulk]
    | iface t d=>simp [Rows.uptoBulk]
    | map entries=>simp [Rows.uptoBulk]
    | held h=>simp [Rows.uptoBulk],fun e s=>by rw[kG]; simp only[Rows.uptoBulk]; omega,fun p=>by rw[kG]; simp only[Rows.uptoBulk]; omega⟩
set_option maxRecDepth 100000 in
theorem wH (H:Type) (enc:TypeId×Value→H) (W:World) (base:Nat) (args:Array Value) (ds gs:List (DataW H)) (before:List MemPlace)
    (hval:∀ (j:Nat) t v,Tryz.f5.params[j]?=some t→args[j]?=some v→Value.okWide Tryz.prog W .any base t v)
    (hW:DataW.Whole enc Tryz.prog Tryz.f5.params.toList Rows.gateTimesSpec.vars false W args.toList ds gs before)
    (hk:Rows.uptoSmall H (ds++gs)=true)
    (hsz:(DataW.weightsEach Tryz.prog (Tryz.f5.params.toList++Rows.gateTimesSpec.plain.varTypes Tryz.prog) (ds++gs)).all (·≤reachBytes)=true) :
    Calls Tryz.prog 5 args W fun e W'=>∃ v,e=.returned v∧Rows.gateTimesSpec.post enc Tryz.prog Tryz.f5 false true false false W args v W':=by
  have hW':=hW
  obtain ⟨p,q,hA0,hV,rfl,hfz,hnd⟩:=hW
  have hA:DataW.TrodAll enc Tryz.prog W 0 (fun _=>true) true Tryz.f5.params.toList args.toList ds p:=hA0
  rw[Tryz.params5] at hA hval
  obtain ⟨v0,vs0,d0,ds0,p0,q0,hargs,rfl,rfl,h0,r0⟩:=trodAll_cons hA
  obtain ⟨v1,vs1,d1,ds1,p1,q1,rfl,rfl,rfl,h1,r1⟩:=trodAll_cons r0
  obtain ⟨v2,vs2,d2,ds2,p2,q2,rfl,rfl,rfl,h2,r2⟩:=trodAll_cons r1
  obtain ⟨rfl,rfl,rfl⟩:=trodAll_nil r2
  obtain rfl:args=#[v0,v1,v2]:=by cases args; simp_all
  have hbk:Rows.uptoBulkAll ([d0,d1,d2]++gs)≤1048576:=of_decide_eq_true hk
  simp only[List.cons_append,List.nil_append,Rows.uptoBulkAll] at hbk
  have hb0:Rows.uptoBulk d0≤1048576:=by omega
  have hb1:Rows.uptoBulk d1≤1048576:=by omega
  have hb2:Rows.uptoBulk d2≤1048576:=by omega
  obtain ⟨c0,y0,z0,a0⟩:=aC1 yG aSs rQ (hval 0 27 v0 rfl rfl) h0 (lP (i:=0) hsz (by rw[Tryz.params5]; rfl) rfl)
  obtain ⟨s,rfl,hz,ts⟩:=aM9 (by simpa only[Ty] using y0)
  have hcs:=aG0 z0
  obtain ⟨c1,y1,a1⟩:=aG5 td29 aLc (hval 1 29 v1 rfl rfl) h1 (lP (i:=1) hsz (by rw[Tryz.params5]; rfl) rfl)
  obtain ⟨p,q,t,rfl,hp1,hp2,ht0,ht1⟩:=aSp (by simpa only[Ty] using y1)
  obtain ⟨c2,y2,a2⟩:=aPv td3 jI (hval 2 3 v2 rfl rfl) h2 (lP (i:=2) hsz (by rw[Tryz.params5]; rfl) rfl)
  obtain ⟨t0,rfl,ht0⟩:=aG1 y2
  refine(aFj s hz ts (by omega) p q t hp1 hp2 t0 (fun _=>False) W [v0,v1,v2] (fun _ h=>h.elim) ⟨rfl,fun i c v hc hv=>?_⟩).mono fun e W' ⟨v,r,he,hr,hE,hv⟩=>?_
  · match i,hc,hv with
    | 0,hc,hv=>cases hc; cases hv; exact a0
    | 1,hc,hv=>cases hc; cases hv; exact a1
    | 2,hc,hv=>cases hc; cases hv; exact a2
  · subst hr
    cases hv
    exact⟨_,he,yV (t:=4) hW' (sN hE) laid (by rw[Tryz.params5]; decide +kernel) rfl (fun _=>rfl) (by kernel_rfl) (by kernel_rfl) Tryz.underlying4⟩
set_option maxRecDepth 100000 in
theorem zL (os:Os) (started:os.Started) (H:Type) (enc:TypeId×Value→H) (F:Stop.Interp) :
    ReturnsInHanded {} Tryz.checked os 5 .any ((Rows.OpenSpec.upto Rows.gateTimesSpec).pre6 enc Tryz.prog Tryz.f5 Rows.gateTimesUptoRow.domain false) (((Rows.OpenSpec.upto Rows.gateTimesSpec).at F).post enc Tryz.prog Tryz.f5 false true false false):=by
  refine returnsInHanded_of_cond_sized (C:=Tryz.checked) (s:=(Rows.OpenSpec.upto Rows.gateTimesSpec)) (k:=Rows.uptoSmall) rfl own started (by kernel_rfl) Tryz.func5
    (OpenSpec.witness (enc:=enc) (C:=Tryz.checked) (s:=(Rows.OpenSpec.upto Rows.gateTimesSpec)) (k:=Rows.uptoSmall) rfl false ⟨#[],#[.agg #[.int .i64 0,.int .i64 0,.slice none 0 0,.slice none 0 0,.slice none 0 0,.slice none 0 0],.agg #[.string ⟨#[]⟩,.string ⟨#[]⟩,.int .i64 0,.int .i64 0,.int .i64 0],.int .i64 0],[]⟩ 8 (by kernel_rfl) (by kernel_rfl) (by kernel_rfl)
      (x:=([.agg [.lit (.int .i64 0),.lit (.int .i64 0),.nil,.nil,.nil,.nil],.agg [.lit (.string []),.lit (.string []),.lit (.int .i64 0),.lit (.int .i64 0),.lit (.int .i64 0)],.lit (.int .i64 0)],[],[])) (by kernel_rfl) rfl (by kernel_rfl)) ?_
  intro W base args ds gs before hval hW _ hk hsz _
  exact wH H enc W base args ds gs before hval hW hk hsz
theorem aHu:(Rows.gateTimesUptoRow.wf (OpenSpec.ofChange (Rows.OpenSpec.upto Rows.gateTimesSpec).bare)&&laidOutB Tryz.prog&&mapsRowed Tryz.prog)=true:=by kernel_rfl
theorem aHt:(Rows.gateTimesUptoRow.inPlace == Tryz.prog.inPlace 5)=true:=by kernel_rfl
theorem aHs:(Rows.gateTimesUptoRow.unfollowed == Tryz.prog.unfollowed 5)=true:=by kernel_rfl
theorem aHr:(Rows.gateTimesUptoRow.recurses == Tryz.prog.recurses 5)=true:=by kernel_rfl
theorem aHq:(Rows.gateTimesUptoRow.named == Tryz.prog.varsNamed 5)=true:=by kernel_rfl
theorem zM:joinedFacts Tryz.prog 5 Tryz.f5 (Rows.OpenSpec.upto Rows.gateTimesSpec).bare Rows.gateTimesUptoRow=true:=by
  have h0:=aHu
  simp only[Bool.and_eq_true] at h0
  obtain ⟨⟨h5,h6⟩,h7⟩:=h0
  unfold joinedFacts
  repeat (rw[Bool.and_eq_true]; refine And.intro ?_ ?_)
  all_goals with_reducible first | exact aHt | exact aHs | exact aHr | exact aHq | exact h5 | exact h6 | exact h7 | kernel_rfl
theorem gateTimes_proved:Rows.GateTimesUptoSaid :=
  OpenClaim.holds_of_cond 5 Tryz.f5 rfl rfl rfl rfl rfl rfl rfl ⟨rfl,rfl,rfl,rfl,rfl⟩ rfl rfl rfl rfl rfl (by kernel_rfl) Tryz.func5 zM
    (of_decide_eq_true (by kernel_rfl)) (by unfold Func.isWrapper; first | (rw[if_pos (by decide +kernel)]; kernel_rfl) | (rw[if_neg (by decide +kernel)]; exact⟨rfl,rfl⟩))
    (fun os started H enc _ F=>zL os started H enc F)
end Go.Proofs.YtpkanhklapfajaaGreat
