/-
  The law StateErases: whatever the state, the two users and the time, the call returns true, and all read behind it as they read before. No condition beyond the row's own.
-/
import Derived.Test.YtckjaledibkghaaGreatRows
import Derived.WalkKit
import Derived.ProofKit
import Derived.OpenShut
import Derived.JoinedCond
import Derived.SizedLaws
import Derived.Test.YtckjaledibkghaaGreatK1
import Derived.Test.YtckjaledibkghaaGreatK2
import Derived.Test.YtckjaledibkghaaGreatK3
import Derived.Test.YtckjaledibkghaaGreatK4
import Derived.Test.YtckjaledibkghaaGreatK5
import Derived.Test.YtckjaledibkghaaGreatK6
set_option maxRecDepth 20000
set_option maxHeartbeats 16000000
set_option linter.unusedVariables false
set_option linter.unusedSimpArgs false
namespace Go.Proofs.YtckjaledibkghaaGreat
open Go Go.Abs
end Go.Proofs.YtckjaledibkghaaGreat
set_option linter.unusedVariables false
set_option linter.unusedSimpArgs false
namespace Go.Proofs.YtckjaledibkghaaGreat
open Go Go.Abs
end Go.Proofs.YtckjaledibkghaaGreat
set_option linter.unusedVariables false
set_option linter.unusedSimpArgs false
namespace Go.Proofs.YtckjaledibkghaaGreat
open Go Go.Abs
theorem aD1 (s:Sta) (hz:SzS 140737488351232 s) (ts:TsS s) (u v:ByteArray) (tt:Int) (hu:TS u) :Den Tryz.prog 8 [.agg (aO s),.agg [.s (.string u),.s (.string v)],.s (.int .i64 tt)]  (·=.s (.bool true)):=by
 have hzM:SzS 140737488352000 s:=hz.mono (by omega)
 refine aS Tryz.func8 rfl (Nat.le_of_ble_eq_true rfl) (fun w0 A hf=>(aC (fun K1 hK1=>(aB (aJ hf rfl (cI rfl rfl (lf rfl)) (aJ hf rfl (cI rfl rfl (lf rfl)) (aE aA 1 rfl (aD (hK1 _ (aC (fun K2 hK2=>(cM hf bE (by kernel_rfl) rfl (bL [(4,_)] rfl rfl ⟨⟨rfl,rfl⟩,trivial⟩ rfl (aIx rfl rfl aJp cR (by first | decide | omega) rfl) ?_)))))))))))))
 refine aT aA 1 rfl (bL [(4,_)] rfl rfl ⟨⟨rfl,rfl⟩,trivial⟩ rfl (aIx rfl rfl aJp cR (by first | decide | omega) rfl) ?_)
 refine aT aA 3 rfl (cP [2,3,7,8] rfl rfl rfl (hK2 _ (aC (fun K3 hK3=>(aC (fun K4 hK4=>(aB (aE aA 1 rfl (aJ hf rfl (aK rfl rfl lV rfl (lJ s hzM)) (aE aA 2 rfl (aW rfl rfl rfl (fun hg1=>?_) (fun hg1=>?_))))))))))))
 ·
  simp only[bs] at hg1
  refine aG rfl (sL rfl dJ cG rfl rfl) ?_
  refine bI rfl rfl rfl (aJ hf rfl (aK rfl rfl nF rfl (jH s (hz.mono (by omega)) ts)) (aE aA 2 rfl (aD (hK4 _ (aL rfl (fun hc2=>?_) (fun hc2=>?_))))))
  ·
   simp only[bs] at hc2
   refine aC (fun K5 hK5=>(aB (aJ hf rfl (aK rfl rfl dB rfl (cV)) (aE aA 1 rfl (aD (hK5 _ (aI ?_)))))))
   refine⟨_,rfl,?_⟩
   rfl
  ·
   simp only[bs] at hc2
   refine aM (hK3 _ (aC (fun K6 hK6=>(aB ?_))))
   have hR:RightP s:=gZ.1 (by simp_all)
   have hzA:SzS 140737488352000 (aR s (⟨7,tt,u,bs0,0,0⟩:Ev)).1:=xU hz hR.usr (by omega)
   have hRA:RightP (aR s (⟨7,tt,u,bs0,0,0⟩:Ev)).1:=oP hR _
   refine aE aA 1 rfl (aJ hf rfl (aK rfl rfl gF rfl (aAv _ (by assumption))) (aE aA 2 rfl (aG rfl (cB rfl oS pE (l3 rfl) rfl) (aJ hf rfl (aK rfl rfl gR rfl (wO s (⟨7,tt,u,bs0,0,0⟩:Ev) hzM hR hu (by show (0:Nat)≤_; omega))) ?_))))
   refine aE aA 3 rfl (bV hf rfl bA rfl cC rfl rfl rfl rfl (lf rfl) (aE aA 1 rfl (aD (hK6 _ (aC (fun K7 hK7=>(aC (fun K8 hK8=>(aB (aE aA 2 rfl (aD (hK8 _ (aL rfl (fun hc3=>?_) (fun hc3=>?_))))))))))))))
   ·
    simp only[bs] at hc3
    refine aC (fun K9 hK9=>(aB (aJ hf rfl (aK rfl rfl dB rfl (cV)) (aE aA 1 rfl (aD (hK9 _ (aI ?_)))))))
    refine⟨_,rfl,?_⟩
    rfl
   ·
    simp only[bs] at hc3
    have h0:(aR s (⟨7,tt,u,bs0,0,0⟩:Ev)).2=0:=by omega
    have hX:(aR s (⟨7,tt,u,bs0,0,0⟩:Ev)).1={ fQ s u tt with now:=tt }:=aNg rfl h0
    refine aM (hK7 _ (aC (fun K10 hK10=>(aB (aE aA 1 rfl (aJ hf rfl (aK rfl rfl nD rfl (aQh (aR s (⟨7,tt,u,bs0,0,0⟩:Ev)).1 hzA)) (aX hf rfl rfl rfl bY (aU hf rfl rfl cG rfl rfl (l1 rfl) (l4 rfl) rfl (aD (hK10 _ (aC (fun K11 hK11=>(aB (aE aA 1 rfl ?_))))))))))))))
    refine aD (hK11 _ (aC (fun K12 hK12=>(aC (fun K13 hK13=>(aB (aE aA 4 rfl (aD (hK13 _ (aQ (bR (ι:=Nat) (fun q=>⟨96,[(2,.s (.int .i64 tt)),(3,.adr (aO s)),(7,.s (.string u)),(8,.s (.string v)),(9,.adr (aO (aR s (⟨7,tt,u,bs0,0,0⟩:Ev)).1)),(11,.ref 11 0 0 0),(12,.s (.int .i64 ((((aR s (⟨7,tt,u,bs0,0,0⟩:Ev)).1.tmb.take q).countP (isK cW u):Nat)))),(43,.sl 2 ((aR s (⟨7,tt,u,bs0,0,0⟩:Ev)).1.tmb.map tmC)),(44,.s (.int .i64 (((aR s (⟨7,tt,u,bs0,0,0⟩:Ev)).1.tmb.map tmC).length:Nat))),(45,.s (.int .i64 (q:Nat)))],[(11,.box (aO (aR s (⟨7,tt,u,bs0,0,0⟩:Ev)).1))]⟩) (fun q=>q≤(aR s (⟨7,tt,u,bs0,0,0⟩:Ev)).1.tmb.length) (fun q=>(aR s (⟨7,tt,u,bs0,0,0⟩:Ev)).1.tmb.length - q) 0 ?_ ?_ ?_)))))))))))
    · exact Nat.zero_le _
    · exact cN rfl
    ·
     rintro q hC
     refine aC (fun K14 hK14=>(aB (aE aA 1 rfl (aD (hK14 _ (aC (fun K15 hK15=>(aL rfl (fun hc4=>?_) (fun hc4=>?_)))))))))
     ·
      simp only[bs] at hc4
      refine aM (hK15 _ (aC (fun K16 hK16=>(aQ (aC (fun K17 hK17=>(aB ?_)))))))
      have hq:q<(aR s (⟨7,tt,u,bs0,0,0⟩:Ev)).1.tmb.length:=by omega
      have hcp:=List.countP_le_length (p:=isK cW u) (l:=(aR s (⟨7,tt,u,bs0,0,0⟩:Ev)).1.tmb.take q)
      have htl:((aR s (⟨7,tt,u,bs0,0,0⟩:Ev)).1.tmb.take q).length=q:=by rw[List.length_take]; omega
      have hzt:=hzA.t
      refine aG rfl (aY rfl rfl jF gX (by first | exact ixm (by omega) | assumption | exact⟨by decide,rfl⟩)) ?_
      refine aE aA 1 rfl (bV hf rfl wR rfl gX rfl rfl rfl rfl (lf rfl) (aD (hK17 _ (aC (fun K18 hK18=>(aB (aE aA 4 rfl (aD (hK18 _ (aL rfl (fun hc5=>?_) (fun hc5=>?_)))))))))))
      ·
       simp only[bs] at hc5
       have hqk:isK cW u (aR s (⟨7,tt,u,bs0,0,0⟩:Ev)).1.tmb[q]=true:=by simp only[isK,decide_eq_true_eq]; exact toList_inj.1 (by assumption)
       refine aB (aE aA 1 rfl ?_)
       refine aG rfl (bN rfl rfl (by omega) (by omega)) ?_
       refine aE aA 1 rfl ?_
       refine bK ?_
       refine hK16 _ (aB ?_)
       refine aG rfl (bN rfl rfl (by omega) (by omega)) ?_
       refine aE aA 1 rfl (aD ?_)
       exact⟨q+1,by omega,by omega,cJ ⟨rfl,rfl,rfl,rfl,rfl,rfl,aV (by rw[aCw hq,hqk,if_pos rfl]; omega),rfl,rfl,rfl,trivial⟩ rfl⟩
      ·
       simp only[bs] at hc5
       have hqk:isK cW u (aR s (⟨7,tt,u,bs0,0,0⟩:Ev)).1.tmb[q]=false:=by simp only[isK,decide_eq_false_iff_not]; exact fun h=>(by assumption:¬ (_:List UInt8)=_) (by rw[show ((aR s (⟨7,tt,u,bs0,0,0⟩:Ev)).1.tmb[q]).1=u from h])
       refine aM (hK16 _ (aB ?_))
       refine aG rfl (bN rfl rfl (by omega) (by omega)) ?_
       refine aE aA 1 rfl (aD ?_)
       exact⟨q+1,by omega,by omega,cJ ⟨rfl,rfl,rfl,rfl,rfl,rfl,aV (by rw[aCw hq,hqk,if_neg (by decide)]; omega),rfl,rfl,rfl,trivial⟩ rfl⟩
     ·
      simp only[bs] at hc4
      refine bB (hK12 _ (aC (fun K19 hK19=>(aB ?_))))
      have hcn:((aR s (⟨7,tt,u,bs0,0,0⟩:Ev)).1.tmb.take q).countP (isK cW u)=1:=by rw[List.take_of_length_le (by omega),hX,List.countP_eq_length_filter]; show ((nH s.tmb u tt).filter fun x=>isK cW u x).length=1; rw[aQv hR.tmb]; rfl
      refine aE aA 1 rfl (aU hf rfl rfl aBf rfl rfl (l1 rfl) (l4 rfl) rfl (aD (hK19 _ (aC (fun K20 hK20=>(aC (fun K21 hK21=>(aB (aE aA 1 rfl (bO (iX (fun w p v h=>aTl (k:=2) h)) (aE aA 1 rfl (aJ hf rfl (aK rfl rfl aHc rfl ((show Den Tryz.prog _ _ (·=.s (.bool false)) from eL (aAp { (aR s (⟨7,tt,u,bs0,0,0⟩:Ev)).1 with tmb:=[] } u ⟨hzA.o,hzA.u,hzA.b,Nat.zero_le _,hzA.y⟩) (by rw[hX,aT7 hR.usr])))) ?_))))))))))))
      refine aE aA 2 rfl (bI rfl rfl rfl (aG rfl (cU rfl rfl (aSq (by omega))) (aE aA 4 rfl (bI rfl rfl rfl (aJ hf rfl (aK rfl rfl zT rfl ((show Den Tryz.prog _ _ (·=.s (.bool true)) from eL (hasW (aR s (⟨7,tt,u,bs0,0,0⟩:Ev)).1 u hzA hRA) (by rw[hX,aQw])))) ?_)))))
      refine aE aA 6 rfl (bI rfl rfl rfl (aJ hf rfl (aK rfl rfl sA rfl ((show Den Tryz.prog _ _ (·=.sl 4 (([]:List bS).map stC)) from eL (aJ0 (aR s (⟨7,tt,u,bs0,0,0⟩:Ev)).1 u tt hzA hRA) (by rw[hX,aCt hR.usr,if_pos rfl])))) ?_))
      refine aE aA 3 rfl (aD (hK21 _ (bG rfl (aM (hK20 _ (aC (fun K22 hK22=>(cM hf bE (by kernel_rfl) rfl (aZ [] rfl rfl trivial rfl (aK rfl rfl dB rfl (cV)) (aT aA 5 rfl (dP 83 false rfl (fun hg7=>?_) (fun hg7=>?_))))))))))))
      ·
       simp only[bs] at hg7
       refine aT aA 3 rfl (aZ [(84,_),(85,_),(86,_)] rfl rfl ⟨⟨rfl,rfl⟩,⟨rfl,rfl⟩,⟨rfl,rfl⟩,trivial⟩ rfl (aK rfl rfl sA rfl ((show Den Tryz.prog _ _ (·=.sl 4 ((fN s v tt).map stC)) from eL (aJ0 (aR s (⟨7,tt,u,bs0,0,0⟩:Ev)).1 v tt hzA hRA) (by rw[hX,aCt hR.usr,if_neg (fun h=>by subst h; simp_all)])))) ?_)
       refine aZ [(87,_)] rfl rfl ⟨⟨rfl,rfl⟩,trivial⟩ rfl (aK rfl rfl vA rfl (zG s v tt hzM hR)) (aT aA 3 rfl (aZ [(89,_),(90,_),(91,_)] rfl rfl ⟨⟨rfl,rfl⟩,⟨rfl,rfl⟩,⟨rfl,rfl⟩,trivial⟩ rfl (aK rfl rfl zU rfl (aBr s v tt hzM hR)) (aZ [(88,_),(92,_)] rfl rfl ⟨⟨rfl,rfl⟩,⟨rfl,rfl⟩,trivial⟩ rfl (aK rfl rfl vB rfl (zC s v tt hzM hR)) (aT aA 3 rfl (cP [6] rfl rfl rfl (hK22 _ (aI ?_)))))))
       refine⟨_,rfl,?_⟩
       rfl
      ·
       simp only[bs] at hg7
       refine aT aA 13 rfl (cP [6] rfl rfl rfl (hK22 _ (aI ?_)))
       refine⟨_,rfl,?_⟩
       rfl
 ·
  simp only[bs] at hg1
  refine aE aA 3 rfl (aD (hK4 _ (bM rfl (aC (fun K23 hK23=>(aB (aJ hf rfl (aK rfl rfl dB rfl (cV)) (aE aA 1 rfl (aD (hK23 _ (aI ?_)))))))))))
  refine⟨_,rfl,?_⟩
  rfl
end Go.Proofs.YtckjaledibkghaaGreat
set_option linter.unusedVariables false
set_option linter.unusedSimpArgs false
namespace Go.Proofs.YtckjaledibkghaaGreat
open Go Go.Abs
end Go.Proofs.YtckjaledibkghaaGreat
namespace Go.Proofs.YtckjaledibkghaaGreat
open Go.ChangeShapes Go.WideShapes Go.ChangeAt Go.RowKit Go.Abs
set_option linter.unusedVariables false
theorem own:ownKnob Tryz.prog.godebug=none:=by kernel_rfl
theorem laid:laidOutB Tryz.prog=true:=by kernel_rfl
theorem td3:tdOf? Tryz.prog 16 3=some (.int .i64):=by kernel_rfl
theorem aAa:tdOf? Tryz.prog 16 27=some (.agg [.int .i64,.int .i64,.sl 40 (.agg [.int .i64,.str,.int .i64,.int .i64]),.sl 40 (.agg [.str,.sl 32 (.agg [.int .i64,.int .i64,.int .i64,.int .i64])]),.sl 48 (.agg [.str,.str,.int .i64,.int .i64]),.sl 24 (.agg [.str,.int .i64])]):=by kernel_rfl
theorem td67:tdOf? Tryz.prog 16 67=some (.agg [.str,.str]):=by kernel_rfl
set_option maxRecDepth 100000 in
theorem vQ (H:Type) (enc:TypeId×Value→H) (W:World) (base:Nat) (args:Array Value) (ds gs:List (DataW H)) (before:List MemPlace)
    (hval:∀ (j:Nat) t v,Tryz.f8.params[j]?=some t→args[j]?=some v→Value.okWide Tryz.prog W .any base t v)
    (hW:DataW.Whole enc Tryz.prog Tryz.f8.params.toList Rows.stateErasesSpec.vars false W args.toList ds gs before)
    (hsz:(DataW.weightsEach Tryz.prog (Tryz.f8.params.toList++Rows.stateErasesSpec.plain.varTypes Tryz.prog) (ds++gs)).all (·≤reachBytes)=true) :
    Calls Tryz.prog 8 args W fun e W'=>∃ v,e=.returned v∧Rows.stateErasesSpec.post enc Tryz.prog Tryz.f8 false true false false W args v W':=by
  have hW':=hW
  obtain ⟨p,q,hA0,hV,rfl,hfz,hnd⟩:=hW
  have hA:DataW.TrodAll enc Tryz.prog W 0 (fun _=>true) true Tryz.f8.params.toList args.toList ds p:=hA0
  rw[Tryz.params8] at hA hval
  obtain ⟨v0,vs0,d0,ds0,p0,q0,hargs,rfl,rfl,h0,r0⟩:=trodAll_cons hA
  obtain ⟨v1,vs1,d1,ds1,p1,q1,rfl,rfl,rfl,h1,r1⟩:=trodAll_cons r0
  obtain ⟨v2,vs2,d2,ds2,p2,q2,rfl,rfl,rfl,h2,r2⟩:=trodAll_cons r1
  obtain ⟨rfl,rfl,rfl⟩:=trodAll_nil r2
  obtain rfl:args=#[v0,v1,v2]:=by cases args; simp_all
  obtain ⟨c0,y0,a0⟩:=mV aAa dJ (hval 0 27 v0 rfl rfl) h0 (fY (i:=0) hsz (by rw[Tryz.params8]; rfl) rfl)
  obtain ⟨s,rfl,hz,ts⟩:=vL (by simpa only[Ty] using y0)
  obtain ⟨c1,y1,a1⟩:=mV td67 aWr (hval 1 67 v1 rfl rfl) h1 (fY (i:=1) hsz (by rw[Tryz.params8]; rfl) rfl)
  obtain ⟨u,v,rfl,hu,hv⟩:=ty_pair (by simpa only[Ty] using y1)
  have huT:TS u:=Nat.le_trans hu (by decide)
  obtain ⟨c2,y2,a2⟩:=aAn td3 aLa (hval 2 3 v2 rfl rfl) h2 (fY (i:=2) hsz (by rw[Tryz.params8]; rfl) rfl)
  obtain ⟨t0,rfl,ht0⟩:=aJz y2
  refine(aD1 s hz ts u v t0 huT (fun _=>False) W [v0,v1,v2] (fun _ h=>h.elim) ⟨rfl,fun i c v hc hv=>?_⟩).mono fun e W' ⟨v,r,he,hr,hE,hv⟩=>?_
  · match i,hc,hv with
    | 0,hc,hv=>cases hc; cases hv; exact a0
    | 1,hc,hv=>cases hc; cases hv; exact a1
    | 2,hc,hv=>cases hc; cases hv; exact a2
  · subst hr
    cases hv
    exact⟨_,he,nI (t:=4) hW' (iY hE) laid (by rw[Tryz.params8]; decide +kernel) rfl (fun _=>rfl) (by kernel_rfl) (by kernel_rfl) Tryz.underlying4⟩
set_option maxRecDepth 100000 in
theorem yZ (os:Os) (started:os.Started) (H:Type) (enc:TypeId×Value→H) (F:Stop.Interp) :
    ReturnsInHanded {} Tryz.checked os 8 .any (Rows.stateErasesSpec.pre6 enc Tryz.prog Tryz.f8 Rows.stateErasesRow.domain false) (Rows.stateErasesSpec.post enc Tryz.prog Tryz.f8 false true false false):=by
  refine returnsInHanded_of_change_sized (C:=Tryz.checked) (s:=Rows.stateErasesSpec) own started (by kernel_rfl) Tryz.func8
    (ChangeSpec.witness6 (enc:=enc) (C:=Tryz.checked) (s:=Rows.stateErasesSpec) false ⟨#[],#[.agg #[.int .i64 0,.int .i64 0,.slice none 0 0,.slice none 0 0,.slice none 0 0,.slice none 0 0],.agg #[.string ⟨#[]⟩,.string ⟨#[]⟩],.int .i64 0],[]⟩ 8 (by kernel_rfl) (by kernel_rfl) (by kernel_rfl) (by kernel_rfl)) ?_
  intro W base args ds gs before hval hW _ hsz _
  exact vQ H enc W base args ds gs before hval hW hsz
theorem stateErases_proved:Rows.StateErasesSaid :=
  OpenClaim.holds_of_wide 8 Tryz.f8 rfl rfl rfl rfl rfl rfl rfl ⟨rfl,rfl,rfl,rfl,rfl⟩ rfl rfl rfl rfl rfl (by kernel_rfl) Tryz.func8 (by kernel_rfl)
    (of_decide_eq_true (by kernel_rfl)) (by unfold Func.isWrapper; first | (rw[if_pos (by decide +kernel)]; kernel_rfl) | (rw[if_neg (by decide +kernel)]; exact⟨rfl,rfl⟩))
    (fun os started H enc _=>yZ os started H enc default)
end Go.Proofs.YtckjaledibkghaaGreat
