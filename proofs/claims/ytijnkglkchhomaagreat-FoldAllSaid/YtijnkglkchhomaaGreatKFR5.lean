/-
  The law FoldAll: whatever the state, the events and the user, the call returns true, and all read behind it as they read before. No condition beyond the row's own.
-/
import Derived.Test.YtijnkglkchhomaaGreatRows
import Derived.WalkKit
import Derived.ProofKit
import Derived.OpenShut
import Derived.JoinedCond
import Derived.SizedLaws
import Derived.Test.YtijnkglkchhomaaGreatK1
import Derived.Test.YtijnkglkchhomaaGreatK2
import Derived.Test.YtijnkglkchhomaaGreatK3
import Derived.Test.YtijnkglkchhomaaGreatK4
import Derived.Test.YtijnkglkchhomaaGreatK5
import Derived.Test.YtijnkglkchhomaaGreatK6
set_option maxRecDepth 20000
set_option maxHeartbeats 16000000
set_option linter.unusedVariables false
set_option linter.unusedSimpArgs false
namespace Go.Proofs.YtijnkglkchhomaaGreat
open Go Go.Abs
theorem xG {l:List Ev} {k:Nat} (hk:k<l.length):aG8 (l.take (k+1))=if (l.take k).isEmpty=true∨aG8 (l.take k)<l[k].at' then l[k].at' else aG8 (l.take k):=by
  cases l with
  | nil=>simp at hk
  | cons x r =>
    cases k with
    | zero=>rfl
    | succ k =>
      have hk':k<r.length:=by simpa using hk
      show (sO (r.take (k+1)) x).at'=_
      rw[aAh hk']
      simp only[List.take_succ_cons,List.isEmpty_cons,Bool.false_eq_true,false_or,List.getElem_cons_succ,aG8]
      split <;> rfl
theorem aEt {l:List Ev} {k:Nat} (hk:k<l.length):(l.take (k+1)).isEmpty=false:=by
  cases l with
  | nil=>simp at hk
  | cons x r=>rfl
theorem xC {x y:Bool} (h:x=y):(some (AV.s (Value.bool x)):Option AV)=some (AV.s (Value.bool y)):=by rw[h]
theorem aK6 (s:Sta) (hz:SzS 140737488351232 s) (ts:TsS s) (l:List Ev) (ht:∀ e∈l,TS e.user∧TS e.other) (u:ByteArray) :Den Tryz.prog 3 [.agg (aL s),.sl 6 (l.map evC),.s (.string u)]  (·=.s (.bool true)):=by
 have hzM:SzS 140737488353280 s:=hz.mono (by omega)
 refine aY Tryz.func3 rfl (Nat.le_of_ble_eq_true rfl) (fun w0 A hf=>(aC (fun K1 hK1=>(aB (aM hf rfl (cT rfl rfl (lf rfl)) (aE aA 1 rfl (aD (hK1 _ (aC (fun K2 hK2=>(aC (fun K3 hK3=>(aB (aE aA 1 rfl (aM hf rfl (aQ rfl rfl aFn rfl (aEg s hzM)) (aE aA 2 rfl ?_))))))))))))))))
 refine bC rfl rfl rfl (fun hg1=>?_) (fun hg1=>?_)
 ·
  simp only[bs] at hg1
  refine aH rfl (aH8 rfl gA cQ rfl rfl) ?_
  refine bP rfl rfl rfl (aM hf rfl (aQ rfl rfl aFm rfl (wN s (hz.mono (by omega)) ts)) (aE aA 3 rfl (bC rfl rfl rfl (fun hg2=>?_) (fun hg2=>?_))))
  ·
   simp only[bs] at hg2
   refine aH rfl (fD rfl) (aE aA 3 rfl (aD (hK3 _ (aO rfl (fun hc3=>?_) (fun hc3=>?_)))))
   ·
    simp only[bs] at hc3
    refine aC (fun K4 hK4=>(aB (aM hf rfl (aQ rfl rfl gB rfl (fM)) (aE aA 1 rfl (aD (hK4 _ (aN ?_)))))))
    refine⟨_,rfl,?_⟩
    rfl
   ·
    simp only[bs] at hc3
    have hR:RightP s:=pV.1 (by simp_all)
    have hl40:l.length≤40:=by omega
    have hl60:l.length≤60:=by omega
    have hzF:SzS 140737488353280 (aI s l):=(tK l hz hR).mono (by omega)
    have hRF:RightP (aI s l):=oJ l hR
    have hlT:=pU l s
    have hlW:(aW u l).length≤l.length:=List.length_filter_le _ _
    refine aP (hK2 _ (aC (fun K5 hK5=>(aB (aE aA 1 rfl (aM hf rfl (aQ rfl rfl cV rfl (dH _ (by omega))) (aE aA 1 rfl (aD (hK5 _ (aC (fun K6 hK6=>(aB (aE aA 1 rfl (aM hf rfl (aQ rfl rfl tS rfl (newW _ (by assumption))) ?_))))))))))))))
    refine aE aA 1 rfl (aM hf rfl (aQ rfl rfl eZ rfl (hZ s l hz hR hl60 ht)) (aE aA 3 rfl (cF hf rfl bB rfl cM rfl rfl rfl rfl (lf rfl) (aE aA 1 rfl (aD (hK6 _ (aC (fun K7 hK7=>(aB (aE aA 2 rfl (aM hf rfl (aQ rfl rfl aFl rfl (aA2 s l hz hR hl60 ht)) (aE aA 3 rfl (cF hf rfl cG rfl cQ rfl rfl rfl rfl (lf rfl) ?_)))))))))))))
    refine aE aA 1 rfl (aD (hK7 _ (aC (fun K8 hK8=>(aB (aE aA 2 rfl (aD (hK8 _ (aC (fun K9 hK9=>(aC (fun K10 hK10=>(aB (aE aA 3 rfl (aD ?_)))))))))))))))
    refine hK10 _ (aR (bY (ι:=Nat) (fun k=>⟨118,[(1,.sl 6 (l.map evC)),(2,.s (.string u)),(3,.adr (aL s)),(7,.sl 6 (l.map evC)),(8,.adr (aL (aI s l))),(9,.sl 1 (bE (aT s l))),(10,.adr (aL (aI s l))),(11,.sl 1 (bE (aT s l))),(12,.s (.int .i64 (aG8 (l.take k)))),(13,.s (.bool (!(l.take k).isEmpty))),(47,.sl 6 (l.map evC)),(48,.s (.int .i64 ((l.map evC).length:Nat))),(49,.s (.int .i64 (k:Nat)))],[]⟩) (fun k=>k≤l.length) (fun k=>l.length - k) 0 ?_ ?_ ?_))
    · exact Nat.zero_le _
    · exact lF rfl rfl rfl
    ·
     rintro k hC
     refine aC (fun K11 hK11=>(aB (aE aA 1 rfl (aD (hK11 _ (aC (fun K12 hK12=>(aO rfl (fun hc4=>?_) (fun hc4=>?_)))))))))
     ·
      simp only[bs] at hc4
      have hk:k<l.length:=by omega
      refine aP (hK12 _ (aC (fun K13 hK13=>(aR (aC (fun K14 hK14=>(aB ?_)))))))
      refine aH rfl (bA rfl rfl oC lM (by first | assumption | (refine⟨by omega,?_⟩; first | assumption | exact fK (by omega) | exact fK (by simp only[List.length_cons] at *; omega) | exact lV (by omega) | exact nV (by omega) | exact lS (by omega)) | exact⟨by decide,rfl⟩)) ?_
      refine aE aA 1 rfl (cF hf rfl aLu rfl lM rfl rfl rfl rfl (lf rfl) (aD (hK14 _ (aC (fun K15 hK15=>(aB (aE aA 3 rfl (bC rfl rfl rfl (fun hg5=>?_) (fun hg5=>?_)))))))))
      ·
       simp only[bs] at hg5
       refine aH rfl (bQ rfl aBk cI rfl) ?_
       refine aE aA 4 rfl (aD (hK15 _ (aO rfl (fun hc6=>?_) (fun hc6=>?_))))
       ·
        simp only[bs] at hc6
        refine aB (aE aA 4 rfl ?_)
        refine bL ?_
        refine hK13 _ (aB ?_)
        refine aH rfl (bS rfl rfl (by omega) (by omega)) ?_
        refine aE aA 1 rfl (aD ?_)
        exact⟨k+1,by omega,by omega,cJ ⟨rfl,rfl,rfl,rfl,rfl,rfl,rfl,rfl,aU (by rw[xG hk,if_pos (by first | exact .inr (by omega) | exact .inl (by simp_all))]),xC (by rw[aEt hk]; rfl),rfl,rfl,aU (by omega),trivial⟩ rfl⟩
       ·
        simp only[bs] at hc6
        refine aP (hK13 _ (aB ?_))
        refine aH rfl (bS rfl rfl (by omega) (by omega)) ?_
        refine aE aA 1 rfl (aD ?_)
        exact⟨k+1,by omega,by omega,cJ ⟨rfl,rfl,rfl,rfl,rfl,rfl,rfl,rfl,aU (by rw[xG hk,if_neg (by simp_all)]),xC (by rw[aEt hk]; simp_all),rfl,rfl,aU (by omega),trivial⟩ rfl⟩
      ·
       simp only[bs] at hg5
       refine aE aA 4 rfl (aD (hK15 _ (bW rfl (aB (aE aA 4 rfl ?_)))))
       refine bL ?_
       refine hK13 _ (aB ?_)
       refine aH rfl (bS rfl rfl (by omega) (by omega)) ?_
       refine aE aA 1 rfl (aD ?_)
       exact⟨k+1,by omega,by omega,cJ ⟨rfl,rfl,rfl,rfl,rfl,rfl,rfl,rfl,aU (by rw[xG hk,if_pos (by first | exact .inr (by omega) | exact .inl (by simp_all))]),xC (by rw[aEt hk]; rfl),rfl,rfl,aU (by omega),trivial⟩ rfl⟩
     ·
      simp only[bs] at hc4
      refine bF (hK9 _ (aC (fun K16 hK16=>(aB ?_))))
      rw[List.take_of_length_le (by omega)]
      refine aE aA 1 rfl (aM hf rfl (aQ rfl rfl xW rfl (xF l (by omega))) (aE aA 5 rfl (aD (hK16 _ (aC (fun K17 hK17=>(dM hf bN (by kernel_rfl) rfl (cC [] rfl rfl trivial rfl (aQ rfl rfl gB rfl (fM)) (bG aA 2 rfl (cC [(71,_)] rfl rfl ⟨⟨rfl,rfl⟩,trivial⟩ rfl (aQ rfl rfl aP6 rfl (oldW (aI s l) hzF)) (bG aA 1 rfl (cC [(72,_),(73,_)] rfl rfl ⟨⟨rfl,rfl⟩,⟨rfl,rfl⟩,trivial⟩ rfl (aQ rfl rfl aP7 rfl (aTi (aI s l) hzF)) (bG aA 4 rfl ?_)))))))))))))
      refine cC [(77,_),(78,_)] rfl rfl ⟨⟨rfl,rfl⟩,⟨rfl,rfl⟩,trivial⟩ rfl (aQ rfl rfl xV rfl (wW (aT s l) (by rw[eT]; omega))) ?_
      refine bG aA 3 rfl (cC [(82,_)] rfl rfl ⟨⟨rfl,rfl⟩,trivial⟩ rfl (aQ rfl rfl tS rfl (newW s hzM)) (bG aA 1 rfl (cC [(83,_),(84,_)] rfl rfl ⟨⟨rfl,rfl⟩,⟨rfl,rfl⟩,trivial⟩ rfl (aQ rfl rfl mY rfl (oG s l hz hR hl60 ht)) (cC [(85,_)] rfl rfl ⟨⟨rfl,rfl⟩,trivial⟩ rfl (aQ rfl rfl xT rfl (aAb (aV s l) (by omega))) (bG aA 2 rfl (cC [(87,_),(88,_)] rfl rfl ⟨⟨rfl,rfl⟩,⟨rfl,rfl⟩,trivial⟩ rfl (aQ rfl rfl aP5 rfl (aH1 s l hz hR hl60 ht)) (cC [(86,_),(89,_)] rfl rfl ⟨⟨rfl,rfl⟩,⟨rfl,rfl⟩,trivial⟩ rfl (aQ rfl rfl xU rfl (zS (aV s l) (by omega))) ?_)))))))
      refine bG aA 4 rfl (cC [(93,_),(94,_)] rfl rfl ⟨⟨rfl,rfl⟩,⟨rfl,rfl⟩,trivial⟩ rfl (aQ rfl rfl oQ rfl (kJ l u (by omega))) (cC [(95,_)] rfl rfl ⟨⟨rfl,rfl⟩,trivial⟩ rfl (aQ rfl rfl xT rfl (aAb (aW u l) (by omega))) (bG aA 2 rfl (cC [(97,_),(98,_)] rfl rfl ⟨⟨rfl,rfl⟩,⟨rfl,rfl⟩,trivial⟩ rfl (aQ rfl rfl aP4 rfl (zY l u (by omega))) (cC [(96,_),(99,_)] rfl rfl ⟨⟨rfl,rfl⟩,⟨rfl,rfl⟩,trivial⟩ rfl (aQ rfl rfl xU rfl (zS (aW u l) (by omega))) (bG aA 4 rfl ?_))))))
      refine bX [(103,_),(104,_)] rfl rfl ⟨⟨rfl,rfl⟩,⟨rfl,rfl⟩,trivial⟩ rfl (dD rfl rfl (iE (rfl))) (bG aA 4 rfl (bX [(108,_),(109,_)] rfl rfl ⟨⟨rfl,rfl⟩,⟨rfl,rfl⟩,trivial⟩ rfl (dD rfl rfl (aUf Tryz.underlying4 (rfl))) (bG aA 3 rfl (cC [(113,_)] rfl rfl ⟨⟨rfl,rfl⟩,trivial⟩ rfl (aQ rfl rfl xT rfl (aAb l (by omega))) (bG aA 1 rfl (cC [(114,_),(115,_)] rfl rfl ⟨⟨rfl,rfl⟩,⟨rfl,rfl⟩,trivial⟩ rfl (aQ rfl rfl xU rfl (zS l (by omega))) (bG aA 2 rfl (dQ [6] rfl rfl rfl (hK17 _ ?_)))))))))
      refine aN ?_
      refine⟨_,rfl,?_⟩
      rfl
  ·
   simp only[bs] at hg2
   refine aE aA 3 rfl (aD (hK3 _ (bW rfl (aC (fun K18 hK18=>(aB (aM hf rfl (aQ rfl rfl gB rfl (fM)) (aE aA 1 rfl (aD (hK18 _ (aN ?_)))))))))))
   refine⟨_,rfl,?_⟩
   rfl
 ·
  simp only[bs] at hg1
  refine aE aA 8 rfl (aD (hK3 _ (bW rfl (aC (fun K19 hK19=>(aB (aM hf rfl (aQ rfl rfl gB rfl (fM)) (aE aA 1 rfl (aD (hK19 _ (aN ?_)))))))))))
  refine⟨_,rfl,?_⟩
  rfl
end Go.Proofs.YtijnkglkchhomaaGreat
set_option linter.unusedVariables false
set_option linter.unusedSimpArgs false
namespace Go.Proofs.YtijnkglkchhomaaGreat
open Go Go.Abs
end Go.Proofs.YtijnkglkchhomaaGreat
set_option linter.unusedVariables false
set_option linter.unusedSimpArgs false
namespace Go.Proofs.YtijnkglkchhomaaGreat
open Go Go.Abs
end Go.Proofs.YtijnkglkchhomaaGreat
namespace Go.Proofs.YtijnkglkchhomaaGreat
open Go.ChangeShapes Go.WideShapes Go.ChangeAt Go.RowKit Go.Abs
set_option linter.unusedVariables false
theorem own:ownKnob Tryz.prog.godebug=none:=by kernel_rfl
theorem laid:laidOutB Tryz.prog=true:=by kernel_rfl
theorem td9:tdOf? Tryz.prog 16 9=some (.str):=by kernel_rfl
theorem td27:tdOf? Tryz.prog 16 27=some (.agg [.int .i64,.int .i64,.sl 40 (.agg [.int .i64,.str,.int .i64,.int .i64]),.sl 40 (.agg [.str,.sl 32 (.agg [.int .i64,.int .i64,.int .i64,.int .i64])]),.sl 48 (.agg [.str,.str,.int .i64,.int .i64]),.sl 24 (.agg [.str,.int .i64])]):=by kernel_rfl
theorem aQ6:tdOf? Tryz.prog 16 28=some (.sl 64 (.agg [.int .i64,.int .i64,.str,.str,.int .i64,.int .i64])):=by kernel_rfl
set_option maxRecDepth 100000 in
theorem aAn (H:Type) (enc:TypeId×Value→H) (W:World) (base:Nat) (args:Array Value) (ds gs:List (DataW H)) (before:List MemPlace)
    (hval:∀ (j:Nat) t v,Tryz.f3.params[j]?=some t→args[j]?=some v→Value.okWide Tryz.prog W .any base t v)
    (hW:DataW.Whole enc Tryz.prog Tryz.f3.params.toList Rows.foldAllSpec.vars false W args.toList ds gs before)
    (hsz:(DataW.weightsEach Tryz.prog (Tryz.f3.params.toList++Rows.foldAllSpec.plain.varTypes Tryz.prog) (ds++gs)).all (·≤reachBytes)=true) :
    Calls Tryz.prog 3 args W fun e W'=>∃ v,e=.returned v∧Rows.foldAllSpec.post enc Tryz.prog Tryz.f3 false true false false W args v W':=by
  have hW':=hW
  obtain ⟨p,q,hA0,hV,rfl,hfz,hnd⟩:=hW
  have hA:DataW.TrodAll enc Tryz.prog W 0 (fun _=>true) true Tryz.f3.params.toList args.toList ds p:=hA0
  rw[Tryz.params3] at hA hval
  obtain ⟨v0,vs0,d0,ds0,p0,q0,hargs,rfl,rfl,h0,r0⟩:=trodAll_cons hA
  obtain ⟨v1,vs1,d1,ds1,p1,q1,rfl,rfl,rfl,h1,r1⟩:=trodAll_cons r0
  obtain ⟨v2,vs2,d2,ds2,p2,q2,rfl,rfl,rfl,h2,r2⟩:=trodAll_cons r1
  obtain ⟨rfl,rfl,rfl⟩:=trodAll_nil r2
  obtain rfl:args=#[v0,v1,v2]:=by cases args; simp_all
  obtain ⟨c0,y0,a0⟩:=aQi td27 gA (hval 0 27 v0 rfl rfl) h0 (lT (i:=0) hsz (by rw[Tryz.params3]; rfl) rfl)
  obtain ⟨s,rfl,hz,ts⟩:=aS4 (by simpa only[Ty] using y0)
  obtain ⟨c1,y1,a1⟩:=tG aQ6 zH (hval 1 28 v1 rfl rfl) h1 (lT (i:=1) hsz (by rw[Tryz.params3]; rfl) rfl)
  obtain ⟨l,rfl,_,hl⟩:=aHw y1
  obtain ⟨c2,y2,a2⟩:=tG td9 aI2 (hval 2 9 v2 rfl rfl) h2 (lT (i:=2) hsz (by rw[Tryz.params3]; rfl) rfl)
  obtain ⟨u,rfl,hu⟩:=aNv y2
  have huT:TS u:=Nat.le_trans hu (by decide)
  refine(aK6 s hz ts l hl u (fun _=>False) W [v0,v1,v2] (fun _ h=>h.elim) ⟨rfl,fun i c v hc hv=>?_⟩).mono fun e W' ⟨v,r,he,hr,hE,hv⟩=>?_
  · match i,hc,hv with
    | 0,hc,hv=>cases hc; cases hv; exact a0
    | 1,hc,hv=>cases hc; cases hv; exact a1
    | 2,hc,hv=>cases hc; cases hv; exact a2
  · subst hr
    cases hv
    exact⟨_,he,zT (t:=4) hW' (tN hE) laid (by rw[Tryz.params3]; decide +kernel) rfl (fun _=>rfl) (by kernel_rfl) (by kernel_rfl) Tryz.underlying4⟩
set_option maxRecDepth 100000 in
theorem aEq (os:Os) (started:os.Started) (H:Type) (enc:TypeId×Value→H) (F:Stop.Interp) :
    ReturnsInHanded {} Tryz.checked os 3 .any (Rows.foldAllSpec.pre6 enc Tryz.prog Tryz.f3 Rows.foldAllRow.domain false) (Rows.foldAllSpec.post enc Tryz.prog Tryz.f3 false true false false):=by
  refine returnsInHanded_of_change_sized (C:=Tryz.checked) (s:=Rows.foldAllSpec) own started (by kernel_rfl) Tryz.func3
    (ChangeSpec.witness6 (enc:=enc) (C:=Tryz.checked) (s:=Rows.foldAllSpec) false ⟨#[],#[.agg #[.int .i64 0,.int .i64 0,.slice none 0 0,.slice none 0 0,.slice none 0 0,.slice none 0 0],.slice none 0 0,.string ⟨#[]⟩],[]⟩ 8 (by kernel_rfl) (by kernel_rfl) (by kernel_rfl) (by kernel_rfl)) ?_
  intro W base args ds gs before hval hW _ hsz _
  exact aAn H enc W base args ds gs before hval hW hsz
theorem aOu:(Rows.foldAllRow.wf (OpenSpec.ofChange Rows.foldAllSpec)&&laidOutB Tryz.prog&&mapsRowed Tryz.prog)=true:=by kernel_rfl
theorem aOt:(Rows.foldAllRow.inPlace == Tryz.prog.inPlace 3)=true:=by kernel_rfl
theorem aOs:(Rows.foldAllRow.unfollowed == Tryz.prog.unfollowed 3)=true:=by kernel_rfl
theorem aOr:(Rows.foldAllRow.recurses == Tryz.prog.recurses 3)=true:=by kernel_rfl
theorem aOq:(Rows.foldAllRow.named == Tryz.prog.varsNamed 3)=true:=by kernel_rfl
theorem aEr:joinedFacts Tryz.prog 3 Tryz.f3 Rows.foldAllSpec Rows.foldAllRow=true:=by
  have h0:=aOu
  simp only[Bool.and_eq_true] at h0
  obtain ⟨⟨h5,h6⟩,h7⟩:=h0
  unfold joinedFacts
  repeat (rw[Bool.and_eq_true]; refine And.intro ?_ ?_)
  all_goals with_reducible first | exact aOt | exact aOs | exact aOr | exact aOq | exact h5 | exact h6 | exact h7 | kernel_rfl
theorem foldAll_proved:Rows.FoldAllSaid :=
  OpenClaim.holds_of_wide 3 Tryz.f3 rfl rfl rfl rfl rfl rfl rfl ⟨rfl,rfl,rfl,rfl,rfl⟩ rfl rfl rfl rfl rfl (by kernel_rfl) Tryz.func3 aEr
    (of_decide_eq_true (by kernel_rfl)) (by unfold Func.isWrapper; first | (rw[if_pos (by decide +kernel)]; kernel_rfl) | (rw[if_neg (by decide +kernel)]; exact⟨rfl,rfl⟩))
    (fun os started H enc _=>aEq os started H enc default)
end Go.Proofs.YtijnkglkchhomaaGreat
