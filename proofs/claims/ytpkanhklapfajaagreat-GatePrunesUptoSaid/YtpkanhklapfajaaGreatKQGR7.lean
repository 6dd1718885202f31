/-
  The law GatePrunes, in its second form: whatever the state and the question, the call returns true, and all read behind it as they read before. Condition: all that is handed over takes no more than 1048576 places, counted each time they are reached.
-/
import Derived.Test.YtpkanhklapfajaaGreatRows
import Derived.WalkKit
import Derived.ProofKit
import Derived.OpenShut
import Derived.JoinedCond
import Derived.SizedLaws
import Derived.Deep.CondSized
import Derived.Test.YtpkanhklapfajaaGreatKQ1
import Derived.Test.YtpkanhklapfajaaGreatKQ2
import Derived.Test.YtpkanhklapfajaaGreatKQ3
import Derived.Test.YtpkanhklapfajaaGreatKQ4
import Derived.Test.YtpkanhklapfajaaGreatKQ5
import Derived.Test.YtpkanhklapfajaaGreatKQ6
set_option maxRecDepth 20000
set_option maxHeartbeats 16000000
set_option linter.unusedVariables false
set_option linter.unusedSimpArgs false
namespace Go.Proofs.YtpkanhklapfajaaGreat
open Go Go.Abs
end Go.Proofs.YtpkanhklapfajaaGreat
set_option linter.unusedVariables false
set_option linter.unusedSimpArgs false
namespace Go.Proofs.YtpkanhklapfajaaGreat
open Go Go.Abs
end Go.Proofs.YtpkanhklapfajaaGreat
set_option linter.unusedVariables false
set_option linter.unusedSimpArgs false
namespace Go.Proofs.YtpkanhklapfajaaGreat
open Go Go.Abs
end Go.Proofs.YtpkanhklapfajaaGreat
set_option linter.unusedVariables false
set_option linter.unusedSimpArgs false
namespace Go.Proofs.YtpkanhklapfajaaGreat
open Go Go.Abs
theorem aGh (s:Sta) (hz:SzS 140737488351232 s) (ts:TsS s) (hc:dZ s+s.usr.length≤1048576) (p:Pr) (q:Sp) (t:Int) (h1:TS p.1) (h2:TS p.2) :Den Tryz.prog 9 [.agg (aT s),.agg (cL p q t)]  (·=.s (.bool true)):=by
 have hzM:SzS 140737488353280 s:=hz.mono (by omega)
 have hmi:=uO hc
 refine aR Tryz.func9 rfl (Nat.le_of_ble_eq_true rfl) (fun w0 A hf=>(aC (fun K1 hK1=>(aB (aI hf rfl (cE rfl rfl (lf rfl)) (aI hf rfl (cE rfl rfl (lf rfl)) (aE aA 1 rfl (aD (hK1 _ (aC (fun K2 hK2=>(aC (fun K3 hK3=>(aB (aE aA 1 rfl (aI hf rfl (aK rfl rfl rX rfl (rL s hzM)) ?_))))))))))))))))
 refine aE aA 2 rfl (aU rfl rfl rfl (fun hg1=>?_) (fun hg1=>?_))
 ·
  simp only[bs] at hg1
  refine aH rfl (xX rfl mO xK rfl rfl) ?_
  refine aX rfl rfl rfl (aI hf rfl (aK rfl rfl rW rfl (mI s (hz.mono (by omega)) ts)) (aE aA 2 rfl (aD (hK3 _ (aL rfl (fun hc2=>?_) (fun hc2=>?_))))))
  ·
   simp only[bs] at hc2
   refine aC (fun K4 hK4=>(aB (aI hf rfl (aK rfl rfl cW rfl (cN)) (aE aA 1 rfl (aD (hK4 _ (aJ ?_)))))))
   refine⟨_,rfl,?_⟩
   rfl
  ·
   simp only[bs] at hc2
   have hR:RightP s:=jV.1 (by simp_all)
   have hcn:dZ s≤100:=by omega
   have hs:∀ t,(dE s p.2 t).length≤102:=fun t=>by have:=mY hR p.2 t; omega
   have hb:s.sub.length≤101:=by unfold dZ at hcn; omega
   have hrl:∀ q t,(eC s p q t).length≤100000:=fun q t=>tJ (hs t) hb
   have hRP:=aCy hR
   have hzP:SzS 140737488353280 (mF s):=pruneSz hzM
   have hkP:=aOg s
   have hsP:∀ t,(dE (mF s) p.2 t).length≤102:=fun t=>by have:=mY hRP p.2 t; omega
   have hbP:(mF s).sub.length≤101:=by unfold dZ at hkP hcn; omega
   have hwP:fU (mF s) p t=fU s p t:=xN rfl
   have hlP:mE (mF s) p t=mE s p t:=by rw[mE,aCt hR]; rfl
   have hr1:=hrl q t
   refine aN (hK2 _ (aC (fun K5 hK5=>(aB (aE aA 1 rfl (aI hf rfl (aK rfl rfl cS rfl (nQ s hzM)) (bY hf rfl bA rfl cG rfl rfl rfl rfl (lf rfl) (aD (hK5 _ (aC (fun K6 hK6=>(aB (aE aA 1 rfl (aI hf rfl (aK rfl rfl aS9 rfl (pruneW s hzM)) ?_))))))))))))))
   refine bY hf rfl bA rfl cG rfl rfl rfl rfl (lf rfl) (aD (hK6 _ (aC (fun K7 hK7=>(cP hf bE (by kernel_rfl) rfl (aV aA 2 rfl (bJ [(32,_)] rfl rfl ⟨⟨rfl,rfl⟩,trivial⟩ rfl (aK rfl rfl eF rfl (fH p q t)) (bJ [(31,_),(33,_)] rfl rfl ⟨⟨rfl,rfl⟩,⟨rfl,rfl⟩,trivial⟩ rfl (aK rfl rfl gA rfl (gT s p q t h1 h2 hzM hR (hs t) hb)) (aV aA 5 rfl (cT [3,5,6,7,8] rfl rfl rfl (hK7 _ (aC (fun K8 hK8=>(cP hf bE (by kernel_rfl) rfl ?_))))))))))))))
   refine aV aA 2 rfl (bJ [(39,_)] rfl rfl ⟨⟨rfl,rfl⟩,trivial⟩ rfl (aK rfl rfl eF rfl (fH p q t)) (bJ [(38,_),(40,_)] rfl rfl ⟨⟨rfl,rfl⟩,⟨rfl,rfl⟩,trivial⟩ rfl (aK rfl rfl gA rfl ((show Den Tryz.prog _ _ (·=.tup [.sl 4 ((eC s p q t).map stC),.s (.int .i64 (fU s p t))]) from kO (gT (mF s) p q t h1 h2 hzP hRP (hsP t) hbP) (by rw[aCt hR,hwP])))) ?_))
   refine aV aA 5 rfl (cT [3,5,6,7,8,9,10] rfl rfl rfl (hK8 _ (aC (fun K9 hK9=>(cP hf bE (by kernel_rfl) rfl (aV aA 2 rfl (bJ [(46,_)] rfl rfl ⟨⟨rfl,rfl⟩,trivial⟩ rfl (aK rfl rfl eF rfl (fH p q t)) (aV aA 3 rfl (bJ [(45,_),(48,_),(50,_)] rfl rfl ⟨⟨rfl,rfl⟩,⟨rfl,rfl⟩,⟨rfl,rfl⟩,trivial⟩ rfl (aK rfl rfl lQ rfl (oS s p t h1 h2 hzM hR (hs t) hb)) (aV aA 7 rfl (cT [3,6,7,8,9,10,11,12,13] rfl rfl rfl (hK9 _ (aC (fun K10 hK10=>?_))))))))))))))
   refine cP hf bE (by kernel_rfl) rfl (aV aA 2 rfl (bJ [(57,_)] rfl rfl ⟨⟨rfl,rfl⟩,trivial⟩ rfl (aK rfl rfl eF rfl (fH p q t)) (aV aA 3 rfl (bJ [(56,_),(59,_),(61,_)] rfl rfl ⟨⟨rfl,rfl⟩,⟨rfl,rfl⟩,⟨rfl,rfl⟩,trivial⟩ rfl (aK rfl rfl lQ rfl ((show Den Tryz.prog _ _ (·=.tup [.s (.int .i64 (mE s p t).1),.s (.bool (mE s p t).2),.s (.int .i64 (fU s p t))]) from kO (oS (mF s) p t h1 h2 hzP hRP (hsP t) hbP) (by rw[hlP,hwP])))) ?_))))
   refine aV aA 7 rfl (cT [7,8,9,10,11,12,13,14,15,16] rfl rfl rfl (hK10 _ (aC (fun K11 hK11=>(aB (aI hf rfl (aK rfl rfl cW rfl (cN)) (aE aA 3 rfl (aX rfl rfl rfl (aI hf rfl (aK rfl rfl vG rfl (uF (eC s p q t) _ rfl (by omega))) (aE aA 4 rfl (aX rfl rfl rfl (aH rfl (fG rfl rfl (iO (rfl))) (aE aA 4 rfl ?_)))))))))))))
   refine aX rfl rfl rfl (aH rfl (fG rfl rfl (iO (rfl))) (aE aA 4 rfl (aX rfl rfl rfl (aH rfl (fG rfl rfl (aOq Tryz.underlying4 (rfl))) (aE aA 4 rfl (aX rfl rfl rfl (aH rfl (fG rfl rfl (iO (rfl))) (aE aA 2 rfl (aD (hK11 _ (aJ ?_)))))))))))
   refine⟨_,rfl,?_⟩
   rfl
 ·
  simp only[bs] at hg1
  refine aE aA 3 rfl (aD (hK3 _ (bN rfl (aC (fun K12 hK12=>(aB (aI hf rfl (aK rfl rfl cW rfl (cN)) (aE aA 1 rfl (aD (hK12 _ (aJ ?_)))))))))))
  refine⟨_,rfl,?_⟩
  rfl
end Go.Proofs.YtpkanhklapfajaaGreat
set_option linter.unusedVariables false
set_option linter.unusedSimpArgs false
namespace Go.Proofs.YtpkanhklapfajaaGreat
open Go Go.Abs
end Go.Proofs.YtpkanhklapfajaaGreat
namespace Go.Proofs.YtpkanhklapfajaaGreat
open Go.ChangeShapes Go.WideShapes Go.ChangeAt Go.RowKit Go.Abs
set_option linter.unusedVariables false
theorem own:ownKnob Tryz.prog.godebug=none:=by kernel_rfl
theorem laid:laidOutB Tryz.prog=true:=by kernel_rfl
theorem aKf:tdOf? Tryz.prog 16 27=some (.agg [.int .i64,.int .i64,.sl 40 (.agg [.int .i64,.str,.int .i64,.int .i64]),.sl 40 (.agg [.str,.sl 32 (.agg [.int .i64,.int .i64,.int .i64,.int .i64])]),.sl 48 (.agg [.str,.str,.int .i64,.int .i64]),.sl 24 (.agg [.str,.int .i64])]):=by kernel_rfl
theorem aKe:tdOf? Tryz.prog 16 29=some (.agg [.str,.str,.int .i64,.int .i64,.int .i64]):=by kernel_rfl
theorem iY {H:Type}:∀ l:List (DataW H),(l.map Rows.uptoBulk).sum=Rows.uptoBulkAll l
  | []=>rfl
  | d::l=>by simp only[List.map_cons,List.sum_cons,iY l,Rows.uptoBulkAll]
theorem uV {H:Type}:IsBulk (H:=H) Rows.uptoBulk:=⟨fun d=>by
    cases d with
    | lit l=>cases l <;> simp [Rows.uptoBulk]
    | nil=>simp [Rows.uptoBulk]
    | ptr d=>simp [Rows.uptoBulk]
    | slice elems spare=>simp [Rows.uptoBulk]
    | agg parts=>simp [Rows.uptoBulk]
    | iface t d=>simp [Rows.uptoBulk]
    | map entries=>simp [Rows.uptoBulk]
    | held h=>simp [Rows.uptoBulk],fun e s=>by rw[iY]; simp only[Rows.uptoBulk]; omega,fun p=>by rw[iY]; simp only[Rows.uptoBulk]; omega⟩
set_option maxRecDepth 100000 in
theorem yI (H:Type) (enc:TypeId×Value→H) (W:World) (base:Nat) (args:Array Value) (ds gs:List (DataW H)) (before:List MemPlace)
    (hval:∀ (j:Nat) t v,Tryz.f9.params[j]?=some t→args[j]?=some v→Value.okWide Tryz.prog W .any base t v)
    (hW:DataW.Whole enc Tryz.prog Tryz.f9.params.toList Rows.gatePrunesSpec.vars false W args.toList ds gs before)
    (hk:Rows.uptoSmall H (ds++gs)=true)
    (hsz:(DataW.weightsEach Tryz.prog (Tryz.f9.params.toList++Rows.gatePrunesSpec.plain.varTypes Tryz.prog) (ds++gs)).all (·≤reachBytes)=true) :
    Calls Tryz.prog 9 args W fun e W'=>∃ v,e=.returned v∧Rows.gatePrunesSpec.post enc Tryz.prog Tryz.f9 false true false false W args v W':=by
  have hW':=hW
  obtain ⟨p,q,hA0,hV,rfl,hfz,hnd⟩:=hW
  have hA:DataW.TrodAll enc Tryz.prog W 0 (fun _=>true) true Tryz.f9.params.toList args.toList ds p:=hA0
  rw[Tryz.params9] at hA hval
  obtain ⟨v0,vs0,d0,ds0,p0,q0,hargs,rfl,rfl,h0,r0⟩:=trodAll_cons hA
  obtain ⟨v1,vs1,d1,ds1,p1,q1,rfl,rfl,rfl,h1,r1⟩:=trodAll_cons r0
  obtain ⟨rfl,rfl,rfl⟩:=trodAll_nil r1
  obtain rfl:args=#[v0,v1]:=by cases args; simp_all
  have hbk:Rows.uptoBulkAll ([d0,d1]++gs)≤1048576:=of_decide_eq_true hk
  simp only[List.cons_append,List.nil_append,Rows.uptoBulkAll] at hbk
  have hb0:Rows.uptoBulk d0≤1048576:=by omega
  have hb1:Rows.uptoBulk d1≤1048576:=by omega
  obtain ⟨c0,y0,z0,a0⟩:=aAg uV aKf mO (hval 0 27 v0 rfl rfl) h0 (iE (i:=0) hsz (by rw[Tryz.params9]; rfl) rfl)
  obtain ⟨s,rfl,hz,ts⟩:=aE2 (by simpa only[Ty] using y0)
  have hcs:=aEk z0
  obtain ⟨c1,y1,a1⟩:=sF aKe wZ (hval 1 29 v1 rfl rfl) h1 (iE (i:=1) hsz (by rw[Tryz.params9]; rfl) rfl)
  obtain ⟨p,q,t,rfl,hp1,hp2,ht0,ht1⟩:=aE4 (by simpa only[Ty] using y1)
  refine(aGh s hz ts (by omega) p q t hp1 hp2 (fun _=>False) W [v0,v1] (fun _ h=>h.elim) ⟨rfl,fun i c v hc hv=>?_⟩).mono fun e W' ⟨v,r,he,hr,hE,hv⟩=>?_
  · match i,hc,hv with
    | 0,hc,hv=>cases hc; cases hv; exact a0
    | 1,hc,hv=>cases hc; cases hv; exact a1
  · subst hr
    cases hv
    exact⟨_,he,tE (t:=4) hW' (oE hE) laid (by rw[Tryz.params9]; decide +kernel) rfl (fun _=>rfl) (by kernel_rfl) (by kernel_rfl) Tryz.underlying4⟩
set_option maxRecDepth 100000 in
theorem aA2 (os:Os) (started:os.Started) (H:Type) (enc:TypeId×Value→H) (F:Stop.Interp) :
    ReturnsInHanded {} Tryz.checked os 9 .any ((Rows.OpenSpec.upto Rows.gatePrunesSpec).pre6 enc Tryz.prog Tryz.f9 Rows.gatePrunesUptoRow.domain false) (((Rows.OpenSpec.upto Rows.gatePrunesSpec).at F).post enc Tryz.prog Tryz.f9 false true false false):=by
  refine returnsInHanded_of_cond_sized (C:=Tryz.checked) (s:=(Rows.OpenSpec.upto Rows.gatePrunesSpec)) (k:=Rows.uptoSmall) rfl own started (by kernel_rfl) Tryz.func9
    (OpenSpec.witness (enc:=enc) (C:=Tryz.checked) (s:=(Rows.OpenSpec.upto Rows.gatePrunesSpec)) (k:=Rows.uptoSmall) rfl false ⟨#[],#[.agg #[.int .i64 0,.int .i64 0,.slice none 0 0,.slice none 0 0,.slice none 0 0,.slice none 0 0],.agg #[.string ⟨#[]⟩,.string ⟨#[]⟩,.int .i64 0,.int .i64 0,.int .i64 0]],[]⟩ 8 (by kernel_rfl) (by kernel_rfl) (by kernel_rfl)
      (x:=([.agg [.lit (.int .i64 0),.lit (.int .i64 0),.nil,.nil,.nil,.nil],.agg [.lit (.string []),.lit (.string []),.lit (.int .i64 0),.lit (.int .i64 0),.lit (.int .i64 0)]],[],[])) (by kernel_rfl) rfl (by kernel_rfl)) ?_
  intro W base args ds gs before hval hW _ hk hsz _
  exact yI H enc W base args ds gs before hval hW hk hsz
theorem aIg:(Rows.gatePrunesUptoRow.wf (OpenSpec.ofChange (Rows.OpenSpec.upto Rows.gatePrunesSpec).bare)&&laidOutB Tryz.prog&&mapsRowed Tryz.prog)=true:=by kernel_rfl
theorem aIf:(Rows.gatePrunesUptoRow.inPlace == Tryz.prog.inPlace 9)=true:=by kernel_rfl
theorem aIe:(Rows.gatePrunesUptoRow.unfollowed == Tryz.prog.unfollowed 9)=true:=by kernel_rfl
theorem aId:(Rows.gatePrunesUptoRow.recurses == Tryz.prog.recurses 9)=true:=by kernel_rfl
theorem aIc:(Rows.gatePrunesUptoRow.named == Tryz.prog.varsNamed 9)=true:=by kernel_rfl
theorem aA3:joinedFacts Tryz.prog 9 Tryz.f9 (Rows.OpenSpec.upto Rows.gatePrunesSpec).bare Rows.gatePrunesUptoRow=true:=by
  have h0:=aIg
  simp only[Bool.and_eq_true] at h0
  obtain ⟨⟨h5,h6⟩,h7⟩:=h0
  unfold joinedFacts
  repeat (rw[Bool.and_eq_true]; refine And.intro ?_ ?_)
  all_goals with_reducible first | exact aIf | exact aIe | exact aId | exact aIc | exact h5 | exact h6 | exact h7 | kernel_rfl
theorem gatePrunes_proved:Rows.GatePrunesUptoSaid :=
  OpenClaim.holds_of_cond 9 Tryz.f9 rfl rfl rfl rfl rfl rfl rfl ⟨rfl,rfl,rfl,rfl,rfl⟩ rfl rfl rfl rfl rfl (by kernel_rfl) Tryz.func9 aA3
    (of_decide_eq_true (by kernel_rfl)) (by unfold Func.isWrapper; first | (rw[if_pos (by decide +kernel)]; kernel_rfl) | (rw[if_neg (by decide +kernel)]; exact⟨rfl,rfl⟩))
    (fun os started H enc _ F=>aA2 os started H enc F)
end Go.Proofs.YtpkanhklapfajaaGreat
