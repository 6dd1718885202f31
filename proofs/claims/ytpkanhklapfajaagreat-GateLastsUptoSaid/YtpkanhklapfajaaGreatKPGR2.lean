/-
  The law GateLasts, in its second form: whatever the state, the pair and the time, the call returns true, and all read behind it as they read before. Condition: all that is handed over takes no more than 1048576 places, counted each time they are reached.
-/
import Derived.Test.YtpkanhklapfajaaGreatRows
import Derived.WalkKit
import Derived.ProofKit
import Derived.OpenShut
import Derived.JoinedCond
import Derived.SizedLaws
import Derived.Deep.CondSized
import Derived.Test.YtpkanhklapfajaaGreatKP1
import Derived.Test.YtpkanhklapfajaaGreatKP2
import Derived.Test.YtpkanhklapfajaaGreatKP3
import Derived.Test.YtpkanhklapfajaaGreatKP4
import Derived.Test.YtpkanhklapfajaaGreatKP5
import Derived.Test.YtpkanhklapfajaaGreatKP6
set_option maxRecDepth 20000
set_option maxHeartbeats 16000000
set_option linter.unusedVariables false
set_option linter.unusedSimpArgs false
namespace Go.Proofs.YtpkanhklapfajaaGreat
open Go Go.Abs
theorem aFp (s:Sta) (hz:SzS 140737488351232 s) (ts:TsS s) (hc:fG s+s.usr.length≤1048576) (p:Pr) (t:Int) (h1:TS p.1) (h2:TS p.2) :Den Tryz.prog 4 [.agg (bJ s),.agg (prC p),.s (.int .i64 t)]  (·=.s (.bool true)):=by
 have hzM:SzS 140737488353280 s:=hz.mono (by omega)
 have hmi:=wE hc
 refine aR Tryz.func4 rfl (Nat.le_of_ble_eq_true rfl) (fun w0 A hf=>(aC (fun K1 hK1=>(aB (aJ hf rfl (cE rfl rfl (lf rfl)) (aJ hf rfl (cE rfl rfl (lf rfl)) (aE aA 1 rfl (aD (hK1 _ (aC (fun K2 hK2=>(aC (fun K3 hK3=>(aB (aE aA 1 rfl (aJ hf rfl (aO rfl rfl wX rfl (wF s hzM)) ?_))))))))))))))))
 refine aE aA 2 rfl (aW rfl rfl rfl (fun hg1=>?_) (fun hg1=>?_))
 ·
  simp only[bs] at hg1
  refine aG rfl (aB1 rfl rQ aE1 rfl rfl) ?_
  refine bE rfl rfl rfl (aJ hf rfl (aO rfl rfl wW rfl (qL s (hz.mono (by omega)) ts)) (aE aA 2 rfl (aD (hK3 _ (aK rfl (fun hc2=>?_) (fun hc2=>?_))))))
  ·
   simp only[bs] at hc2
   refine aC (fun K4 hK4=>(aB (aJ hf rfl (aO rfl rfl fQ rfl (eX)) (aE aA 1 rfl (aD (hK4 _ (aI ?_)))))))
   refine⟨_,rfl,?_⟩
   rfl
  ·
   simp only[bs] at hc2
   have hR:RightP s:=mR.1 (by simp_all)
   have hcn:fG s≤100:=by omega
   have hs:∀ t,(dN s p.2 t).length≤102:=fun t=>by have:=tD hR p.2 t; omega
   have hb:s.sub.length≤101:=by unfold fG at hcn; omega
   have hrl:∀ q t,(fU s p q t).length≤100000:=fun q t=>qW (hs t) hb
   refine aL (hK2 _ (aC (fun K5 hK5=>(cU hf bF (by kernel_rfl) rfl (aT aA 1 rfl (bL [(23,_)] rfl rfl ⟨⟨rfl,rfl⟩,trivial⟩ rfl (aO rfl rfl sR rfl (newW s hzM)) (aT aA 2 rfl (bL [(24,_),(25,_),(26,_)] rfl rfl ⟨⟨rfl,rfl⟩,⟨rfl,rfl⟩,⟨rfl,rfl⟩,trivial⟩ rfl (aO rfl rfl wV rfl (wG s p t h1 h2 hzM hR (hs t) hb)) (aT aA 7 rfl (cY [2,3,4,7,8,9] rfl rfl rfl (hK5 _ (aC (fun K6 hK6=>(aB ?_))))))))))))))
   refine aE aA 3 rfl (aJ hf rfl (aO rfl rfl aPe rfl (aFb s p t h1 h2 hzM hR (hs t) hb)) (aE aA 7 rfl (aD (hK6 _ (aC (fun K7 hK7=>(cU hf bF (by kernel_rfl) rfl (bL [] rfl rfl trivial rfl (aO rfl rfl fQ rfl (eX)) (aT aA 3 rfl (bI [(41,_),(42,_)] rfl rfl ⟨⟨rfl,rfl⟩,⟨rfl,rfl⟩,trivial⟩ rfl (eN rfl rfl (iF (rfl))) (aT aA 4 rfl (bI [(46,_),(47,_)] rfl rfl ⟨⟨rfl,rfl⟩,⟨rfl,rfl⟩,trivial⟩ rfl (eN rfl rfl (aKy Tryz.underlying4 (rfl))) (aT aA 4 rfl ?_)))))))))))))
   refine bI [(51,_),(52,_)] rfl rfl ⟨⟨rfl,rfl⟩,⟨rfl,rfl⟩,trivial⟩ rfl (eN rfl rfl (iF (rfl))) (aT aA 3 rfl (bL [(56,_)] rfl rfl ⟨⟨rfl,rfl⟩,trivial⟩ rfl (aO rfl rfl sR rfl (newW s hzM)) (aT aA 2 rfl (bL [(57,_),(58,_),(59,_)] rfl rfl ⟨⟨rfl,rfl⟩,⟨rfl,rfl⟩,⟨rfl,rfl⟩,trivial⟩ rfl (aO rfl rfl wU rfl (vW s p t hb)) (aT aA 3 rfl (bL [(61,_),(62,_),(63,_)] rfl rfl ⟨⟨rfl,rfl⟩,⟨rfl,rfl⟩,⟨rfl,rfl⟩,trivial⟩ rfl (aO rfl rfl aEx rfl (vJ s p t hb)) (bI [(60,_),(64,_)] rfl rfl ⟨⟨rfl,rfl⟩,⟨rfl,rfl⟩,trivial⟩ rfl (eN rfl rfl (aKy Tryz.underlying4 (rfl))) ?_)))))))
   refine aT aA 2 rfl (cY [6] rfl rfl rfl (hK7 _ (aI ?_)))
   refine⟨_,rfl,?_⟩
   rfl
 ·
  simp only[bs] at hg1
  refine aE aA 3 rfl (aD (hK3 _ (bY rfl (aC (fun K8 hK8=>(aB (aJ hf rfl (aO rfl rfl fQ rfl (eX)) (aE aA 1 rfl (aD (hK8 _ (aI ?_)))))))))))
  refine⟨_,rfl,?_⟩
  rfl
end Go.Proofs.YtpkanhklapfajaaGreat
set_option linter.unusedVariables false
set_option linter.unusedSimpArgs false
namespace Go.Proofs.YtpkanhklapfajaaGreat
open Go Go.Abs
end Go.Proofs.YtpkanhklapfajaaGreat
namespace Go.Proofs.YtpkanhklapfajaaGreat
open Go.ChangeShapes Go.WideShapes Go.ChangeAt Go.RowKit Go.Abs
set_option linter.unusedVariables false
theorem own:ownKnob Tryz.prog.godebug=none:=by kernel_rfl
theorem laid:laidOutB Tryz.prog=true:=by kernel_rfl
theorem td3:tdOf? Tryz.prog 16 3=some (.int .i64):=by kernel_rfl
theorem aSs:tdOf? Tryz.prog 16 27=some (.agg [.int .i64,.int .i64,.sl 40 (.agg [.int .i64,.str,.int .i64,.int .i64]),.sl 40 (.agg [.str,.sl 32 (.agg [.int .i64,.int .i64,.int .i64,.int .i64])]),.sl 48 (.agg [.str,.str,.int .i64,.int .i64]),.sl 24 (.agg [.str,.int .i64])]):=by kernel_rfl
theorem td57:tdOf? Tryz.prog 16 57=some (.agg [.str,.str]):=by kernel_rfl
theorem kG {H:Type}:∀ l:List (DataW H),(l.map Rows.uptoBulk).sum=Rows.uptoBulkAll l
  | []=>rfl
  | d::l=>by simp only[List.map_cons,List.sum_cons,kG l,Rows.uptoBulkAll]
theorem yG {H:Type}:IsBulk (H:=H) Rows.uptoBulk:=⟨fun d=>by
    cases d with
    | lit l=>cases l <;> simp [Rows.uptoBulk]
    | nil=>simp [Rows.uptoBulk]
    | ptr d=>simp [Rows.uptoBulk]
    | slice elems spare=>simp [Rows.uptoBulk]
    | agg parts=>simp [Rows.uptoBulk]
    | iface t d=>simp [Rows.uptoBulk]
    | map entries=>simp [Rows.uptoBulk]
    | held h=>simp [Rows.uptoBulk],fun e s=>by rw[kG]; simp only[Rows.uptoBulk]; omega,fun p=>by rw[kG]; simp only[Rows.uptoBulk]; omega⟩
set_option maxRecDepth 100000 in
theorem wI (H:Type) (enc:TypeId×Value→H) (W:World) (base:Nat) (args:Array Value) (ds gs:List (DataW H)) (before:List MemPlace)
    (hval:∀ (j:Nat) t v,Tryz.f4.params[j]?=some t→args[j]?=some v→Value.okWide Tryz.prog W .any base t v)
    (hW:DataW.Whole enc Tryz.prog Tryz.f4.params.toList Rows.gateLastsSpec.vars false W args.toList ds gs before)
    (hk:Rows.uptoSmall H (ds++gs)=true)
    (hsz:(DataW.weightsEach Tryz.prog (Tryz.f4.params.toList++Rows.gateLastsSpec.plain.varTypes Tryz.prog) (ds++gs)).all (·≤reachBytes)=true) :
    Calls Tryz.prog 4 args W fun e W'=>∃ v,e=.returned v∧Rows.gateLastsSpec.post enc Tryz.prog Tryz.f4 false true false false W args v W':=by
  have hW':=hW
  obtain ⟨p,q,hA0,hV,rfl,hfz,hnd⟩:=hW
  have hA:DataW.TrodAll enc Tryz.prog W 0 (fun _=>true) true Tryz.f4.params.toList args.toList ds p:=hA0
  rw[Tryz.params4] at hA hval
  obtain ⟨v0,vs0,d0,ds0,p0,q0,hargs,rfl,rfl,h0,r0⟩:=trodAll_cons hA
  obtain ⟨v1,vs1,d1,ds1,p1,q1,rfl,rfl,rfl,h1,r1⟩:=trodAll_cons r0
  obtain ⟨v2,vs2,d2,ds2,p2,q2,rfl,rfl,rfl,h2,r2⟩:=trodAll_cons r1
  obtain ⟨rfl,rfl,rfl⟩:=trodAll_nil r2
  obtain rfl:args=#[v0,v1,v2]:=by cases args; simp_all
  have hbk:Rows.uptoBulkAll ([d0,d1,d2]++gs)≤1048576:=of_decide_eq_true hk
  simp only[List.cons_append,List.nil_append,Rows.uptoBulkAll] at hbk
  have hb0:Rows.uptoBulk d0≤1048576:=by omega
  have hb1:Rows.uptoBulk d1≤1048576:=by omega
  have hb2:Rows.uptoBulk d2≤1048576:=by omega
  obtain ⟨c0,y0,z0,a0⟩:=aC1 yG aSs rQ (hval 0 27 v0 rfl rfl) h0 (lP (i:=0) hsz (by rw[Tryz.params4]; rfl) rfl)
  obtain ⟨s,rfl,hz,ts⟩:=aM9 (by simpa only[Ty] using y0)
  have hcs:=aG0 z0
  obtain ⟨c1,y1,a1⟩:=aG5 td57 aUp (hval 1 57 v1 rfl rfl) h1 (lP (i:=1) hsz (by rw[Tryz.params4]; rfl) rfl)
  obtain ⟨p1,p2,rfl,hp1,hp2⟩:=ty_pair (by simpa only[Ty] using y1)
  have hq1:TS p1:=Nat.le_trans hp1 (by decide)
  have hq2:TS p2:=Nat.le_trans hp2 (by decide)
  obtain ⟨c2,y2,a2⟩:=aPv td3 jI (hval 2 3 v2 rfl rfl) h2 (lP (i:=2) hsz (by rw[Tryz.params4]; rfl) rfl)
  obtain ⟨t0,rfl,ht0⟩:=aG1 y2
  refine(aFp s hz ts (by omega) (p1,p2) t0 hq1 hq2 (fun _=>False) W [v0,v1,v2] (fun _ h=>h.elim) ⟨rfl,fun i c v hc hv=>?_⟩).mono fun e W' ⟨v,r,he,hr,hE,hv⟩=>?_
  · match i,hc,hv with
    | 0,hc,hv=>cases hc; cases hv; exact a0
    | 1,hc,hv=>cases hc; cases hv; exact a1
    | 2,hc,hv=>cases hc; cases hv; exact a2
  · subst hr
    cases hv
    exact⟨_,he,yV (t:=4) hW' (sN hE) laid (by rw[Tryz.params4]; decide +kernel) rfl (fun _=>rfl) (by kernel_rfl) (by kernel_rfl) Tryz.underlying4⟩
set_option maxRecDepth 100000 in
theorem zN (os:Os) (started:os.Started) (H:Type) (enc:TypeId×Value→H) (F:Stop.Interp) :
    ReturnsInHanded {} Tryz.checked os 4 .any ((Rows.OpenSpec.upto Rows.gateLastsSpec).pre6 enc Tryz.prog Tryz.f4 Rows.gateLastsUptoRow.domain false) (((Rows.OpenSpec.upto Rows.gateLastsSpec).at F).post enc Tryz.prog Tryz.f4 false true false false):=by
  refine returnsInHanded_of_cond_sized (C:=Tryz.checked) (s:=(Rows.OpenSpec.upto Rows.gateLastsSpec)) (k:=Rows.uptoSmall) rfl own started (by kernel_rfl) Tryz.func4
    (OpenSpec.witness (enc:=enc) (C:=Tryz.checked) (s:=(Rows.OpenSpec.upto Rows.gateLastsSpec)) (k:=Rows.uptoSmall) rfl false ⟨#[],#[.agg #[.int .i64 0,.int .i64 0,.slice none 0 0,.slice none 0 0,.slice none 0 0,.slice none 0 0],.agg #[.string ⟨#[]⟩,.string ⟨#[]⟩],.int .i64 0],[]⟩ 8 (by kernel_rfl) (by kernel_rfl) (by kernel_rfl)
      (x:=([.agg [.lit (.int .i64 0),.lit (.int .i64 0),.nil,.nil,.nil,.nil],.agg [.lit (.string []),.lit (.string [])],.lit (.int .i64 0)],[],[])) (by kernel_rfl) rfl (by kernel_rfl)) ?_
  intro W base args ds gs before hval hW _ hk hsz _
  exact wI H enc W base args ds gs before hval hW hk hsz
theorem aHz:(Rows.gateLastsUptoRow.wf (OpenSpec.ofChange (Rows.OpenSpec.upto Rows.gateLastsSpec).bare)&&laidOutB Tryz.prog&&mapsRowed Tryz.prog)=true:=by kernel_rfl
theorem aHy:(Rows.gateLastsUptoRow.inPlace == Tryz.prog.inPlace 4)=true:=by kernel_rfl
theorem aHx:(Rows.gateLastsUptoRow.unfollowed == Tryz.prog.unfollowed 4)=true:=by kernel_rfl
theorem aHw:(Rows.gateLastsUptoRow.recurses == Tryz.prog.recurses 4)=true:=by kernel_rfl
theorem aHv:(Rows.gateLastsUptoRow.named == Tryz.prog.varsNamed 4)=true:=by kernel_rfl
theorem zO:joinedFacts Tryz.prog 4 Tryz.f4 (Rows.OpenSpec.upto Rows.gateLastsSpec).bare Rows.gateLastsUptoRow=true:=by
  have h0:=aHz
  simp only[Bool.and_eq_true] at h0
  obtain ⟨⟨h5,h6⟩,h7⟩:=h0
  unfold joinedFacts
  repeat (rw[Bool.and_eq_true]; refine And.intro ?_ ?_)
  all_goals with_reducible first | exact aHy | exact aHx | exact aHw | exact aHv | exact h5 | exact h6 | exact h7 | kernel_rfl
theorem gateLasts_proved:Rows.GateLastsUptoSaid :=
  OpenClaim.holds_of_cond 4 Tryz.f4 rfl rfl rfl rfl rfl rfl rfl ⟨rfl,rfl,rfl,rfl,rfl⟩ rfl rfl rfl rfl rfl (by kernel_rfl) Tryz.func4 zO
    (of_decide_eq_true (by kernel_rfl)) (by unfold Func.isWrapper; first | (rw[if_pos (by decide +kernel)]; kernel_rfl) | (rw[if_neg (by decide +kernel)]; exact⟨rfl,rfl⟩))
    (fun os started H enc _ F=>zN os started H enc F)
end Go.Proofs.YtpkanhklapfajaaGreat
