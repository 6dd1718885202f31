/-
  The law StateGrows, in its second form: whatever the state and the event, the call returns true, and both read behind it as they read before. Condition: the two together take no more than 1048576 places, counted each time they are reached.
-/
import Derived.Test.YtijnkglkchhomaaGreatRows
import Derived.WalkKit
import Derived.ProofKit
import Derived.OpenShut
import Derived.JoinedCond
import Derived.SizedLaws
import Derived.Deep.CondSized
import Derived.Test.YtijnkglkchhomaaGreatKB1
import Derived.Test.YtijnkglkchhomaaGreatKB2
import Derived.Test.YtijnkglkchhomaaGreatKB3
import Derived.Test.YtijnkglkchhomaaGreatKB4
import Derived.Test.YtijnkglkchhomaaGreatKB5
set_option maxRecDepth 20000
set_option maxHeartbeats 16000000
set_option linter.unusedVariables false
set_option linter.unusedSimpArgs false
namespace Go.Proofs.YtijnkglkchhomaaGreat
open Go Go.Abs
end Go.Proofs.YtijnkglkchhomaaGreat
set_option linter.unusedVariables false
set_option linter.unusedSimpArgs false
namespace Go.Proofs.YtijnkglkchhomaaGreat
open Go Go.Abs
end Go.Proofs.YtijnkglkchhomaaGreat
set_option linter.unusedVariables false
set_option linter.unusedSimpArgs false
namespace Go.Proofs.YtijnkglkchhomaaGreat
open Go Go.Abs
theorem yR {P:Program} {t:TypeId} {k:IntKind} {a b:Int} (h:a≤b):oQ P .leq t (.int k a) (.int k b)=some (.bool true):=by
  simp [oQ,wJ,h]
theorem aC7 (s:Sta) (hz:SzS 140737488351232 s) (ts:TsS s) (e:Ev) (hu:TS e.user) (ho:TS e.other) (hc:dJ s≤1048576) :Den Tryz.prog 10 [.agg (aL s),.agg (evC e)]  (·=.s (.bool true)):=by
 have hzM:SzS 140737488353280 s:=hz.mono (by omega)
 refine aY Tryz.func10 rfl (Nat.le_of_ble_eq_true rfl) (fun w0 A hf=>(aC (fun K1 hK1=>(aB (aN hf rfl (cS rfl rfl (lf rfl)) (aN hf rfl (cS rfl rfl (lf rfl)) (aE aA 1 rfl (aD (hK1 _ (aC (fun K2 hK2=>(aC (fun K3 hK3=>(aB (aE aA 1 rfl (aN hf rfl (aP rfl rfl aFh rfl (aD9 s hzM)) ?_))))))))))))))))
 refine aE aA 2 rfl (bA rfl rfl rfl (fun hg1=>?_) (fun hg1=>?_))
 ·
  simp only[bs] at hg1
  refine aI rfl (aCl rfl zG aNp rfl rfl) ?_
  refine bF rfl rfl rfl (aN hf rfl (aP rfl rfl aFg rfl (wN s (hz.mono (by omega)) ts)) (aE aA 2 rfl (aD (hK3 _ (aO rfl (fun hc2=>?_) (fun hc2=>?_))))))
  ·
   simp only[bs] at hc2
   refine aC (fun K4 hK4=>(aB (aN hf rfl (aP rfl rfl xU rfl (vA)) (aE aA 1 rfl (aD (hK4 _ (aM ?_)))))))
   refine⟨_,rfl,?_⟩
   rfl
  ·
   simp only[bs] at hc2
   refine aR (hK2 _ (aC (fun K5 hK5=>(aB ?_))))
   have hR:RightP s:=iP.1 (by simp_all)
   have hzA:SzS 140737488353280 (cG s e).1:=aIu hz hR.usr (by omega)
   have hRA:RightP (cG s e).1:=tH hR e
   have ho:=aP3 hR
   have hzR:SzS 140737488353280 (kZ s):=resetSz hz hR.usr (by omega)
   have hzP:SzS 140737488353280 (pR s):=pruneSz hzM
   have hcR:=aLa hR
   have hcP:=aLb s
   refine aE aA 1 rfl (aN hf rfl (aP rfl rfl xV rfl (newW _ (by assumption))) (cC hf rfl aX rfl bS rfl rfl rfl rfl (lf rfl) (aD (hK5 _ (aC (fun K6 hK6=>(aB (aE aA 1 rfl (aN hf rfl (aP rfl rfl lO rfl ((show Den Tryz.prog _ _ (·=.s (.int .i64 ((dJ s:Nat):Int))) from fH (kE s hzM) (by rw[wrap_i64 (by omega) (by omega)])))) ?_)))))))))
   refine aE aA 1 rfl (aD (hK6 _ (aC (fun K7 hK7=>(aB (aE aA 2 rfl (aN hf rfl (aP rfl rfl lN rfl (applyW _ _ (by assumption) (by assumption) (by assumption) (by assumption))) (aE aA 3 rfl (cC hf rfl aX rfl bS rfl rfl rfl rfl (lf rfl) (aE aA 1 rfl (aD (hK7 _ (aC (fun K8 hK8=>?_))))))))))))))
   refine aB (aN hf rfl (aP rfl rfl xU rfl (vA)) (aE aA 4 rfl (bA rfl rfl rfl (fun hg3=>?_) (fun hg3=>?_))))
   ·
    simp only[bs] at hg3
    refine aI rfl (aCl rfl jH bS rfl rfl) ?_
    refine bF rfl rfl rfl (aN hf rfl (aP rfl rfl lO rfl ((show Den Tryz.prog _ _ (·=.s (.int .i64 ((dJ (cG s e).1:Nat):Int))) from fH (kE (cG s e).1 hzA) (by have hq:=aA7 hR (by first | assumption | omega | (simp_all; done)); rw[wrap_i64 (by omega) (by omega)])))) ?_)
    refine aE aA 1 rfl (bF rfl rfl rfl ?_)
    refine aI rfl (bQ rfl rfl (by omega) (by omega)) ?_
    refine bF rfl rfl rfl (aI rfl (eO rfl rfl (yR (by have hq:=aA7 hR (by first | assumption | omega | (simp_all; done)); omega))) ?_)
    refine aE aA 4 rfl (bF rfl rfl rfl (aN hf rfl (aP rfl rfl tP rfl (aSz _ (by assumption) (by assumption))) (bF rfl rfl rfl (aN hf rfl (aP rfl rfl lO rfl ((show Den Tryz.prog _ _ (·=.s (.int .i64 ((dJ (kZ s):Nat):Int))) from fH (kE (kZ s) hzR) (by rw[wrap_i64 (by omega) (by omega)])))) ?_))))
    refine aE aA 1 rfl (bF rfl rfl rfl (aI rfl (eO rfl rfl (yR (by omega))) (aE aA 3 rfl (bF rfl rfl rfl (aN hf rfl (aP rfl rfl xT rfl (aS5 _ (by assumption))) (bF rfl rfl rfl (aN hf rfl (aP rfl rfl lO rfl ((show Den Tryz.prog _ _ (·=.s (.int .i64 ((dJ (pR s):Nat):Int))) from fH (kE (pR s) hzP) (by rw[wrap_i64 (by omega) (by omega)])))) ?_)))))))
    refine aE aA 1 rfl (bF rfl rfl rfl (aI rfl (eO rfl rfl (yR (by omega))) (aE aA 2 rfl (aD (hK8 _ (aM ?_))))))
    refine⟨_,rfl,?_⟩
    rfl
   ·
    simp only[bs] at hg3
    refine aE aA 8 rfl (bF rfl rfl rfl (aN hf rfl (aP rfl rfl tP rfl (aSz _ (by assumption) (by assumption))) (bF rfl rfl rfl (aN hf rfl (aP rfl rfl lO rfl ((show Den Tryz.prog _ _ (·=.s (.int .i64 ((dJ (kZ s):Nat):Int))) from fH (kE (kZ s) hzR) (by rw[wrap_i64 (by omega) (by omega)])))) ?_))))
    refine aE aA 1 rfl (bF rfl rfl rfl (aI rfl (eO rfl rfl (yR (by omega))) (aE aA 3 rfl (bF rfl rfl rfl (aN hf rfl (aP rfl rfl xT rfl (aS5 _ (by assumption))) (bF rfl rfl rfl (aN hf rfl (aP rfl rfl lO rfl ((show Den Tryz.prog _ _ (·=.s (.int .i64 ((dJ (pR s):Nat):Int))) from fH (kE (pR s) hzP) (by rw[wrap_i64 (by omega) (by omega)])))) ?_)))))))
    refine aE aA 1 rfl (bF rfl rfl rfl (aI rfl (eO rfl rfl (yR (by omega))) (aE aA 2 rfl (aD (hK8 _ (aM ?_))))))
    refine⟨_,rfl,?_⟩
    rfl
 ·
  simp only[bs] at hg1
  refine aE aA 3 rfl (aD (hK3 _ (bP rfl (aC (fun K9 hK9=>(aB (aN hf rfl (aP rfl rfl xU rfl (vA)) (aE aA 1 rfl (aD (hK9 _ (aM ?_)))))))))))
  refine⟨_,rfl,?_⟩
  rfl
end Go.Proofs.YtijnkglkchhomaaGreat
namespace Go.Proofs.YtijnkglkchhomaaGreat
open Go.ChangeShapes Go.WideShapes Go.ChangeAt Go.RowKit Go.Abs
set_option linter.unusedVariables false
theorem own:ownKnob Tryz.prog.godebug=none:=by kernel_rfl
theorem laid:laidOutB Tryz.prog=true:=by kernel_rfl
theorem td27:tdOf? Tryz.prog 16 27=some (.agg [.int .i64,.int .i64,.sl 40 (.agg [.int .i64,.str,.int .i64,.int .i64]),.sl 40 (.agg [.str,.sl 32 (.agg [.int .i64,.int .i64,.int .i64,.int .i64])]),.sl 48 (.agg [.str,.str,.int .i64,.int .i64]),.sl 24 (.agg [.str,.int .i64])]):=by kernel_rfl
theorem td47:tdOf? Tryz.prog 16 47=some (.agg [.int .i64,.int .i64,.str,.str,.int .i64,.int .i64]):=by kernel_rfl
theorem aEw {H:Type}:∀ l:List (DataW H),(l.map Rows.uptoBulk).sum=Rows.uptoBulkAll l
  | []=>rfl
  | d::l=>by simp only[List.map_cons,List.sum_cons,aEw l,Rows.uptoBulkAll]
theorem bulk_is {H:Type}:IsBulk (H:=H) Rows.uptoBulk:=⟨fun d=>by
    cases d with
    | lit l=>cases l <;> simp [Rows.uptoBulk]
    | nil=>simp [Rows.uptoBulk]
    | ptr d=>simp [Rows.uptoBulk]
    | slice elems spare=>simp [Rows.uptoBulk]
    | agg parts=>simp [Rows.uptoBulk]
    | iface t d=>simp [Rows.uptoBulk]
    | map entries=>simp [Rows.uptoBulk]
    | held h=>simp [Rows.uptoBulk],fun e s=>by rw[aEw]; simp only[Rows.uptoBulk]; omega,fun p=>by rw[aEw]; simp only[Rows.uptoBulk]; omega⟩
set_option maxRecDepth 100000 in
theorem wG (H:Type) (enc:TypeId×Value→H) (W:World) (base:Nat) (args:Array Value) (ds gs:List (DataW H)) (before:List MemPlace)
    (hval:∀ (j:Nat) t v,Tryz.f10.params[j]?=some t→args[j]?=some v→Value.okWide Tryz.prog W .any base t v)
    (hW:DataW.Whole enc Tryz.prog Tryz.f10.params.toList Rows.stateGrowsSpec.vars false W args.toList ds gs before)
    (hk:Rows.uptoSmall H (ds++gs)=true)
    (hsz:(DataW.weightsEach Tryz.prog (Tryz.f10.params.toList++Rows.stateGrowsSpec.plain.varTypes Tryz.prog) (ds++gs)).all (·≤reachBytes)=true) :
    Calls Tryz.prog 10 args W fun e W'=>∃ v,e=.returned v∧Rows.stateGrowsSpec.post enc Tryz.prog Tryz.f10 false true false false W args v W':=by
  have hW':=hW
  obtain ⟨p,q,hA0,hV,rfl,hfz,hnd⟩:=hW
  have hA:DataW.TrodAll enc Tryz.prog W 0 (fun _=>true) true Tryz.f10.params.toList args.toList ds p:=hA0
  rw[Tryz.params10] at hA hval
  obtain ⟨v0,vs0,d0,ds0,p0,q0,hargs,rfl,rfl,h0,r0⟩:=trodAll_cons hA
  obtain ⟨v1,vs1,d1,ds1,p1,q1,rfl,rfl,rfl,h1,r1⟩:=trodAll_cons r0
  obtain ⟨rfl,rfl,rfl⟩:=trodAll_nil r1
  obtain rfl:args=#[v0,v1]:=by cases args; simp_all
  have hbk:Rows.uptoBulkAll ([d0,d1]++gs)≤1048576:=of_decide_eq_true hk
  simp only[List.cons_append,List.nil_append,Rows.uptoBulkAll] at hbk
  have hb0:Rows.uptoBulk d0≤1048576:=by omega
  have hb1:Rows.uptoBulk d1≤1048576:=by omega
  obtain ⟨c0,y0,z0,a0⟩:=aS2 bulk_is td27 zG (hval 0 27 v0 rfl rfl) h0 (lU (i:=0) hsz (by rw[Tryz.params10]; rfl) rfl)
  obtain ⟨s,rfl,hz,ts⟩:=aSo (by simpa only[Ty] using y0)
  have hcs:=tyb_sta z0
  obtain ⟨c1,y1,a1⟩:=aP5 td47 aUf (hval 1 47 v1 rfl rfl) h1 (lU (i:=1) hsz (by rw[Tryz.params10]; rfl) rfl)
  obtain ⟨e,rfl,he1,he2⟩:=ty_ev (by simpa only[Ty] using y1)
  refine(aC7 s hz ts e he1 he2 (by omega) (fun _=>False) W [v0,v1] (fun _ h=>h.elim) ⟨rfl,fun i c v hc hv=>?_⟩).mono fun e W' ⟨v,r,he,hr,hE,hv⟩=>?_
  · match i,hc,hv with
    | 0,hc,hv=>cases hc; cases hv; exact a0
    | 1,hc,hv=>cases hc; cases hv; exact a1
  · subst hr
    cases hv
    exact⟨_,he,zS (t:=4) hW' (tG hE) laid (by rw[Tryz.params10]; decide +kernel) rfl (fun _=>rfl) (by kernel_rfl) (by kernel_rfl) Tryz.underlying4⟩
set_option maxRecDepth 100000 in
theorem yC (os:Os) (started:os.Started) (H:Type) (enc:TypeId×Value→H) (F:Stop.Interp) :
    ReturnsInHanded {} Tryz.checked os 10 .any ((Rows.OpenSpec.upto Rows.stateGrowsSpec).pre6 enc Tryz.prog Tryz.f10 Rows.stateGrowsUptoRow.domain false) (((Rows.OpenSpec.upto Rows.stateGrowsSpec).at F).post enc Tryz.prog Tryz.f10 false true false false):=by
  refine returnsInHanded_of_cond_sized (C:=Tryz.checked) (s:=(Rows.OpenSpec.upto Rows.stateGrowsSpec)) (k:=Rows.uptoSmall) rfl own started (by kernel_rfl) Tryz.func10
    (OpenSpec.witness (enc:=enc) (C:=Tryz.checked) (s:=(Rows.OpenSpec.upto Rows.stateGrowsSpec)) (k:=Rows.uptoSmall) rfl false ⟨#[],#[.agg #[.int .i64 0,.int .i64 0,.slice none 0 0,.slice none 0 0,.slice none 0 0,.slice none 0 0],.agg #[.int .i64 0,.int .i64 0,.string ⟨#[]⟩,.string ⟨#[]⟩,.int .i64 0,.int .i64 0]],[]⟩ 8 (by kernel_rfl) (by kernel_rfl) (by kernel_rfl)
      (x:=([.agg [.lit (.int .i64 0),.lit (.int .i64 0),.nil,.nil,.nil,.nil],.agg [.lit (.int .i64 0),.lit (.int .i64 0),.lit (.string []),.lit (.string []),.lit (.int .i64 0),.lit (.int .i64 0)]],[],[])) (by kernel_rfl) rfl (by kernel_rfl)) ?_
  intro W base args ds gs before hval hW _ hk hsz _
  exact wG H enc W base args ds gs before hval hW hk hsz
theorem aFs:(Rows.stateGrowsUptoRow.wf (OpenSpec.ofChange (Rows.OpenSpec.upto Rows.stateGrowsSpec).bare)&&laidOutB Tryz.prog&&mapsRowed Tryz.prog)=true:=by kernel_rfl
theorem aFr:(Rows.stateGrowsUptoRow.inPlace == Tryz.prog.inPlace 10)=true:=by kernel_rfl
theorem aFq:(Rows.stateGrowsUptoRow.unfollowed == Tryz.prog.unfollowed 10)=true:=by kernel_rfl
theorem aFp:(Rows.stateGrowsUptoRow.recurses == Tryz.prog.recurses 10)=true:=by kernel_rfl
theorem aFo:(Rows.stateGrowsUptoRow.named == Tryz.prog.varsNamed 10)=true:=by kernel_rfl
theorem yD:joinedFacts Tryz.prog 10 Tryz.f10 (Rows.OpenSpec.upto Rows.stateGrowsSpec).bare Rows.stateGrowsUptoRow=true:=by
  have h0:=aFs
  simp only[Bool.and_eq_true] at h0
  obtain ⟨⟨h5,h6⟩,h7⟩:=h0
  unfold joinedFacts
  repeat (rw[Bool.and_eq_true]; refine And.intro ?_ ?_)
  all_goals with_reducible first | exact aFr | exact aFq | exact aFp | exact aFo | exact h5 | exact h6 | exact h7 | kernel_rfl
theorem stateGrows_proved:Rows.StateGrowsUptoSaid :=
  OpenClaim.holds_of_cond 10 Tryz.f10 rfl rfl rfl rfl rfl rfl rfl ⟨rfl,rfl,rfl,rfl,rfl⟩ rfl rfl rfl rfl rfl (by kernel_rfl) Tryz.func10 yD
    (of_decide_eq_true (by kernel_rfl)) (by unfold Func.isWrapper; first | (rw[if_pos (by decide +kernel)]; kernel_rfl) | (rw[if_neg (by decide +kernel)]; exact⟨rfl,rfl⟩))
    (fun os started H enc _ F=>yC os started H enc F)
end Go.Proofs.YtijnkglkchhomaaGreat
