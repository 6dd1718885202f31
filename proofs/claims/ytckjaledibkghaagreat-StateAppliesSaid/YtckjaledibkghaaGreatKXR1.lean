/-
  The law StateApplies: whatever the state and the event, the call returns true, and both read behind it as they read before. No condition beyond the row's own.
-/
import Derived.Test.YtckjaledibkghaaGreatRows
import Derived.WalkKit
import Derived.ProofKit
import Derived.OpenShut
import Derived.JoinedCond
import Derived.SizedLaws
import Derived.Test.YtckjaledibkghaaGreatK1
import Derived.Test.YtckjaledibkghaaGreatK2
import Derived.Test.YtckjaledibkghaaGreatK3
import Derived.Test.YtckjaledibkghaaGreatK4
import Derived.Test.YtckjaledibkghaaGreatK5
import Derived.Test.YtckjaledibkghaaGreatK6
set_option maxRecDepth 20000
set_option maxHeartbeats 16000000
set_option linter.unusedVariables false
set_option linter.unusedSimpArgs false
namespace Go.Proofs.YtckjaledibkghaaGreat
open Go Go.Abs
theorem aBm (s:Sta) (hz:SzS 140737488351232 s) (ts:TsS s) (e:Ev) (hu:TS e.user) (ho:TS e.other) :Den Tryz.prog 3 [.agg (aO s),.agg (evC e)]  (·=.s (.bool true)):=by
 have hzM:SzS 140737488352000 s:=hz.mono (by omega)
 refine aS Tryz.func3 rfl (Nat.le_of_ble_eq_true rfl) (fun w0 A hf=>(aC (fun K1 hK1=>(aB (aJ hf rfl (cI rfl rfl (lf rfl)) (aJ hf rfl (cI rfl rfl (lf rfl)) (aE aA 1 rfl (aD (hK1 _ (aC (fun K2 hK2=>(aC (fun K3 hK3=>(aB (aE aA 1 rfl (aJ hf rfl (aK rfl rfl lV rfl (lJ s hzM)) ?_))))))))))))))))
 refine aE aA 2 rfl (aW rfl rfl rfl (fun hg1=>?_) (fun hg1=>?_))
 ·
  simp only[bs] at hg1
  refine aG rfl (sL rfl dJ cG rfl rfl) ?_
  refine bI rfl rfl rfl (aJ hf rfl (aK rfl rfl nF rfl (jH s (hz.mono (by omega)) ts)) (aE aA 2 rfl (aD (hK3 _ (aL rfl (fun hc2=>?_) (fun hc2=>?_))))))
  ·
   simp only[bs] at hc2
   refine aC (fun K4 hK4=>(aB (aJ hf rfl (aK rfl rfl dB rfl (cV)) (aE aA 1 rfl (aD (hK4 _ (aI ?_)))))))
   refine⟨_,rfl,?_⟩
   rfl
  ·
   simp only[bs] at hc2
   refine aM (hK2 _ (aC (fun K5 hK5=>(aB ?_))))
   have hR:RightP s:=gZ.1 (by simp_all)
   have hzA:SzS 140737488352000 (aR s e).1:=xU hz hR.usr (by omega)
   have hRA:RightP (aR s e).1:=oP hR e
   refine aE aA 1 rfl (aJ hf rfl (aK rfl rfl gF rfl (aAv _ (by assumption))) (bV hf rfl bA rfl cC rfl rfl rfl rfl (lf rfl) (aD (hK5 _ (aC (fun K6 hK6=>(aB (aE aA 2 rfl (aJ hf rfl (aK rfl rfl gR rfl (wO _ _ (by assumption) (by assumption) (by assumption) (by assumption))) (aE aA 3 rfl (bV hf rfl bA rfl cC rfl rfl rfl rfl (lf rfl) (aE aA 1 rfl (aD ?_)))))))))))))
   refine hK6 _ (aC (fun K7 hK7=>(aB (aE aA 2 rfl (aJ hf rfl (aK rfl rfl zV rfl (aBs _ _ (by assumption) (by assumption) (by assumption) (by assumption))) (aE aA 3 rfl (bV hf rfl bY rfl cG rfl rfl rfl rfl (lf rfl) (aE aA 1 rfl (aD (hK7 _ (aC (fun K8 hK8=>(cM hf bE (by kernel_rfl) rfl (aZ [] rfl rfl trivial rfl (aK rfl rfl dB rfl (cV)) ?_))))))))))))))
   refine aT aA 2 rfl (aZ [(35,_)] rfl rfl ⟨⟨rfl,rfl⟩,trivial⟩ rfl (aK rfl rfl nD rfl (aQh _ (by assumption))) (aT aA 1 rfl (aZ [(36,_),(37,_)] rfl rfl ⟨⟨rfl,rfl⟩,⟨rfl,rfl⟩,trivial⟩ rfl (aK rfl rfl nE rfl (tL _ (by assumption))) (aT aA 4 rfl (bL [(41,_),(42,_)] rfl rfl ⟨⟨rfl,rfl⟩,⟨rfl,rfl⟩,trivial⟩ rfl (cU rfl rfl (gK (rfl))) (aT aA 3 rfl (aZ [(46,_)] rfl rfl ⟨⟨rfl,rfl⟩,trivial⟩ rfl (aK rfl rfl nD rfl (aQh _ (by assumption))) (aT aA 1 rfl (aZ [(47,_),(48,_)] rfl rfl ⟨⟨rfl,rfl⟩,⟨rfl,rfl⟩,trivial⟩ rfl (aK rfl rfl nE rfl (tL _ (by assumption))) ?_)))))))))
   refine aT aA 5 rfl (dP 54 false rfl (fun hg3=>?_) (fun hg3=>?_))
   ·
    simp only[bs] at hg3
    refine aT aA 1 rfl (aZ [(55,_)] rfl rfl ⟨⟨rfl,rfl⟩,trivial⟩ rfl (aK rfl rfl nC rfl (aFi _ (by assumption) (by assumption))) (aT aA 3 rfl (cP [4] rfl rfl rfl (hK8 _ (aI ?_)))))
    refine⟨_,rfl,?_⟩
    rfl
   ·
    simp only[bs] at hg3
    refine aT aA 5 rfl (cP [4] rfl rfl rfl (hK8 _ (aI ?_)))
    refine⟨_,rfl,?_⟩
    rfl
 ·
  simp only[bs] at hg1
  refine aE aA 3 rfl (aD (hK3 _ (bM rfl (aC (fun K9 hK9=>(aB (aJ hf rfl (aK rfl rfl dB rfl (cV)) (aE aA 1 rfl (aD (hK9 _ (aI ?_)))))))))))
  refine⟨_,rfl,?_⟩
  rfl
end Go.Proofs.YtckjaledibkghaaGreat
set_option linter.unusedVariables false
set_option linter.unusedSimpArgs false
namespace Go.Proofs.YtckjaledibkghaaGreat
open Go Go.Abs
end Go.Proofs.YtckjaledibkghaaGreat
set_option linter.unusedVariables false
set_option linter.unusedSimpArgs false
namespace Go.Proofs.YtckjaledibkghaaGreat
open Go Go.Abs
end Go.Proofs.YtckjaledibkghaaGreat
set_option linter.unusedVariables false
set_option linter.unusedSimpArgs false
namespace Go.Proofs.YtckjaledibkghaaGreat
open Go Go.Abs
end Go.Proofs.YtckjaledibkghaaGreat
namespace Go.Proofs.YtckjaledibkghaaGreat
open Go.ChangeShapes Go.WideShapes Go.ChangeAt Go.RowKit Go.Abs
set_option linter.unusedVariables false
theorem own:ownKnob Tryz.prog.godebug=none:=by kernel_rfl
theorem laid:laidOutB Tryz.prog=true:=by kernel_rfl
theorem aAa:tdOf? Tryz.prog 16 27=some (.agg [.int .i64,.int .i64,.sl 40 (.agg [.int .i64,.str,.int .i64,.int .i64]),.sl 40 (.agg [.str,.sl 32 (.agg [.int .i64,.int .i64,.int .i64,.int .i64])]),.sl 48 (.agg [.str,.str,.int .i64,.int .i64]),.sl 24 (.agg [.str,.int .i64])]):=by kernel_rfl
theorem aU6:tdOf? Tryz.prog 16 29=some (.agg [.int .i64,.int .i64,.str,.str,.int .i64,.int .i64]):=by kernel_rfl
set_option maxRecDepth 100000 in
theorem vG (H:Type) (enc:TypeId×Value→H) (W:World) (base:Nat) (args:Array Value) (ds gs:List (DataW H)) (before:List MemPlace)
    (hval:∀ (j:Nat) t v,Tryz.f3.params[j]?=some t→args[j]?=some v→Value.okWide Tryz.prog W .any base t v)
    (hW:DataW.Whole enc Tryz.prog Tryz.f3.params.toList Rows.stateAppliesSpec.vars false W args.toList ds gs before)
    (hsz:(DataW.weightsEach Tryz.prog (Tryz.f3.params.toList++Rows.stateAppliesSpec.plain.varTypes Tryz.prog) (ds++gs)).all (·≤reachBytes)=true) :
    Calls Tryz.prog 3 args W fun e W'=>∃ v,e=.returned v∧Rows.stateAppliesSpec.post enc Tryz.prog Tryz.f3 false true false false W args v W':=by
  have hW':=hW
  obtain ⟨p,q,hA0,hV,rfl,hfz,hnd⟩:=hW
  have hA:DataW.TrodAll enc Tryz.prog W 0 (fun _=>true) true Tryz.f3.params.toList args.toList ds p:=hA0
  rw[Tryz.params3] at hA hval
  obtain ⟨v0,vs0,d0,ds0,p0,q0,hargs,rfl,rfl,h0,r0⟩:=trodAll_cons hA
  obtain ⟨v1,vs1,d1,ds1,p1,q1,rfl,rfl,rfl,h1,r1⟩:=trodAll_cons r0
  obtain ⟨rfl,rfl,rfl⟩:=trodAll_nil r1
  obtain rfl:args=#[v0,v1]:=by cases args; simp_all
  obtain ⟨c0,y0,a0⟩:=mV aAa dJ (hval 0 27 v0 rfl rfl) h0 (fY (i:=0) hsz (by rw[Tryz.params3]; rfl) rfl)
  obtain ⟨s,rfl,hz,ts⟩:=vL (by simpa only[Ty] using y0)
  obtain ⟨c1,y1,a1⟩:=mV aU6 aGz (hval 1 29 v1 rfl rfl) h1 (fY (i:=1) hsz (by rw[Tryz.params3]; rfl) rfl)
  obtain ⟨e,rfl,he1,he2⟩:=aSg (by simpa only[Ty] using y1)
  refine(aBm s hz ts e he1 he2 (fun _=>False) W [v0,v1] (fun _ h=>h.elim) ⟨rfl,fun i c v hc hv=>?_⟩).mono fun e W' ⟨v,r,he,hr,hE,hv⟩=>?_
  · match i,hc,hv with
    | 0,hc,hv=>cases hc; cases hv; exact a0
    | 1,hc,hv=>cases hc; cases hv; exact a1
  · subst hr
    cases hv
    exact⟨_,he,nI (t:=4) hW' (iY hE) laid (by rw[Tryz.params3]; decide +kernel) rfl (fun _=>rfl) (by kernel_rfl) (by kernel_rfl) Tryz.underlying4⟩
set_option maxRecDepth 100000 in
theorem yD (os:Os) (started:os.Started) (H:Type) (enc:TypeId×Value→H) (F:Stop.Interp) :
    ReturnsInHanded {} Tryz.checked os 3 .any (Rows.stateAppliesSpec.pre6 enc Tryz.prog Tryz.f3 Rows.stateAppliesRow.domain false) (Rows.stateAppliesSpec.post enc Tryz.prog Tryz.f3 false true false false):=by
  refine returnsInHanded_of_change_sized (C:=Tryz.checked) (s:=Rows.stateAppliesSpec) own started (by kernel_rfl) Tryz.func3
    (ChangeSpec.witness6 (enc:=enc) (C:=Tryz.checked) (s:=Rows.stateAppliesSpec) false ⟨#[],#[.agg #[.int .i64 0,.int .i64 0,.slice none 0 0,.slice none 0 0,.slice none 0 0,.slice none 0 0],.agg #[.int .i64 0,.int .i64 0,.string ⟨#[]⟩,.string ⟨#[]⟩,.int .i64 0,.int .i64 0]],[]⟩ 8 (by kernel_rfl) (by kernel_rfl) (by kernel_rfl) (by kernel_rfl)) ?_
  intro W base args ds gs before hval hW _ hsz _
  exact vG H enc W base args ds gs before hval hW hsz
theorem stateApplies_proved:Rows.StateAppliesSaid :=
  OpenClaim.holds_of_wide 3 Tryz.f3 rfl rfl rfl rfl rfl rfl rfl ⟨rfl,rfl,rfl,rfl,rfl⟩ rfl rfl rfl rfl rfl (by kernel_rfl) Tryz.func3 (by kernel_rfl)
    (of_decide_eq_true (by kernel_rfl)) (by unfold Func.isWrapper; first | (rw[if_pos (by decide +kernel)]; kernel_rfl) | (rw[if_neg (by decide +kernel)]; exact⟨rfl,rfl⟩))
    (fun os started H enc _=>yD os started H enc default)
end Go.Proofs.YtckjaledibkghaaGreat
