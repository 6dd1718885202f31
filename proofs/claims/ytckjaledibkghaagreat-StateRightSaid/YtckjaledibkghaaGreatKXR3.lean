/-
  The law StateRight: whatever the two states, the call returns true, and both read behind it as they read before. No condition beyond the row's own.
-/
import Derived.Test.YtckjaledibkghaaGreatRows
import Derived.WalkKit
import Derived.ProofKit
import Derived.OpenShut
import Derived.JoinedCond
import Derived.SizedLaws
import Derived.Test.YtckjaledibkghaaGreatK1
import Derived.Test.YtckjaledibkghaaGreatK2
import Derived.Test.YtckjaledibkghaaGreatK3
import Derived.Test.YtckjaledibkghaaGreatK4
import Derived.Test.YtckjaledibkghaaGreatK5
import Derived.Test.YtckjaledibkghaaGreatK6
set_option maxRecDepth 20000
set_option maxHeartbeats 16000000
set_option linter.unusedVariables false
set_option linter.unusedSimpArgs false
namespace Go.Proofs.YtckjaledibkghaaGreat
open Go Go.Abs
theorem aE1 (s t:Sta) (hz:SzS 140737488351232 s) (ts:TsS s) (hz2:SzS 140737488351232 t) (ts2:TsS t) :Den Tryz.prog 7 [.agg (aO s),.agg (aO t)]  (·=.s (.bool true)):=by
 have hzM:SzS 140737488352000 s:=hz.mono (by omega)
 have hzT:SzS 140737488352000 t:=hz2.mono (by omega)
 refine aS Tryz.func7 rfl (Nat.le_of_ble_eq_true rfl) (fun w0 A hf=>(aC (fun K1 hK1=>(aB (aJ hf rfl (cI rfl rfl (lf rfl)) (aJ hf rfl (cI rfl rfl (lf rfl)) (aE aA 1 rfl (aD (hK1 _ (aC (fun K2 hK2=>(aC (fun K3 hK3=>(aB (aE aA 1 rfl (aJ hf rfl (aK rfl rfl lV rfl (lJ s hzM)) ?_))))))))))))))))
 refine aE aA 2 rfl (aW rfl rfl rfl (fun hg1=>?_) (fun hg1=>?_))
 ·
  simp only[bs] at hg1
  refine aG rfl (sL rfl dJ cG rfl rfl) ?_
  refine bI rfl rfl rfl (aJ hf rfl (aK rfl rfl lV rfl (lJ t hzT)) (aE aA 2 rfl (aD (hK3 _ (aL rfl (fun hc2=>?_) (fun hc2=>?_))))))
  ·
   simp only[bs] at hc2
   refine aC (fun K4 hK4=>(aB (aJ hf rfl (aK rfl rfl dB rfl (cV)) (aE aA 1 rfl (aD (hK4 _ (aI ?_)))))))
   refine⟨_,rfl,?_⟩
   rfl
  ·
   simp only[bs] at hc2
   refine aM (hK2 _ (aC (fun K5 hK5=>(cM hf bE (by kernel_rfl) rfl (aZ [] rfl rfl trivial rfl (aK rfl rfl dB rfl (cV)) (aT aA 2 rfl (aZ [(16,_)] rfl rfl ⟨⟨rfl,rfl⟩,trivial⟩ rfl (aK rfl rfl gF rfl (aAv _ (by assumption))) (aZ [(17,_)] rfl rfl ⟨⟨rfl,rfl⟩,trivial⟩ rfl (aK rfl rfl nC rfl (aFk s (hz.mono (by omega)) ts)) (aT aA 1 rfl (aZ [(19,_)] rfl rfl ⟨⟨rfl,rfl⟩,trivial⟩ rfl (aK rfl rfl nF rfl (jH s (hz.mono (by omega)) ts)) (bL [(18,_),(20,_)] rfl rfl ⟨⟨rfl,rfl⟩,⟨rfl,rfl⟩,trivial⟩ rfl (cU rfl rfl (aGp Tryz.underlying4 (rfl))) ?_)))))))))))
   refine aT aA 3 rfl (aZ [(24,_)] rfl rfl ⟨⟨rfl,rfl⟩,trivial⟩ rfl (aK rfl rfl gF rfl (aAv _ (by assumption))) (aT aA 1 rfl (aZ [(26,_)] rfl rfl ⟨⟨rfl,rfl⟩,trivial⟩ rfl (aK rfl rfl gF rfl (aAv _ (by assumption))) (aZ [(25,_),(27,_)] rfl rfl ⟨⟨rfl,rfl⟩,⟨rfl,rfl⟩,trivial⟩ rfl (aK rfl rfl lU rfl (zD s t (hz.mono (by omega)) (hz2.mono (by omega)))) (aT aA 2 rfl (aZ [(29,_),(30,_)] rfl rfl ⟨⟨rfl,rfl⟩,⟨rfl,rfl⟩,trivial⟩ rfl (aK rfl rfl nE rfl (yI s t (hz.mono (by omega)) (hz2.mono (by omega)))) ?_))))))
   refine bL [(28,_),(31,_)] rfl rfl ⟨⟨rfl,rfl⟩,⟨rfl,rfl⟩,trivial⟩ rfl (cU rfl rfl (aGp Tryz.underlying4 (rfl))) (aT aA 3 rfl (aZ [(35,_)] rfl rfl ⟨⟨rfl,rfl⟩,trivial⟩ rfl (aK rfl rfl gF rfl (aAv _ (by assumption))) (aT aA 1 rfl (aZ [(37,_)] rfl rfl ⟨⟨rfl,rfl⟩,trivial⟩ rfl (aK rfl rfl gF rfl (aAv _ (by assumption))) (aZ [(36,_),(38,_)] rfl rfl ⟨⟨rfl,rfl⟩,⟨rfl,rfl⟩,trivial⟩ rfl (aK rfl rfl lU rfl (qQ s s rfl (hz.mono (by omega)))) (aT aA 2 rfl (cP [4] rfl rfl rfl (hK5 _ (aI ?_)))))))))
   refine⟨_,rfl,?_⟩
   rfl
 ·
  simp only[bs] at hg1
  refine aE aA 3 rfl (aD (hK3 _ (bM rfl (aC (fun K6 hK6=>(aB (aJ hf rfl (aK rfl rfl dB rfl (cV)) (aE aA 1 rfl (aD (hK6 _ (aI ?_)))))))))))
  refine⟨_,rfl,?_⟩
  rfl
end Go.Proofs.YtckjaledibkghaaGreat
set_option linter.unusedVariables false
set_option linter.unusedSimpArgs false
namespace Go.Proofs.YtckjaledibkghaaGreat
open Go Go.Abs
end Go.Proofs.YtckjaledibkghaaGreat
set_option linter.unusedVariables false
set_option linter.unusedSimpArgs false
namespace Go.Proofs.YtckjaledibkghaaGreat
open Go Go.Abs
end Go.Proofs.YtckjaledibkghaaGreat
set_option linter.unusedVariables false
set_option linter.unusedSimpArgs false
namespace Go.Proofs.YtckjaledibkghaaGreat
open Go Go.Abs
end Go.Proofs.YtckjaledibkghaaGreat
namespace Go.Proofs.YtckjaledibkghaaGreat
open Go.ChangeShapes Go.WideShapes Go.ChangeAt Go.RowKit Go.Abs
set_option linter.unusedVariables false
theorem own:ownKnob Tryz.prog.godebug=none:=by kernel_rfl
theorem laid:laidOutB Tryz.prog=true:=by kernel_rfl
theorem aAa:tdOf? Tryz.prog 16 27=some (.agg [.int .i64,.int .i64,.sl 40 (.agg [.int .i64,.str,.int .i64,.int .i64]),.sl 40 (.agg [.str,.sl 32 (.agg [.int .i64,.int .i64,.int .i64,.int .i64])]),.sl 48 (.agg [.str,.str,.int .i64,.int .i64]),.sl 24 (.agg [.str,.int .i64])]):=by kernel_rfl
set_option maxRecDepth 100000 in
theorem yC (H:Type) (enc:TypeId×Value→H) (W:World) (base:Nat) (args:Array Value) (ds gs:List (DataW H)) (before:List MemPlace)
    (hval:∀ (j:Nat) t v,Tryz.f7.params[j]?=some t→args[j]?=some v→Value.okWide Tryz.prog W .any base t v)
    (hW:DataW.Whole enc Tryz.prog Tryz.f7.params.toList Rows.stateRightSpec.vars false W args.toList ds gs before)
    (hsz:(DataW.weightsEach Tryz.prog (Tryz.f7.params.toList++Rows.stateRightSpec.plain.varTypes Tryz.prog) (ds++gs)).all (·≤reachBytes)=true) :
    Calls Tryz.prog 7 args W fun e W'=>∃ v,e=.returned v∧Rows.stateRightSpec.post enc Tryz.prog Tryz.f7 false true false false W args v W':=by
  have hW':=hW
  obtain ⟨p,q,hA0,hV,rfl,hfz,hnd⟩:=hW
  have hA:DataW.TrodAll enc Tryz.prog W 0 (fun _=>true) true Tryz.f7.params.toList args.toList ds p:=hA0
  rw[Tryz.params7] at hA hval
  obtain ⟨v0,vs0,d0,ds0,p0,q0,hargs,rfl,rfl,h0,r0⟩:=trodAll_cons hA
  obtain ⟨v1,vs1,d1,ds1,p1,q1,rfl,rfl,rfl,h1,r1⟩:=trodAll_cons r0
  obtain ⟨rfl,rfl,rfl⟩:=trodAll_nil r1
  obtain rfl:args=#[v0,v1]:=by cases args; simp_all
  obtain ⟨c0,y0,a0⟩:=mV aAa dJ (hval 0 27 v0 rfl rfl) h0 (fY (i:=0) hsz (by rw[Tryz.params7]; rfl) rfl)
  obtain ⟨s,rfl,hz,ts⟩:=vL (by simpa only[Ty] using y0)
  obtain ⟨c1,y1,a1⟩:=mV aAa dJ (hval 1 27 v1 rfl rfl) h1 (fY (i:=1) hsz (by rw[Tryz.params7]; rfl) rfl)
  obtain ⟨s2,rfl,hz2,ts2⟩:=vL (by simpa only[Ty] using y1)
  refine(aE1 s s2 hz ts hz2 ts2 (fun _=>False) W [v0,v1] (fun _ h=>h.elim) ⟨rfl,fun i c v hc hv=>?_⟩).mono fun e W' ⟨v,r,he,hr,hE,hv⟩=>?_
  · match i,hc,hv with
    | 0,hc,hv=>cases hc; cases hv; exact a0
    | 1,hc,hv=>cases hc; cases hv; exact a1
  · subst hr
    cases hv
    exact⟨_,he,nI (t:=4) hW' (iY hE) laid (by rw[Tryz.params7]; decide +kernel) rfl (fun _=>rfl) (by kernel_rfl) (by kernel_rfl) Tryz.underlying4⟩
set_option maxRecDepth 100000 in
theorem aAe (os:Os) (started:os.Started) (H:Type) (enc:TypeId×Value→H) (F:Stop.Interp) :
    ReturnsInHanded {} Tryz.checked os 7 .any (Rows.stateRightSpec.pre6 enc Tryz.prog Tryz.f7 Rows.stateRightRow.domain false) (Rows.stateRightSpec.post enc Tryz.prog Tryz.f7 false true false false):=by
  refine returnsInHanded_of_change_sized (C:=Tryz.checked) (s:=Rows.stateRightSpec) own started (by kernel_rfl) Tryz.func7
    (ChangeSpec.witness6 (enc:=enc) (C:=Tryz.checked) (s:=Rows.stateRightSpec) false ⟨#[],#[.agg #[.int .i64 0,.int .i64 0,.slice none 0 0,.slice none 0 0,.slice none 0 0,.slice none 0 0],.agg #[.int .i64 0,.int .i64 0,.slice none 0 0,.slice none 0 0,.slice none 0 0,.slice none 0 0]],[]⟩ 8 (by kernel_rfl) (by kernel_rfl) (by kernel_rfl) (by kernel_rfl)) ?_
  intro W base args ds gs before hval hW _ hsz _
  exact yC H enc W base args ds gs before hval hW hsz
theorem stateRight_proved:Rows.StateRightSaid :=
  OpenClaim.holds_of_wide 7 Tryz.f7 rfl rfl rfl rfl rfl rfl rfl ⟨rfl,rfl,rfl,rfl,rfl⟩ rfl rfl rfl rfl rfl (by kernel_rfl) Tryz.func7 (by kernel_rfl)
    (of_decide_eq_true (by kernel_rfl)) (by unfold Func.isWrapper; first | (rw[if_pos (by decide +kernel)]; kernel_rfl) | (rw[if_neg (by decide +kernel)]; exact⟨rfl,rfl⟩))
    (fun os started H enc _=>aAe os started H enc default)
end Go.Proofs.YtckjaledibkghaaGreat
