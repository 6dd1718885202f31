/-
  The law FoldNow: whatever the state and the events, the call returns true, and all read behind it as they read before. No condition beyond the row's own.
-/
import Derived.Test.YthapfogcaklbbaaGreatRows
import Derived.WalkKit
import Derived.ProofKit
import Derived.OpenShut
import Derived.JoinedCond
import Derived.SizedLaws
import Derived.Test.YthapfogcaklbbaaGreatK1
import Derived.Test.YthapfogcaklbbaaGreatK2
import Derived.Test.YthapfogcaklbbaaGreatK3
import Derived.Test.YthapfogcaklbbaaGreatK4
import Derived.Test.YthapfogcaklbbaaGreatK5
import Derived.Test.YthapfogcaklbbaaGreatK6
set_option maxRecDepth 20000
set_option maxHeartbeats 16000000
set_option linter.unusedVariables false
set_option linter.unusedSimpArgs false
namespace Go.Proofs.YthapfogcaklbbaaGreat
open Go Go.Abs
theorem aFh (s:Sta) (hz:SzS 140737488351232 s) (ts:TsS s) (l:List Ev) (ht:∀ e∈l,TS e.user∧TS e.other) :Den Tryz.prog 5 [.agg (aY s),.sl 6 (l.map evC)]  (·=.s (.bool true)):=by
 have hzM:SzS 140737488353280 s:=hz.mono (by omega)
 refine aU Tryz.func5 rfl (Nat.le_of_ble_eq_true rfl) (fun w0 A hf=>(aC (fun K1 hK1=>(aB (aM hf rfl (cP rfl rfl (lf rfl)) (aE aA 1 rfl (aD (hK1 _ (aC (fun K2 hK2=>(aC (fun K3 hK3=>(aB (aE aA 1 rfl (aM hf rfl (aQ rfl rfl aJf rfl (aId s hzM)) (aE aA 2 rfl ?_))))))))))))))))
 refine aV rfl rfl rfl (fun hg1=>?_) (fun hg1=>?_)
 ·
  simp only[bs] at hg1
  refine aG rfl (gP rfl aAl aHx rfl rfl) ?_
  refine aZ rfl rfl rfl (aM hf rfl (aQ rfl rfl aJe rfl (aA2 s (hz.mono (by omega)) ts)) (aE aA 3 rfl (aV rfl rfl rfl (fun hg2=>?_) (fun hg2=>?_))))
  ·
   simp only[bs] at hg2
   refine aG rfl (gD rfl) (aE aA 3 rfl (aD (hK3 _ (aK rfl (fun hc3=>?_) (fun hc3=>?_)))))
   ·
    simp only[bs] at hc3
    refine aC (fun K4 hK4=>(aB (aM hf rfl (aQ rfl rfl nJ rfl (lJ)) (aE aA 1 rfl (aD (hK4 _ (aJ ?_)))))))
    refine⟨_,rfl,?_⟩
    rfl
   ·
    simp only[bs] at hc3
    refine aN (hK2 _ (aC (fun K5 hK5=>(aB ?_))))
    have hR:RightP s:=oQ.1 (by simp_all)
    have hl40:l.length≤40:=by omega
    have hl60:l.length≤60:=by omega
    have hzF:SzS 140737488353280 (fH s l):=(aMq l hz hR).mono (by omega)
    have hRF:RightP (fH s l):=zQ l hR
    have hlT:=uQ l s
    refine aE aA 1 rfl (aM hf rfl (aQ rfl rfl aAp rfl (aYv _ (by assumption))) (aE aA 1 rfl (aM hf rfl (aQ rfl rfl aAq rfl (aBp _ (by omega))) (aM hf rfl (aQ rfl rfl tA rfl (zR s l hz hR hl60 ht)) (aE aA 3 rfl (cC hf rfl bC rfl cF rfl rfl rfl rfl (lf rfl) (aE aA 1 rfl (aD (hK5 _ (aC (fun K6 hK6=>(aB (aE aA 1 rfl ?_)))))))))))))
    refine aM hf rfl (aQ rfl rfl aAp rfl (aYv _ (by assumption))) (aE aA 1 rfl (aM hf rfl (aQ rfl rfl aAq rfl (aBp _ (by omega))) (aM hf rfl (aQ rfl rfl aAo rfl (aBd s l hz hR hl60 ht)) (aE aA 1 rfl (aD (hK6 _ (aC (fun K7 hK7=>(aB (aE aA 1 rfl (aM hf rfl (aQ rfl rfl sZ rfl (sQ (dB s l) (by omega))) (aE aA 5 rfl (aD ?_)))))))))))))
    refine hK7 _ (aC (fun K8 hK8=>(aC (fun K9 hK9=>(aB (aE aA 2 rfl (aD (hK9 _ (aK rfl (fun hc4=>?_) (fun hc4=>?_))))))))))
    ·
     simp only[bs] at hc4
     have hE:(dB s l)=[]:=by simp_all
     have hN:=now_nil hE
     refine aC (fun K10 hK10=>(aB (aM hf rfl (aQ rfl rfl nJ rfl (lJ)) (aE aA 5 rfl (aZ rfl rfl rfl (aG rfl (eI rfl rfl (kW (hN))) (aE aA 2 rfl (aD (hK10 _ (aJ ?_))))))))))
     refine⟨_,rfl,?_⟩
     rfl
    ·
     simp only[bs] at hc4
     have hE:(dB s l)≠[]:=by simp_all
     obtain ⟨n1,n2,n3⟩:=now_of hE
     have hpos:0<(dB s l).length:=List.length_pos_iff.2 hE
     have hn3:=n3 (by omega)
     refine aN (hK8 _ (aC (fun K11 hK11=>(aB (aM hf rfl (aQ rfl rfl nJ rfl (lJ)) (aE aA 4 rfl (aZ rfl rfl rfl (aG rfl (eI rfl rfl (kW (n1))) (aE aA 5 rfl (aZ rfl rfl rfl ?_))))))))))
     refine aG rfl (eI rfl rfl rfl) ?_
     refine aZ rfl rfl rfl (aG rfl (bB rfl rfl eZ bV (iO (k:=(dB s l).length - 1) (by simp only[List.length_map]; rw[wrap_i64 (by omega) (by omega)]; omega) (by omega))) ?_)
     refine aE aA 3 rfl (aZ rfl rfl rfl (aG rfl (eI rfl rfl (kW (hn3))) (aE aA 5 rfl (aZ rfl rfl rfl (aG rfl (eI rfl rfl (aYs n2)) (aE aA 2 rfl (aD (hK11 _ (aJ ?_)))))))))
     refine⟨_,rfl,?_⟩
     rfl
  ·
   simp only[bs] at hg2
   refine aE aA 3 rfl (aD (hK3 _ (bU rfl (aC (fun K12 hK12=>(aB (aM hf rfl (aQ rfl rfl nJ rfl (lJ)) (aE aA 1 rfl (aD (hK12 _ (aJ ?_)))))))))))
   refine⟨_,rfl,?_⟩
   rfl
 ·
  simp only[bs] at hg1
  refine aE aA 8 rfl (aD (hK3 _ (bU rfl (aC (fun K13 hK13=>(aB (aM hf rfl (aQ rfl rfl nJ rfl (lJ)) (aE aA 1 rfl (aD (hK13 _ (aJ ?_)))))))))))
  refine⟨_,rfl,?_⟩
  rfl
end Go.Proofs.YthapfogcaklbbaaGreat
set_option linter.unusedVariables false
set_option linter.unusedSimpArgs false
namespace Go.Proofs.YthapfogcaklbbaaGreat
open Go Go.Abs
end Go.Proofs.YthapfogcaklbbaaGreat
namespace Go.Proofs.YthapfogcaklbbaaGreat
open Go.ChangeShapes Go.WideShapes Go.ChangeAt Go.RowKit Go.Abs
set_option linter.unusedVariables false
theorem own:ownKnob Tryz.prog.godebug=none:=by kernel_rfl
theorem laid:laidOutB Tryz.prog=true:=by kernel_rfl
theorem aYt:tdOf? Tryz.prog 16 27=some (.agg [.int .i64,.int .i64,.sl 40 (.agg [.int .i64,.str,.int .i64,.int .i64]),.sl 40 (.agg [.str,.sl 32 (.agg [.int .i64,.int .i64,.int .i64,.int .i64])]),.sl 48 (.agg [.str,.str,.int .i64,.int .i64]),.sl 24 (.agg [.str,.int .i64])]):=by kernel_rfl
theorem aYp:tdOf? Tryz.prog 16 28=some (.sl 64 (.agg [.int .i64,.int .i64,.str,.str,.int .i64,.int .i64])):=by kernel_rfl
set_option maxRecDepth 100000 in
theorem vG (H:Type) (enc:TypeId×Value→H) (W:World) (base:Nat) (args:Array Value) (ds gs:List (DataW H)) (before:List MemPlace)
    (hval:∀ (j:Nat) t v,Tryz.f5.params[j]?=some t→args[j]?=some v→Value.okWide Tryz.prog W .any base t v)
    (hW:DataW.Whole enc Tryz.prog Tryz.f5.params.toList Rows.foldNowSpec.vars false W args.toList ds gs before)
    (hsz:(DataW.weightsEach Tryz.prog (Tryz.f5.params.toList++Rows.foldNowSpec.plain.varTypes Tryz.prog) (ds++gs)).all (·≤reachBytes)=true) :
    Calls Tryz.prog 5 args W fun e W'=>∃ v,e=.returned v∧Rows.foldNowSpec.post enc Tryz.prog Tryz.f5 false true false false W args v W':=by
  have hW':=hW
  obtain ⟨p,q,hA0,hV,rfl,hfz,hnd⟩:=hW
  have hA:DataW.TrodAll enc Tryz.prog W 0 (fun _=>true) true Tryz.f5.params.toList args.toList ds p:=hA0
  rw[Tryz.params5] at hA hval
  obtain ⟨v0,vs0,d0,ds0,p0,q0,hargs,rfl,rfl,h0,r0⟩:=trodAll_cons hA
  obtain ⟨v1,vs1,d1,ds1,p1,q1,rfl,rfl,rfl,h1,r1⟩:=trodAll_cons r0
  obtain ⟨rfl,rfl,rfl⟩:=trodAll_nil r1
  obtain rfl:args=#[v0,v1]:=by cases args; simp_all
  obtain ⟨c0,y0,a0⟩:=aYq aYt aAl (hval 0 27 v0 rfl rfl) h0 (aBq (i:=0) hsz (by rw[Tryz.params5]; rfl) rfl)
  obtain ⟨s,rfl,hz,ts⟩:=aYr (by simpa only[Ty] using y0)
  obtain ⟨c1,y1,a1⟩:=aOq aYp aNk (hval 1 28 v1 rfl rfl) h1 (aBq (i:=1) hsz (by rw[Tryz.params5]; rfl) rfl)
  obtain ⟨l,rfl,_,hl⟩:=aYo y1
  refine(aFh s hz ts l hl (fun _=>False) W [v0,v1] (fun _ h=>h.elim) ⟨rfl,fun i c v hc hv=>?_⟩).mono fun e W' ⟨v,r,he,hr,hE,hv⟩=>?_
  · match i,hc,hv with
    | 0,hc,hv=>cases hc; cases hv; exact a0
    | 1,hc,hv=>cases hc; cases hv; exact a1
  · subst hr
    cases hv
    exact⟨_,he,aKg (t:=4) hW' (aC9 hE) laid (by rw[Tryz.params5]; decide +kernel) rfl (fun _=>rfl) (by kernel_rfl) (by kernel_rfl) Tryz.underlying4⟩
set_option maxRecDepth 100000 in
theorem zS (os:Os) (started:os.Started) (H:Type) (enc:TypeId×Value→H) (F:Stop.Interp) :
    ReturnsInHanded {} Tryz.checked os 5 .any (Rows.foldNowSpec.pre6 enc Tryz.prog Tryz.f5 Rows.foldNowRow.domain false) (Rows.foldNowSpec.post enc Tryz.prog Tryz.f5 false true false false):=by
  refine returnsInHanded_of_change_sized (C:=Tryz.checked) (s:=Rows.foldNowSpec) own started (by kernel_rfl) Tryz.func5
    (ChangeSpec.witness6 (enc:=enc) (C:=Tryz.checked) (s:=Rows.foldNowSpec) false ⟨#[],#[.agg #[.int .i64 0,.int .i64 0,.slice none 0 0,.slice none 0 0,.slice none 0 0,.slice none 0 0],.slice none 0 0],[]⟩ 8 (by kernel_rfl) (by kernel_rfl) (by kernel_rfl) (by kernel_rfl)) ?_
  intro W base args ds gs before hval hW _ hsz _
  exact vG H enc W base args ds gs before hval hW hsz
theorem aZb:(Rows.foldNowRow.wf (OpenSpec.ofChange Rows.foldNowSpec)&&laidOutB Tryz.prog&&mapsRowed Tryz.prog)=true:=by kernel_rfl
theorem aZa:(Rows.foldNowRow.inPlace == Tryz.prog.inPlace 5)=true:=by kernel_rfl
theorem aY9:(Rows.foldNowRow.unfollowed == Tryz.prog.unfollowed 5)=true:=by kernel_rfl
theorem aY8:(Rows.foldNowRow.recurses == Tryz.prog.recurses 5)=true:=by kernel_rfl
theorem aY7:(Rows.foldNowRow.named == Tryz.prog.varsNamed 5)=true:=by kernel_rfl
theorem aYw:joinedFacts Tryz.prog 5 Tryz.f5 Rows.foldNowSpec Rows.foldNowRow=true:=by
  have h0:=aZb
  simp only[Bool.and_eq_true] at h0
  obtain ⟨⟨h5,h6⟩,h7⟩:=h0
  unfold joinedFacts
  repeat (rw[Bool.and_eq_true]; refine And.intro ?_ ?_)
  all_goals with_reducible first | exact aZa | exact aY9 | exact aY8 | exact aY7 | exact h5 | exact h6 | exact h7 | kernel_rfl
theorem foldNow_proved:Rows.FoldNowSaid :=
  OpenClaim.holds_of_wide 5 Tryz.f5 rfl rfl rfl rfl rfl rfl rfl ⟨rfl,rfl,rfl,rfl,rfl⟩ rfl rfl rfl rfl rfl (by kernel_rfl) Tryz.func5 aYw
    (of_decide_eq_true (by kernel_rfl)) (by unfold Func.isWrapper; first | (rw[if_pos (by decide +kernel)]; kernel_rfl) | (rw[if_neg (by decide +kernel)]; exact⟨rfl,rfl⟩))
    (fun os started H enc _=>zS os started H enc default)
end Go.Proofs.YthapfogcaklbbaaGreat
