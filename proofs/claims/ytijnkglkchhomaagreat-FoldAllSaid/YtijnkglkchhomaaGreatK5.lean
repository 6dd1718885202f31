import Derived.WalkKit
import Derived.WalkSpells
import Derived.WalkLawsBesides
import Derived.Deep.LoopGhost
import Derived.ChangeKeysEq
import Derived.Still
import Derived.Lib.AppendZeros
import Derived.Laws.StructEq
import Derived.OpenShut
import Derived.Scope
import Derived.Shelf.SlSortCmp.Kit1
import Derived.Shelf.SlSortCmp.InsertionK
import Derived.Lib.SlicesCompact
import Derived.ProofKit
import Derived.ChangeSame
import Derived.Carry
import Derived.SliceStrings
import Derived.ChangeMaps5
import Derived.Deep.Slices
import Derived.Test.YtijnkglkchhomaaGreatRows
import Derived.Shelf.Abstract
import Derived.Deep.RegionLaw
import Derived.Lib.Walk
import Derived.Lib.Overlaps
import Derived.Lib.AppendZerosOnto
import Derived.Laws.CopyRow
import Derived.Shelf.SlSortCmp.WholeK
import Derived.Shelf.SlSortCmp.Whole1
import Derived.Shelf.SlSortCmp.NoneTotal
import Derived.Test.YtijnkglkchhomaaGreatK1
import Derived.Test.YtijnkglkchhomaaGreatK2
import Derived.Test.YtijnkglkchhomaaGreatK3
import Derived.Test.YtijnkglkchhomaaGreatK4
set_option maxRecDepth 20000
set_option maxHeartbeats 16000000
set_option linter.unusedVariables false
set_option linter.unusedSimpArgs false
namespace Go.Proofs.YtijnkglkchhomaaGreat
open Go Go.Abs
theorem aLd (s:Sta) (e:Ev) (hz:SzS 140737488355100 s) (hr:cX cZ s.usr) (hr2:cX dR s.tmb) (he:bU e=true):DenX Tryz.prog 88 [.agg (eX s E0 E1),.agg (evC e)] [(E0,.buf 2 (s.usr.map usC)),(E1,.buf 2 (s.tmb.map tmC))] (fun r m=>r=.tup [.agg (eX (bO s e).1 E0 E1),.s (.int .i64 (bO s e).2)]∧m=[(E0,.buf 2 ((bO s e).1.usr.map usC)),(E1,.buf 2 ((bO s e).1.tmb.map tmC))]):=by
  rcases sS he with ⟨hk,_⟩ | ⟨hk,_⟩ | ⟨hk,_⟩ | ⟨hk,_⟩ | ⟨hk,_⟩ | ⟨hk,_⟩ | ⟨hk,_⟩
  · exact aSa s e hz hr hr2 hk
  · exact aR9 s e hz hr hr2 hk
  · exact aR8 s e hz hr hr2 hk
  · exact aR7 s e hz hr hr2 hk
  · exact aR6 s e hz hr hr2 hk
  · exact aR5 s e hz hr hr2 hk
  · exact aR4 s e hz hr hr2 hk
theorem gW:∀ (w:World) (p:Hp) (v:Value),RelV w p (.agg [.s (.int .i64 0),.s (.int .i64 0),.s (.slice none 0 0),.s (.slice none 0 0),.s (.slice none 0 0),.s (.slice none 0 0)]) v→RelV w p (.agg (aL aJ)) v:=by
  intro w p v h
  cases h with
  | agg _ vs hl h =>
    refine .agg _ _ hl fun i c v hc hv=>?_
    match i,hc with
    | 0,hc=>cases hc; exact h 0 _ v rfl hv
    | 1,hc=>cases hc; exact h 1 _ v rfl hv
    | 2,hc=>cases hc; have:=h 2 _ v rfl hv; cases this; exact .sln 4 none 0 (by simp [maxLen])
    | 3,hc=>cases hc; have:=h 3 _ v rfl hv; cases this; exact .sln 2 none 0 (by simp [maxLen])
    | 4,hc=>cases hc; have:=h 4 _ v rfl hv; cases this; exact .sln 4 none 0 (by simp [maxLen])
    | 5,hc=>cases hc; have:=h 5 _ v rfl hv; cases this; exact .sln 2 none 0 (by simp [maxLen])
theorem uI (s:Sta):(AV.agg (eX s E0 E1)).ren [(E0,222),(E1,223)]=.agg (eX s 222 223):=rfl
theorem aJ0 (s:Sta) (z:Int):(AV.tup [.agg (eX s E0 E1),.s (.int .i64 z)]).ren [(E0,222),(E1,223)]=.tup [.agg (eX s 222 223),.s (.int .i64 z)]:=rfl
theorem aLp (s:Sta) (e:Ev) (hz:SzS 140737488355100 s) (hr:cX cZ s.usr) (hr2:cX dR s.tmb) (hu:TS e.user) (ho:TS e.other) :Den Tryz.prog 42 [.agg (aL s),.agg (evC e)]  (·=.tup [.agg (aL (bT s e).1),.s (.int .i64 (bT s e).2)]):=by
 refine aY Tryz.func42 rfl (Nat.le_of_ble_eq_true rfl) (fun w0 A hf=>(aC (fun K1 hK1=>(aB (aM hf rfl (cT rfl rfl (lf rfl)) (aM hf rfl (cT rfl rfl (lf rfl)) (aX hf rfl rfl rfl bB (aE aA 1 rfl (aD (hK1 _ (aC (fun K2 hK2=>(aR (aC (fun K3 hK3=>(aB ?_))))))))))))))))
 refine aE aA 1 rfl (aM hf rfl (aQ rfl rfl aPc rfl (aJw e hu ho)) (aE aA 2 rfl (aD (hK3 _ (cH rfl rfl (fun hc1=>?_) (fun hc1=>?_))))))
 ·
  simp only[bs] at hc1
  refine aC (fun K4 hK4=>(aB (aH rfl (cK rfl bB nN (l3 rfl) rfl) (bM (jY gW) (aZ hf rfl rfl cM rfl rfl (l1 rfl) (l4 rfl) rfl (aE aA 1 rfl (aD (hK4 _ (aN ?_)))))))))
  refine⟨_,rfl,?_⟩
  rw[show bT s e=(aJ,110) from by rw[bT,if_neg (by simp_all)]]; rfl
 ·
  simp only[bs] at hc1
  refine aC (fun K5 hK5=>(aB (aE aA 6 rfl (aD (hK5 _ (cH rfl rfl (fun hc2=>?_) (fun hc2=>?_)))))))
  ·
   simp only[bs] at hc2
   refine aC (fun K6 hK6=>(aB (aH rfl (cK rfl bB nN (l3 rfl) rfl) (bM (jY gW) (aZ hf rfl rfl cM rfl rfl (l1 rfl) (l4 rfl) rfl (aE aA 1 rfl (aD (hK6 _ (aN ?_)))))))))
   refine⟨_,rfl,?_⟩
   rw[show bT s e=(aJ,111) from by rw[bT,if_pos (by simp_all),if_pos (by first | assumption | omega)]]; rfl
  ·
   simp only[bs] at hc2
   refine aP (hK2 _ (aC (fun K7 hK7=>(dJ bN ?_))))
   refine aK 1 #[true,true,true,true,true,true,true,true,true,false] ⟨35,[(3,.adr (evC e)),(4,.ref 4 0 0 0),(6,.ref 6 0 0 0),(26,.s (.int .i64 (bO s e).2))],[(6,.box (eX (bO s e).1 222 223)),(222,.buf 2 ((bO s e).1.usr.map usC)),(223,.buf 2 ((bO s e).1.tmb.map tmC)),(4,.box [.s (.int .i64 0),.s (.int .i64 0),.s (.slice none 0 0),.s (.slice none 0 0),.s (.slice none 0 0),.s (.slice none 0 0)])]⟩ ?_ (fun hD0=>?_)
   ·
    refine aG 9 [] (by kernel_rfl) ⟨?_,trivial⟩
    ·
     refine⟨_,rfl,rfl,(ao rfl (aE aA 1 rfl (aF (dB (by kernel_rfl) ?_))))⟩
     refine hK7 _ (aC (fun K8 hK8=>(aC (fun K9 hK9=>(aB (aE aA 2 rfl (aD (hK9 _ (cH rfl rfl (fun hc3=>?_) (fun hc3=>?_))))))))))
     ·
      simp only[bs] at hc3
      refine aC (fun K10 hK10=>(aB (aH rfl (cK rfl bB nN (l3 rfl) rfl) (bM (jY gW) (aE aA 1 rfl (aZ hf rfl rfl cM rfl rfl (l1 rfl) (l4 rfl) rfl (aE aA 1 rfl (aD (hK10 _ (aN ?_))))))))))
      refine⟨_,rfl,?_⟩
      rw[show bT s e=(aJ,(bO s e).2) from by rw[bT,if_pos (by simp_all),if_neg (by omega),if_neg (by first | assumption | simp_all)]]; rfl
     ·
      simp only[bs] at hc3
      refine aP (hK8 _ (aC (fun K11 hK11=>(aB (aE aA 3 rfl (aZ hf rfl rfl cI rfl rfl (l1 rfl) (l4 rfl) rfl (aD (hK11 _ (aC (fun K12 hK12=>(aB (aH rfl (cD (cs':=[.s (.int .i64 e.at'),.s (.int .i64 (bO s e).1.hor),.sl 4 ((bO s e).1.opn.map seC),.own 222 2 0 ((bO s e).1.usr.map usC).length,.sl 4 ((bO s e).1.sub.map enC),.own 223 2 0 ((bO s e).1.tmb.map tmC).length]) rfl pH cM rfl rfl rfl) (aZ hf rfl rfl cM rfl rfl (l1 rfl) (l4 rfl) rfl (aE aA 1 rfl ?_))))))))))))))
      refine aD (hK12 _ (aN ?_))
      refine⟨_,rfl,?_⟩
      rw[show bT s e=({ (bO s e).1 with now:=e.at' },0) from by rw[bT,if_pos (by simp_all),if_neg (by omega),if_pos (by first | assumption | simp_all)]]
      show AV.tup [.agg [_,_,_,AV.conv _ (.own 222 2 0 ((bO s e).1.usr.map usC).length),_,AV.conv _ (.own 223 2 0 ((bO s e).1.tmb.map tmC).length)],_]=_
      rw[cE (g:=222) rfl rfl,cE (g:=223) rfl rfl]; rfl
   refine aK 2 #[true,true,true,true,true,true,true,true,false,false] ⟨35,[(3,.adr (evC e)),(4,.ref 4 0 0 0),(6,.ref 6 0 0 0),(25,.agg (eX (bO s e).1 222 223)),(26,.s (.int .i64 (bO s e).2))],[(6,.box [.s (.int .i64 0),.s (.int .i64 0),.s (.slice none 0 0),.s (.slice none 0 0),.s (.slice none 0 0),.s (.slice none 0 0)]),(222,.buf 2 ((bO s e).1.usr.map usC)),(223,.buf 2 ((bO s e).1.tmb.map tmC)),(4,.box [.s (.int .i64 0),.s (.int .i64 0),.s (.slice none 0 0),.s (.slice none 0 0),.s (.slice none 0 0),.s (.slice none 0 0)])]⟩ ?_ (fun hD1=>?_)
   ·
    refine aG 8 [] (by kernel_rfl) ⟨?_,trivial⟩
    ·
     refine⟨_,rfl,rfl,(ao rfl (aZ hf rfl rfl cM rfl rfl (l1 rfl) (l4 rfl) rfl (aF (aG 9 [] (by kernel_rfl) ⟨?_,trivial⟩))))⟩
     ·
      refine⟨_,rfl,rfl,(ao rfl (aE aA 1 rfl (aF (dB (by kernel_rfl) ?_))))⟩
      refine hK7 _ (aC (fun K13 hK13=>(aC (fun K14 hK14=>(aB (aE aA 2 rfl (aD (hK14 _ (cH rfl rfl (fun hc4=>?_) (fun hc4=>?_))))))))))
      ·
       simp only[bs] at hc4
       refine aC (fun K15 hK15=>(aB (aH rfl (cK rfl bB nN (l3 rfl) rfl) (bM (jY gW) (aE aA 1 rfl (aZ hf rfl rfl cM rfl rfl (l1 rfl) (l4 rfl) rfl (aE aA 1 rfl (aD (hK15 _ (aN ?_))))))))))
       refine⟨_,rfl,?_⟩
       rw[show bT s e=(aJ,(bO s e).2) from by rw[bT,if_pos (by simp_all),if_neg (by omega),if_neg (by first | assumption | simp_all)]]; rfl
      ·
       simp only[bs] at hc4
       refine aP (hK13 _ (aC (fun K16 hK16=>(aB (aE aA 3 rfl (aZ hf rfl rfl cI rfl rfl (l1 rfl) (l4 rfl) rfl (aD (hK16 _ (aC (fun K17 hK17=>(aB (aH rfl (cD (cs':=[.s (.int .i64 e.at'),.s (.int .i64 (bO s e).1.hor),.sl 4 ((bO s e).1.opn.map seC),.own 222 2 0 ((bO s e).1.usr.map usC).length,.sl 4 ((bO s e).1.sub.map enC),.own 223 2 0 ((bO s e).1.tmb.map tmC).length]) rfl pH cM rfl rfl rfl) (aZ hf rfl rfl cM rfl rfl (l1 rfl) (l4 rfl) rfl (aE aA 1 rfl ?_))))))))))))))
       refine aD (hK17 _ (aN ?_))
       refine⟨_,rfl,?_⟩
       rw[show bT s e=({ (bO s e).1 with now:=e.at' },0) from by rw[bT,if_pos (by simp_all),if_neg (by omega),if_pos (by first | assumption | simp_all)]]
       show AV.tup [.agg [_,_,_,AV.conv _ (.own 222 2 0 ((bO s e).1.usr.map usC).length),_,AV.conv _ (.own 223 2 0 ((bO s e).1.tmb.map tmC).length)],_]=_
       rw[cE (g:=222) rfl rfl,cE (g:=223) rfl rfl]; rfl
   refine aK 2 #[true,true,true,true,true,true,false,true,true,false] ⟨35,[(3,.adr (evC e)),(4,.ref 4 0 0 0),(6,.ref 6 0 0 0),(20,.tup [.agg (eX (bO s e).1 222 223),.s (.int .i64 (bO s e).2)])],[(6,.box (eX (bO s e).1 222 223)),(222,.buf 2 ((bO s e).1.usr.map usC)),(223,.buf 2 ((bO s e).1.tmb.map tmC)),(4,.box [.s (.int .i64 0),.s (.int .i64 0),.s (.slice none 0 0),.s (.slice none 0 0),.s (.slice none 0 0),.s (.slice none 0 0)])]⟩ ?_ (fun hD2=>?_)
   ·
    refine aG 6 [] (by kernel_rfl) ⟨?_,trivial⟩
    ·
     refine⟨_,rfl,rfl,(ao rfl (aE aA 1 rfl (aF (ag hD0 rfl rfl rfl))))⟩
   refine aK 3 #[true,true,true,true,true,true,true,false,false,false] ⟨35,[(3,.adr (evC e)),(4,.ref 4 0 0 0),(25,.agg (eX (bO s e).1 222 223)),(26,.s (.int .i64 (bO s e).2))],[(222,.buf 2 ((bO s e).1.usr.map usC)),(223,.buf 2 ((bO s e).1.tmb.map tmC)),(4,.box [.s (.int .i64 0),.s (.int .i64 0),.s (.slice none 0 0),.s (.slice none 0 0),.s (.slice none 0 0),.s (.slice none 0 0)])]⟩ ?_ (fun hD3=>?_)
   ·
    refine aG 7 [] (by kernel_rfl) ⟨?_,trivial⟩
    ·
     refine⟨_,rfl,rfl,(ao rfl (aX hf rfl rfl rfl bB (aF (ag hD1 rfl rfl rfl))))⟩
   refine aK 3 #[true,true,true,true,true,true,false,true,false,false] ⟨35,[(3,.adr (evC e)),(4,.ref 4 0 0 0),(6,.ref 6 0 0 0),(20,.tup [.agg (eX (bO s e).1 222 223),.s (.int .i64 (bO s e).2)]),(25,.agg (eX (bO s e).1 222 223))],[(6,.box [.s (.int .i64 0),.s (.int .i64 0),.s (.slice none 0 0),.s (.slice none 0 0),.s (.slice none 0 0),.s (.slice none 0 0)]),(222,.buf 2 ((bO s e).1.usr.map usC)),(223,.buf 2 ((bO s e).1.tmb.map tmC)),(4,.box [.s (.int .i64 0),.s (.int .i64 0),.s (.slice none 0 0),.s (.slice none 0 0),.s (.slice none 0 0),.s (.slice none 0 0)])]⟩ ?_ (fun hD4=>?_)
   ·
    refine aG 6 [8] (by kernel_rfl) ⟨?_,?_,trivial⟩
    ·
     refine⟨_,rfl,rfl,(ao rfl (aE aA 1 rfl (aF (ag hD1 rfl rfl rfl))))⟩
    ·
     refine⟨_,rfl,rfl,(ao rfl (aZ hf rfl rfl cM rfl rfl (l1 rfl) (l4 rfl) rfl (aF (ag hD2 rfl rfl rfl))))⟩
   refine aK 3 #[true,true,true,true,true,false,true,true,false,false] ⟨35,[(3,.adr (evC e)),(4,.ref 4 0 0 0),(6,.ref 6 0 0 0),(20,.tup [.agg (eX (bO s e).1 222 223),.s (.int .i64 (bO s e).2)]),(26,.s (.int .i64 (bO s e).2))],[(6,.box [.s (.int .i64 0),.s (.int .i64 0),.s (.slice none 0 0),.s (.slice none 0 0),.s (.slice none 0 0),.s (.slice none 0 0)]),(222,.buf 2 ((bO s e).1.usr.map usC)),(223,.buf 2 ((bO s e).1.tmb.map tmC)),(4,.box [.s (.int .i64 0),.s (.int .i64 0),.s (.slice none 0 0),.s (.slice none 0 0),.s (.slice none 0 0),.s (.slice none 0 0)])]⟩ ?_ (fun hD5=>?_)
   ·
    refine aG 5 [] (by kernel_rfl) ⟨?_,trivial⟩
    ·
     refine⟨_,rfl,rfl,(ao rfl (aE aA 1 rfl (aF (ag hD1 rfl rfl rfl))))⟩
   refine aK 4 #[true,true,true,true,true,true,false,false,false,false] ⟨35,[(3,.adr (evC e)),(4,.ref 4 0 0 0),(20,.tup [.agg (eX (bO s e).1 222 223),.s (.int .i64 (bO s e).2)]),(25,.agg (eX (bO s e).1 222 223))],[(222,.buf 2 ((bO s e).1.usr.map usC)),(223,.buf 2 ((bO s e).1.tmb.map tmC)),(4,.box [.s (.int .i64 0),.s (.int .i64 0),.s (.slice none 0 0),.s (.slice none 0 0),.s (.slice none 0 0),.s (.slice none 0 0)])]⟩ ?_ (fun hD6=>?_)
   ·
    refine aG 6 [7] (by kernel_rfl) ⟨?_,?_,trivial⟩
    ·
     refine⟨_,rfl,rfl,(ao rfl (aE aA 1 rfl (aF (ag hD3 rfl rfl rfl))))⟩
    ·
     refine⟨_,rfl,rfl,(ao rfl (aX hf rfl rfl rfl bB (aF (ag hD4 rfl rfl rfl))))⟩
   refine aK 4 #[true,true,true,true,true,false,true,false,false,false] ⟨35,[(3,.adr (evC e)),(4,.ref 4 0 0 0),(20,.tup [.agg (eX (bO s e).1 222 223),.s (.int .i64 (bO s e).2)]),(26,.s (.int .i64 (bO s e).2))],[(222,.buf 2 ((bO s e).1.usr.map usC)),(223,.buf 2 ((bO s e).1.tmb.map tmC)),(4,.box [.s (.int .i64 0),.s (.int .i64 0),.s (.slice none 0 0),.s (.slice none 0 0),.s (.slice none 0 0),.s (.slice none 0 0)])]⟩ ?_ (fun hD7=>?_)
   ·
    refine aG 5 [7] (by kernel_rfl) ⟨?_,?_,trivial⟩
    ·
     refine⟨_,rfl,rfl,(ao rfl (aE aA 1 rfl (aF (ag hD3 rfl rfl rfl))))⟩
    ·
     refine⟨_,rfl,rfl,(ao rfl (aX hf rfl rfl rfl bB (aF (ag hD5 rfl rfl rfl))))⟩
   refine aK 4 #[true,true,true,true,true,false,false,true,false,false] ⟨35,[(3,.adr (evC e)),(4,.ref 4 0 0 0),(6,.ref 6 0 0 0),(20,.tup [.agg (eX (bO s e).1 222 223),.s (.int .i64 (bO s e).2)])],[(6,.box [.s (.int .i64 0),.s (.int .i64 0),.s (.slice none 0 0),.s (.slice none 0 0),.s (.slice none 0 0),.s (.slice none 0 0)]),(222,.buf 2 ((bO s e).1.usr.map usC)),(223,.buf 2 ((bO s e).1.tmb.map tmC)),(4,.box [.s (.int .i64 0),.s (.int .i64 0),.s (.slice none 0 0),.s (.slice none 0 0),.s (.slice none 0 0),.s (.slice none 0 0)])]⟩ ?_ (fun hD8=>?_)
   ·
    refine aG 5 [6] (by kernel_rfl) ⟨?_,?_,trivial⟩
    ·
     refine⟨_,rfl,rfl,(ao rfl (aE aA 1 rfl (aF (ag hD4 rfl rfl rfl))))⟩
    ·
     refine⟨_,rfl,rfl,(ao rfl (aE aA 1 rfl (aF (ag hD5 rfl rfl rfl))))⟩
   refine aK 5 #[true,true,true,true,true,false,false,false,false,false] ⟨35,[(3,.adr (evC e)),(4,.ref 4 0 0 0),(20,.tup [.agg (eX (bO s e).1 222 223),.s (.int .i64 (bO s e).2)])],[(222,.buf 2 ((bO s e).1.usr.map usC)),(223,.buf 2 ((bO s e).1.tmb.map tmC)),(4,.box [.s (.int .i64 0),.s (.int .i64 0),.s (.slice none 0 0),.s (.slice none 0 0),.s (.slice none 0 0),.s (.slice none 0 0)])]⟩ ?_ (fun hD9=>?_)
   ·
    refine aG 5 [6,7] (by kernel_rfl) ⟨?_,?_,?_,trivial⟩
    ·
     refine⟨_,rfl,rfl,(ao rfl (aE aA 1 rfl (aF (ag hD6 rfl rfl rfl))))⟩
    ·
     refine⟨_,rfl,rfl,(ao rfl (aE aA 1 rfl (aF (ag hD7 rfl rfl rfl))))⟩
    ·
     refine⟨_,rfl,rfl,(ao rfl (aX hf rfl rfl rfl bB (aF (ag hD8 rfl rfl rfl))))⟩
   refine aK 5 #[true,true,true,true,false,false,false,true,false,false] ⟨35,[(3,.adr (evC e)),(4,.ref 4 0 0 0),(6,.ref 6 0 0 0),(24,.tup [.agg (eX (bO s e).1 222 223),.s (.int .i64 (bO s e).2)])],[(6,.box [.s (.int .i64 0),.s (.int .i64 0),.s (.slice none 0 0),.s (.slice none 0 0),.s (.slice none 0 0),.s (.slice none 0 0)]),(222,.buf 2 ((bO s e).1.usr.map usC)),(223,.buf 2 ((bO s e).1.tmb.map tmC)),(4,.box [.s (.int .i64 0),.s (.int .i64 0),.s (.slice none 0 0),.s (.slice none 0 0),.s (.slice none 0 0),.s (.slice none 0 0)])]⟩ ?_ (fun hD10=>?_)
   ·
    refine aG 4 [] (by kernel_rfl) ⟨?_,trivial⟩
    ·
     refine⟨_,rfl,rfl,(ao rfl (aE aA 1 rfl (aF (ag hD8 rfl rfl rfl))))⟩
   refine aK 6 #[true,true,true,true,false,false,false,false,false,false] ⟨35,[(3,.adr (evC e)),(4,.ref 4 0 0 0),(24,.tup [.agg (eX (bO s e).1 222 223),.s (.int .i64 (bO s e).2)])],[(222,.buf 2 ((bO s e).1.usr.map usC)),(223,.buf 2 ((bO s e).1.tmb.map tmC)),(4,.box [.s (.int .i64 0),.s (.int .i64 0),.s (.slice none 0 0),.s (.slice none 0 0),.s (.slice none 0 0),.s (.slice none 0 0)])]⟩ ?_ (fun hD11=>?_)
   ·
    refine aG 4 [7] (by kernel_rfl) ⟨?_,?_,trivial⟩
    ·
     refine⟨_,rfl,rfl,(ao rfl (aE aA 1 rfl (aF (ag hD9 rfl rfl rfl))))⟩
    ·
     refine⟨_,rfl,rfl,(ao rfl (aX hf rfl rfl rfl bB (aF (ag hD10 rfl rfl rfl))))⟩
   refine aK 6 #[true,true,true,false,false,false,false,true,false,false] ⟨35,[(3,.adr (evC e)),(4,.ref 4 0 0 0),(6,.ref 6 0 0 0),(22,.agg (eX s 222 223)),(23,.agg (evC e))],[(6,.box [.s (.int .i64 0),.s (.int .i64 0),.s (.slice none 0 0),.s (.slice none 0 0),.s (.slice none 0 0),.s (.slice none 0 0)]),(222,.buf 2 (s.usr.map usC)),(223,.buf 2 (s.tmb.map tmC)),(4,.box [.s (.int .i64 0),.s (.int .i64 0),.s (.slice none 0 0),.s (.slice none 0 0),.s (.slice none 0 0),.s (.slice none 0 0)])]⟩ ?_ (fun hD12=>?_)
   ·
    refine aG 3 [] (by kernel_rfl) ⟨?_,trivial⟩
    ·
     refine⟨_,rfl,rfl,(ao rfl (jI hf [(E0,222),(E1,223)] [(E0,222),(E1,223)] rfl rfl rfl rfl rfl rfl (by decide) (by decide) (by decide) rfl aFh (aLd s e hz hr hr2 (by simp_all)) ?_))⟩
     rintro r m1 ⟨rfl,rfl⟩
     rw[aJ0]
     refine bM (dY [3,4,6,24] rfl) (aF (ag hD10 rfl rfl rfl))
   refine aK 7 #[true,true,true,false,false,false,false,false,false,false] ⟨35,[(3,.adr (evC e)),(4,.ref 4 0 0 0),(22,.agg (eX s 222 223)),(23,.agg (evC e))],[(222,.buf 2 (s.usr.map usC)),(223,.buf 2 (s.tmb.map tmC)),(4,.box [.s (.int .i64 0),.s (.int .i64 0),.s (.slice none 0 0),.s (.slice none 0 0),.s (.slice none 0 0),.s (.slice none 0 0)])]⟩ ?_ (fun hD13=>?_)
   ·
    refine aG 3 [7] (by kernel_rfl) ⟨?_,?_,trivial⟩
    ·
     refine⟨_,rfl,rfl,(ao rfl (jI hf [(E0,222),(E1,223)] [(E0,222),(E1,223)] rfl rfl rfl rfl rfl rfl (by decide) (by decide) (by decide) rfl aFh (aLd s e hz hr hr2 (by simp_all)) ?_))⟩
     rintro r m1 ⟨rfl,rfl⟩
     rw[aJ0]
     refine bM (dY [3,4,24] rfl) (aF (ag hD11 rfl rfl rfl))
    ·
     refine⟨_,rfl,rfl,(ao rfl (aX hf rfl rfl rfl bB (aF (ag hD12 rfl rfl rfl))))⟩
   refine aK 7 #[true,true,false,false,false,false,false,true,false,false] ⟨35,[(3,.adr (evC e)),(4,.ref 4 0 0 0),(6,.ref 6 0 0 0),(22,.agg (eX s 222 223))],[(6,.box [.s (.int .i64 0),.s (.int .i64 0),.s (.slice none 0 0),.s (.slice none 0 0),.s (.slice none 0 0),.s (.slice none 0 0)]),(222,.buf 2 (s.usr.map usC)),(223,.buf 2 (s.tmb.map tmC)),(4,.box [.s (.int .i64 0),.s (.int .i64 0),.s (.slice none 0 0),.s (.slice none 0 0),.s (.slice none 0 0),.s (.slice none 0 0)])]⟩ ?_ (fun hD14=>?_)
   ·
    refine aG 2 [] (by kernel_rfl) ⟨?_,trivial⟩
    ·
     refine⟨_,rfl,rfl,(ao rfl (aE aA 1 rfl (aF (ag hD12 rfl rfl rfl))))⟩
   refine aK 7 #[true,false,true,false,false,false,false,true,false,false] ⟨35,[(3,.adr (evC e)),(4,.ref 4 0 0 0),(6,.ref 6 0 0 0),(21,.agg (aL s)),(23,.agg (evC e))],[(6,.box [.s (.int .i64 0),.s (.int .i64 0),.s (.slice none 0 0),.s (.slice none 0 0),.s (.slice none 0 0),.s (.slice none 0 0)]),(4,.box [.s (.int .i64 0),.s (.int .i64 0),.s (.slice none 0 0),.s (.slice none 0 0),.s (.slice none 0 0),.s (.slice none 0 0)])]⟩ ?_ (fun hD15=>?_)
   ·
    refine aG 1 [] (by kernel_rfl) ⟨?_,trivial⟩
    ·
     refine⟨_,rfl,rfl,(ao rfl (jI hf [] [(E0,222),(E1,223)] rfl rfl rfl rfl rfl rfl (by decide) (by decide) (by decide) rfl rE (pG s (hz.mono (by omega))) ?_))⟩
     rintro r m1 ⟨rfl,rfl⟩
     rw[uI]
     refine bM (dY [3,4,6,22,23] rfl) (aF (ag hD12 rfl rfl rfl))
   refine aK 8 #[true,true,false,false,false,false,false,false,false,false] ⟨35,[(3,.adr (evC e)),(4,.ref 4 0 0 0),(22,.agg (eX s 222 223))],[(222,.buf 2 (s.usr.map usC)),(223,.buf 2 (s.tmb.map tmC)),(4,.box [.s (.int .i64 0),.s (.int .i64 0),.s (.slice none 0 0),.s (.slice none 0 0),.s (.slice none 0 0),.s (.slice none 0 0)])]⟩ ?_ (fun hD16=>?_)
   ·
    refine aG 2 [7] (by kernel_rfl) ⟨?_,?_,trivial⟩
    ·
     refine⟨_,rfl,rfl,(ao rfl (aE aA 1 rfl (aF (ag hD13 rfl rfl rfl))))⟩
    ·
     refine⟨_,rfl,rfl,(ao rfl (aX hf rfl rfl rfl bB (aF (ag hD14 rfl rfl rfl))))⟩
   refine aK 8 #[true,false,true,false,false,false,false,false,false,false] ⟨35,[(3,.adr (evC e)),(4,.ref 4 0 0 0),(21,.agg (aL s)),(23,.agg (evC e))],[(4,.box [.s (.int .i64 0),.s (.int .i64 0),.s (.slice none 0 0),.s (.slice none 0 0),.s (.slice none 0 0),.s (.slice none 0 0)])]⟩ ?_ (fun hD17=>?_)
   ·
    refine aG 1 [7] (by kernel_rfl) ⟨?_,?_,trivial⟩
    ·
     refine⟨_,rfl,rfl,(ao rfl (jI hf [] [(E0,222),(E1,223)] rfl rfl rfl rfl rfl rfl (by decide) (by decide) (by decide) rfl rE (pG s (hz.mono (by omega))) ?_))⟩
     rintro r m1 ⟨rfl,rfl⟩
     rw[uI]
     refine bM (dY [3,4,22,23] rfl) (aF (ag hD13 rfl rfl rfl))
    ·
     refine⟨_,rfl,rfl,(ao rfl (aX hf rfl rfl rfl bB (aF (ag hD15 rfl rfl rfl))))⟩
   refine aK 8 #[true,false,false,false,false,false,false,true,false,false] ⟨35,[(3,.adr (evC e)),(4,.ref 4 0 0 0),(6,.ref 6 0 0 0),(21,.agg (aL s))],[(6,.box [.s (.int .i64 0),.s (.int .i64 0),.s (.slice none 0 0),.s (.slice none 0 0),.s (.slice none 0 0),.s (.slice none 0 0)]),(4,.box [.s (.int .i64 0),.s (.int .i64 0),.s (.slice none 0 0),.s (.slice none 0 0),.s (.slice none 0 0),.s (.slice none 0 0)])]⟩ ?_ (fun hD18=>?_)
   ·
    refine aG 1 [2] (by kernel_rfl) ⟨?_,?_,trivial⟩
    ·
     refine⟨_,rfl,rfl,(ao rfl (jI hf [] [(E0,222),(E1,223)] rfl rfl rfl rfl rfl rfl (by decide) (by decide) (by decide) rfl rE (pG s (hz.mono (by omega))) ?_))⟩
     rintro r m1 ⟨rfl,rfl⟩
     rw[uI]
     refine bM (dY [3,4,6,22] rfl) (aF (ag hD14 rfl rfl rfl))
    ·
     refine⟨_,rfl,rfl,(ao rfl (aE aA 1 rfl (aF (ag hD15 rfl rfl rfl))))⟩
   refine aK 8 #[false,false,true,false,false,false,false,true,false,false] ⟨35,[(2,.adr (aL s)),(3,.adr (evC e)),(4,.ref 4 0 0 0),(6,.ref 6 0 0 0),(23,.agg (evC e))],[(6,.box [.s (.int .i64 0),.s (.int .i64 0),.s (.slice none 0 0),.s (.slice none 0 0),.s (.slice none 0 0),.s (.slice none 0 0)]),(4,.box [.s (.int .i64 0),.s (.int .i64 0),.s (.slice none 0 0),.s (.slice none 0 0),.s (.slice none 0 0),.s (.slice none 0 0)])]⟩ ?_ (fun hD19=>?_)
   ·
    refine aG 0 [] (by kernel_rfl) ⟨?_,trivial⟩
    ·
     refine⟨_,rfl,rfl,(ao rfl (aE aA 1 rfl (aF (ag hD15 rfl rfl rfl))))⟩
   refine aK 9 #[true,false,false,false,false,false,false,false,false,false] ⟨35,[(3,.adr (evC e)),(4,.ref 4 0 0 0),(21,.agg (aL s))],[(4,.box [.s (.int .i64 0),.s (.int .i64 0),.s (.slice none 0 0),.s (.slice none 0 0),.s (.slice none 0 0),.s (.slice none 0 0)])]⟩ ?_ (fun hD20=>?_)
   ·
    refine aG 1 [2,7] (by kernel_rfl) ⟨?_,?_,?_,trivial⟩
    ·
     refine⟨_,rfl,rfl,(ao rfl (jI hf [] [(E0,222),(E1,223)] rfl rfl rfl rfl rfl rfl (by decide) (by decide) (by decide) rfl rE (pG s (hz.mono (by omega))) ?_))⟩
     rintro r m1 ⟨rfl,rfl⟩
     rw[uI]
     refine bM (dY [3,4,22] rfl) (aF (ag hD16 rfl rfl rfl))
    ·
     refine⟨_,rfl,rfl,(ao rfl (aE aA 1 rfl (aF (ag hD17 rfl rfl rfl))))⟩
    ·
     refine⟨_,rfl,rfl,(ao rfl (aX hf rfl rfl rfl bB (aF (ag hD18 rfl rfl rfl))))⟩
   refine aK 9 #[false,false,true,false,false,false,false,false,false,false] ⟨35,[(2,.adr (aL s)),(3,.adr (evC e)),(4,.ref 4 0 0 0),(23,.agg (evC e))],[(4,.box [.s (.int .i64 0),.s (.int .i64 0),.s (.slice none 0 0),.s (.slice none 0 0),.s (.slice none 0 0),.s (.slice none 0 0)])]⟩ ?_ (fun hD21=>?_)
   ·
    refine aG 0 [7] (by kernel_rfl) ⟨?_,?_,trivial⟩
    ·
     refine⟨_,rfl,rfl,(ao rfl (aE aA 1 rfl (aF (ag hD17 rfl rfl rfl))))⟩
    ·
     refine⟨_,rfl,rfl,(ao rfl (aX hf rfl rfl rfl bB (aF (ag hD19 rfl rfl rfl))))⟩
   refine aK 9 #[false,false,false,false,false,false,false,true,false,false] ⟨35,[(2,.adr (aL s)),(3,.adr (evC e)),(4,.ref 4 0 0 0),(6,.ref 6 0 0 0)],[(6,.box [.s (.int .i64 0),.s (.int .i64 0),.s (.slice none 0 0),.s (.slice none 0 0),.s (.slice none 0 0),.s (.slice none 0 0)]),(4,.box [.s (.int .i64 0),.s (.int .i64 0),.s (.slice none 0 0),.s (.slice none 0 0),.s (.slice none 0 0),.s (.slice none 0 0)])]⟩ ?_ (fun hD22=>?_)
   ·
    refine aG 0 [2] (by kernel_rfl) ⟨?_,?_,trivial⟩
    ·
     refine⟨_,rfl,rfl,(ao rfl (aE aA 1 rfl (aF (ag hD18 rfl rfl rfl))))⟩
    ·
     refine⟨_,rfl,rfl,(ao rfl (aE aA 1 rfl (aF (ag hD19 rfl rfl rfl))))⟩
   refine gQ (lF (sl':=[(2,.adr (aL s)),(3,.adr (evC e)),(4,.ref 4 0 0 0)]) (m':=[(4,.box [.s (.int .i64 0),.s (.int .i64 0),.s (.slice none 0 0),.s (.slice none 0 0),.s (.slice none 0 0),.s (.slice none 0 0)])]) rfl rfl rfl) (aG 0 [2,7] (by kernel_rfl) ⟨?_,?_,?_,trivial⟩)
   ·
    refine⟨_,rfl,rfl,(ao rfl (aE aA 1 rfl (aF (ag hD20 rfl rfl rfl))))⟩
   ·
    refine⟨_,rfl,rfl,(ao rfl (aE aA 1 rfl (aF (ag hD21 rfl rfl rfl))))⟩
   ·
    refine⟨_,rfl,rfl,(ao rfl (aX hf rfl rfl rfl bB (aF (ag hD22 rfl rfl rfl))))⟩
end Go.Proofs.YtijnkglkchhomaaGreat
set_option linter.unusedVariables false
set_option linter.unusedSimpArgs false
namespace Go.Abs
open Go
section
variable {α:Type} {key:α→ByteArray}
def jR (key:α→ByteArray) (u:ByteArray) (y:α):Bool→List α→List α
  | d,[]=>if d=true then [] else [y]
  | d,x::l=>if d=false∧eA u (key x)≤0 then y::(if key x=u then jR key u y true l else x::jR key u y true l) else (if key x=u then jR key u y d l else x::jR key u y d l)
theorem sR (u:ByteArray) (y:α):∀ (l:List α),jR key u y true l=l.filter fun x=>!isK key u x
  | []=>by simp [jR]
  | x::l=>by
    rw[jR,if_neg (by simp),sR u y l,List.filter_cons]
    by_cases h:key x=u
    · simp [isK,h]
    · simp [isK,h]
theorem aEj (u:ByteArray) (y:α) (hy:key y=u):∀ (l:List α) (z:α),z∈jR key u y false l↔(z∈l∧key z≠u)∨z=y
  | [],z=>by simp [jR]
  | x::l,z=>by
    have ht:z∈jR key u y true l↔z∈l∧key z≠u:=by rw[sR,List.mem_filter]; simp [isK]
    have ih:=aEj u y hy l z
    rw[jR]
    split
    · split
      · rename_i h
        rw[List.mem_cons,ht,List.mem_cons]
        constructor
        · rintro (e | ⟨a,b⟩)
          · exact .inr e
          · exact .inl ⟨.inr a,b⟩
        · rintro (⟨a | a,b⟩ | e)
          · subst a; exact absurd h b
          · exact .inr ⟨a,b⟩
          · exact .inl e
      · rename_i h
        rw[List.mem_cons,List.mem_cons,ht,List.mem_cons]
        constructor
        · rintro (e | e | ⟨a,b⟩)
          · exact .inr e
          · subst e; exact .inl ⟨.inl rfl,h⟩
          · exact .inl ⟨.inr a,b⟩
        · rintro (⟨a | a,b⟩ | e)
          · exact .inr (.inl a)
          · exact .inr (.inr ⟨a,b⟩)
          · exact .inl e
    · split
      · rename_i h
        rw[ih,List.mem_cons]
        constructor
        · rintro (⟨a,b⟩ | e)
          · exact .inl ⟨.inr a,b⟩
          · exact .inr e
        · rintro (⟨a | a,b⟩ | e)
          · subst a; exact absurd h b
          · exact .inl ⟨a,b⟩
          · exact .inr e
      · rename_i h
        rw[List.mem_cons,ih,List.mem_cons]
        constructor
        · rintro (e | ⟨a,b⟩ | e)
          · subst e; exact .inl ⟨.inl rfl,h⟩
          · exact .inl ⟨.inr a,b⟩
          · exact .inr e
        · rintro (⟨a | a,b⟩ | e)
          · exact .inl a
          · exact .inr (.inl ⟨a,b⟩)
          · exact .inr (.inr e)
theorem aKv (u:ByteArray) (y:α) (hy:key y=u):∀ (l:List α),cX key l→cX key (jR key u y false l)
  | [],_=>by simp [jR,cX]
  | x::l,h=>by
    obtain ⟨h1,h2⟩:=List.pairwise_cons.1 h
    have ih:=aKv u y hy l h2
    have hf:cX key (jR key u y true l):=by rw[sR]; exact gU h2 _
    have hm:∀ z∈jR key u y true l,z∈l:=fun z hz=>by rw[sR] at hz; exact(List.mem_filter.1 hz).1
    rw[jR]
    split
    · rename_i hc
      split
      · rename_i he
        exact List.pairwise_cons.2 ⟨fun z hz=>by rw[hy,← he]; exact h1 z (hm z hz),hf⟩
      · rename_i hne
        have hlt:eA u (key x)<0:=by
          have:eA u (key x)≠0:=fun e=>hne ((lY _ _).1 e).symm
          omega
        refine List.pairwise_cons.2 ⟨fun z hz=>?_,List.pairwise_cons.2 ⟨fun z hz=>h1 z (hm z hz),hf⟩⟩
        rw[hy]
        rcases List.mem_cons.1 hz with rfl | hz
        · exact hlt
        · exact gI hlt (h1 z (hm z hz))
    · rename_i hc
      split
      · exact ih
      · rename_i hne
        refine List.pairwise_cons.2 ⟨fun z hz=>?_,ih⟩
        rcases (aEj u y hy l z).1 hz with ⟨a,_⟩ | rfl
        · exact h1 z a
        · rw[hy]
          have:=oL u (key x)
          have:eA u (key x)≠0:=fun e=>hne ((lY _ _).1 e).symm
          simp only[true_and] at hc
          omega
theorem aKu {u:ByteArray} {y:α} (hy:key y=u) {l:List α} (h:cX key l):jR key u y false l=yF key l u [y] :=
  kU (key:=key) (aKv u y hy l h) (vS h (by simpa using hy) (by simp)) fun z=>by
    rw[aEj u y hy,jW,List.mem_singleton]
theorem aRv {u:ByteArray} {y:α} {l:List α} (h:cX key l):jR key u y true l=yF key l u []:=by
  rw[sR,aDj h]
variable {u:ByteArray} {y:α} {l:List α} {k:Nat}
theorem aT4 {out:List α} {X:List α} (e:X=out++jR key u y false (l.drop k)) (hk:k<l.length) (h:eA u (key l[k])<0):X=(out++[y]++[l[k]])++jR key u y true (l.drop (k+1)):=by
  rw[e,List.drop_eq_getElem_cons hk,jR,if_pos ⟨rfl,by omega⟩,if_neg (fun e=>by rw[e,nZ] at h; omega)]
  simp
theorem aOi {out:List α} {X:List α} (e:X=out++jR key u y false (l.drop k)) (hk:k<l.length) (h:key l[k]=u):X=(out++[y])++jR key u y true (l.drop (k+1)):=by
  rw[e,List.drop_eq_getElem_cons hk,jR,if_pos ⟨rfl,by rw[h,nZ]; omega⟩,if_pos h]
  simp
theorem aKr {out:List α} {X:List α} (e:X=out++jR key u y true (l.drop k)) (hk:k<l.length) (h:key l[k]=u):X=out++jR key u y true (l.drop (k+1)):=by
  rw[e,List.drop_eq_getElem_cons hk,jR,if_neg (by simp),if_pos h]
theorem yS {out:List α} {X:List α} {d:Bool} (e:X=out++jR key u y d (l.drop k)) (hk:k<l.length) (h:key l[k]≠u) (h2:d=false→¬ eA u (key l[k])<0):X=(out++[l[k]])++jR key u y d (l.drop (k+1)):=by
  rw[e,List.drop_eq_getElem_cons hk,jR,if_neg (fun⟨a,b⟩=>by
    have:=h2 a
    have:eA u (key l[k])≠0:=fun e=>h ((lY _ _).1 e).symm
    omega),if_neg h]
  simp
theorem aCs {out:List α} {X:List α} {d:Bool} (e:X=out++jR key u y d (l.drop k)) (hk:l.length≤k):X=out++(if d=true then [] else [y]):=by
  rw[e,List.drop_eq_nil_of_le hk]; simp [jR]
end
theorem put_set {l:List Us} {u:ByteArray} {ys:List cB} (h:cX cZ l):jR cZ u (u,ys) (decide (ys=[])) l=kE l u ys:=by
  unfold kE tU
  by_cases e:ys=[]
  · rw[if_pos e,decide_eq_true e,aRv h]
  · rw[if_neg e,decide_eq_false e,aKu (u:=u) (y:=(u,ys)) rfl h]
theorem aQ3 {l:List Tm} {u:ByteArray} {t:Int} (h:cX dR l):jR dR u (u,t) false l=mC l u t:=aKu (u:=u) (y:=(u,t)) rfl h
theorem aRr {l:List Us} {u:ByteArray} {k:Nat} (hk:k<l.length) (h:∀ (j:Nat) (hj:j<l.length),j<k→isK cZ u l[j]=false) (he:l[k].1=u):ofU l u=l[k].2:=by
  rw[ofU,List.find?_eq_some_iff_getElem.2 ⟨by simp [isK,he],k,hk,rfl,fun j hj=>by have:=h j (by omega) hj; simpa using this⟩]; rfl
theorem ofU_no {l:List Us} {u:ByteArray} (h:∀ (j:Nat) (hj:j<l.length),isK cZ u l[j]=false):ofU l u=[]:=by
  rw[ofU,List.find?_eq_none.2 fun x hx=>by obtain ⟨j,hj,rfl⟩:=List.getElem_of_mem hx; have:=h j hj; simpa using this]; rfl
theorem len_nil {ys:List cB}:((((ys.map stC).length:Nat):Int) == 0)=decide (ys=[]):=by
  cases ys <;> simp <;> omega
structure TsS (s:Sta):Prop where
  o:∀ e∈s.opn,TS e.1.2
  u:∀ x∈s.usr,TS x.1
  b:∀ e∈s.sub,TS e.1.1∧TS e.1.2
  t:∀ x∈s.tmb,TS x.1
theorem aJv {s:Sta} (h:RightP s):TsS s:=⟨fun e he=>kR (aG0 h he).1,fun x hx=>kR (h.unm x hx),fun e he=>by
  have:=((qE _).1 h.sub).1 e he
  simp only[okE,Bool.and_eq_true,decide_eq_true_eq] at this
  exact⟨kR this.2.1,kR this.2.2⟩,fun x hx=>kR (h.tnm x hx)⟩
theorem fQ {s:Sta} (h:RightP s→False):false=qF s:=by
  cases e:qF s with
  | false=>rfl
  | true=>exact(h (pV.1 e)).elim
theorem aRg {s:Sta} (h:RightP s):true=qF s:=(pV.2 h).symm
theorem aQg {α:Type} {key:α→ByteArray} {l:List α} (h:cX key l) {k:Nat} (h0:0<k) (hk:k<l.length):eA (key (l[k - 1]'(by omega))) (key l[k])<0 :=
  List.pairwise_iff_getElem.1 h (k - 1) k (by omega) hk (by omega)
theorem aQf {α:Type} {key:α→ByteArray}:∀ {l:List α},(∀ (k:Nat) (h0:0<k) (hk:k<l.length),eA (key (l[k - 1]'(by omega))) (key l[k])<0)→cX key l
  | [],_=>List.Pairwise.nil
  | [x],_=>List.pairwise_singleton _ _
  | x::y::l,h=>by
    have ih:cX key (y::l):=aQf fun k h0 hk=>by
      have:=h (k+1) (by omega) (by simp only[List.length_cons] at hk ⊢; omega)
      obtain ⟨j,rfl⟩:∃ j,k=j+1:=⟨k - 1,by omega⟩
      simpa using this
    have h1:eA (key x) (key y)<0:=by have:=h 1 (by omega) (by simp); simpa using this
    refine List.pairwise_cons.2 ⟨fun z hz=>?_,ih⟩
    rcases List.mem_cons.1 hz with rfl | hz
    · exact h1
    · exact gI h1 ((List.pairwise_cons.1 ih).1 z hz)
theorem aLs {α:Type} {p:α→Prop} {l:List α} {k:Nat} (hk:l.length≤k) (h:∀ (j:Nat) (hj:j<l.length),j<k→p l[j]):∀ x∈l,p x:=fun x hx=>by
  obtain ⟨j,hj,rfl⟩:=List.getElem_of_mem hx
  exact h j hj (by omega)
theorem nA {n:Nat} {p:(j:Nat)→j<n→Prop} {k:Nat} (h:∀ (j:Nat) (hj:j<n),j<k→p j hj) (hk:k<n) (hp:p k hk):∀ (j:Nat) (hj:j<n),j<k+1→p j hj:=fun j hj hjk=>by
  by_cases e:j=k
  · subst e; exact hp
  · exact h j hj (by omega)
end Go.Abs
set_option linter.unusedVariables false
set_option linter.unusedSimpArgs false
namespace Go.Proofs.YtijnkglkchhomaaGreat
open Go Go.Abs
theorem aRh (s:Sta) (u:ByteArray) (hl:s.usr.length≤9223372036854775807) :Den Tryz.prog 75 [.agg (aL s),.s (.string u)]  (·=.sl 4 ((ofU s.usr u).map stC)):=by
 refine aY Tryz.func75 rfl (Nat.le_of_ble_eq_true rfl) (fun w0 A hf=>(aC (fun K1 hK1=>(aB (aM hf rfl (cT rfl rfl (lf rfl)) (aH rfl (bR) (aD (hK1 _ (aC (fun K2 hK2=>(aC (fun K3 hK3=>(aB (aE aA 1 rfl (aD (hK3 _ ?_))))))))))))))))
 refine aR (bY (ι:=Nat) (fun k=>⟨27,[(1,.s (.string u)),(2,.adr (aL s)),(5,.s (.int .i64 (k:Nat)))],[]⟩) (fun k=>k≤s.usr.length∧∀ (j:Nat) (hj:j<s.usr.length),j<k→isK cZ u s.usr[j]=false) (fun k=>s.usr.length - k) 0 ?_ ?_ ?_)
 · exact⟨Nat.zero_le _,by omega⟩
 · exact cW rfl
 ·
  rintro k hC
  obtain ⟨h1,h2⟩:=hC
  refine aC (fun K4 hK4=>(aC (fun K5 hK5=>(aB (aE aA 5 rfl (aD (hK5 _ (aO rfl (fun hc1=>?_) (fun hc1=>?_)))))))))
  ·
   simp only[bs] at hc1
   refine aP (hK4 _ (aC (fun K6 hK6=>(aR (aC (fun K7 hK7=>(aB (aE aA 3 rfl ?_))))))))
   refine aH rfl (bA rfl rfl eJ eG (by first | exact ixm (by omega) | assumption | exact⟨by decide,rfl⟩)) ?_
   refine aE aA 4 rfl (aD (hK7 _ (aO rfl (fun hc2=>?_) (fun hc2=>?_))))
   ·
    simp only[bs] at hc2
    refine aC (fun K8 hK8=>(aB (aE aA 3 rfl ?_)))
    refine aH rfl (bA rfl rfl eJ eG (by first | exact ixm (by omega) | assumption | exact⟨by decide,rfl⟩)) ?_
    refine aE aA 3 rfl (aD (hK8 _ (aN ?_)))
    refine⟨_,rfl,?_⟩
    rw[aRr (by omega) h2 (by simp_all[toList_inj])]; rfl
   ·
    simp only[bs] at hc2
    refine aP (hK6 _ (aB (aE aA 1 rfl ?_)))
    refine aH rfl (bS rfl rfl (by omega) (by omega)) ?_
    refine aE aA 1 rfl (aD ?_)
    exact⟨k+1,⟨by omega,nA h2 (by omega) (by simp_all[isK,toList_inj])⟩,by omega,cW rfl⟩
  ·
   simp only[bs] at hc1
   refine bF (hK2 _ (aC (fun K9 hK9=>(aB (aH rfl (rM (k:=4)) (aD (hK9 _ (aN ?_))))))))
   refine⟨_,rfl,?_⟩
   rw[ofU_no fun j hj=>h2 j hj (by omega)]; rfl
theorem aOa (l:List Us) (u:ByteArray) (ys:List cB) (hl:l.length*40+40≤140737488355328) (hu:TS u) (ht:∀ x∈l,TS x.1) :Den Tryz.prog 107 [.sl 2 (l.map usC),.s (.string u),.sl 4 (ys.map stC)]  (·=.sl 2 ((jR cZ u (u,ys) (decide (ys=[])) l).map usC)):=by
 refine aY Tryz.func107 rfl (Nat.le_of_ble_eq_true rfl) (fun w0 A hf=>(aC (fun K1 hK1=>(aB (aH rfl (bR) (aD (hK1 _ (aC (fun K2 hK2=>(aB (jT hf 2 rfl rfl rfl (aD (hK2 _ (aC (fun K3 hK3=>(aB ?_))))))))))))))))
 refine aE aA 4 rfl (aD (hK3 _ (aC (fun K4 hK4=>(aC (fun K5 hK5=>(aB (aE aA 1 rfl (aD (hK5 _ (aR (bY (ι:=Nat×Bool×List Us) (fun(⟨k,d,out⟩:Nat×Bool×List Us)=>⟨77,[(0,.sl 2 (l.map usC)),(1,.s (.string u)),(2,.sl 4 (ys.map stC)),(7,.own 7 2 0 out.length),(8,.s (.bool d)),(9,.s (.int .i64 (k:Nat)))],[(7,.buf 2 (out.map usC))]⟩) (fun(⟨k,d,out⟩:Nat×Bool×List Us)=>k≤l.length∧jR cZ u (u,ys) (decide (ys=[])) l=out++jR cZ u (u,ys) d (l.drop k)∧out.length≤k+d.toNat) (fun(⟨k,d,out⟩:Nat×Bool×List Us)=>l.length - k) (0,(decide (ys=[])),[]) ?_ ?_ ?_))))))))))))
 · exact⟨Nat.zero_le _,rfl,Nat.zero_le _⟩
 · exact cJ ⟨rfl,rfl,rfl,rfl,(by show some (AV.s (.bool ((((ys.map stC).length:Nat):Int) == 0)))=_; rw[len_nil]),rfl,trivial⟩ rfl
 ·
  rintro ⟨k,d,out⟩ hC
  obtain ⟨h1,h2,h3⟩:=hC
  have hdn:d.toNat≤1:=Bool.toNat_le d
  refine aC (fun K6 hK6=>(aC (fun K7 hK7=>(aB (aE aA 4 rfl (aD (hK7 _ (aO rfl (fun hc1=>?_) (fun hc1=>?_)))))))))
  ·
   simp only[bs] at hc1
   refine aP (hK6 _ (aC (fun K8 hK8=>(aR (aC (fun K9 hK9=>(aC (fun K10 hK10=>(aB (aE aA 3 rfl (bC rfl rfl rfl (fun hg2=>?_) (fun hg2=>?_))))))))))))
   ·
    simp only[bs] at hg2
    refine aH rfl (fD rfl) (aE aA 2 rfl (bP rfl rfl rfl ?_))
    refine aH rfl (bA rfl rfl eJ eG (by first | exact ixm (by omega) | assumption | exact⟨by decide,rfl⟩)) ?_
    refine aE aA 2 rfl (bP rfl rfl rfl (aM hf rfl (aQ rfl rfl oP rfl (Nm.refCmp_den u _ hu (ht _ (List.getElem_mem (by omega))))) (aE aA 2 rfl (aD (hK10 _ (aO rfl (fun hc3=>?_) (fun hc3=>?_)))))))
    ·
     simp only[bs] at hc3
     try (have hd:d=false:=by simp_all)
     try subst hd
     simp only[Bool.toNat_false,Nat.add_zero] at h3
     refine aC (fun K11 hK11=>(aB (aE aA 3 rfl (aH rfl (cK rfl rB sW (l3 rfl) rfl) (aM hf rfl (bD eO rfl rfl rfl rfl (l2 rfl)) (bZ hf rfl eO rfl rfl rfl (.inl rfl) (by simp only[List.length_append,List.length_map,List.length_cons,List.length_nil]) rfl (by first | rfl | simp [eB,bV]) (by first | (simp only[maxLen,List.length_map,List.length_append,List.length_cons,List.length_nil]; omega) | (simp [maxLen] <;> omega)) (by first | (simp only[List.length_map,List.length_append,List.length_cons,List.length_nil]; omega) | (simp <;> omega)) ?_))))))
     refine bM (dY [0,1,2,9,36] rfl) (aE aA 1 rfl (aD (hK11 _ (aB (aE aA 1 rfl (aD (hK9 _ (aC (fun K12 hK12=>(aB (aE aA 2 rfl ?_)))))))))))
     refine aH rfl (bA rfl rfl eJ eG (by first | exact ixm (by omega) | assumption | exact⟨by decide,rfl⟩)) ?_
     refine aE aA 5 rfl (bC rfl rfl rfl (fun hg4=>?_) (fun hg4=>?_))
     ·
      simp only[bs] at hg4
      refine aH rfl (fD rfl) (aE aA 2 rfl (aD (hK12 _ (bJ rfl (aC (fun K13 hK13=>(aB (aE aA 2 rfl ?_))))))))
      refine aH rfl (bA rfl rfl eJ eG (by first | exact ixm (by omega) | assumption | exact⟨by decide,rfl⟩)) ?_
      refine aE aA 4 rfl (aD (hK13 _ (aO rfl (fun hc6=>?_) (fun hc6=>?_))))
      ·
       simp only[bs] at hc6
       refine aB (aE aA 3 rfl ?_)
       refine aH rfl (bA rfl rfl eJ eG (by first | exact ixm (by omega) | assumption | exact⟨by decide,rfl⟩)) ?_
       refine aE aA 1 rfl (aM hf rfl (bD eO rfl rfl rfl rfl (l2 rfl)) (bZ hf rfl eO rfl rfl rfl (.inl rfl) (by simp only[List.length_append,List.length_map,List.length_cons,List.length_nil]) rfl (by first | rfl | simp [eB,bV]) (by first | (simp only[maxLen,List.length_map,List.length_append,List.length_cons,List.length_nil]; omega) | (simp [maxLen] <;> omega)) (by first | (simp only[List.length_map,List.length_append,List.length_cons,List.length_nil]; omega) | (simp <;> omega)) ?_))
       refine bM (dY [0,1,2,8,9,67] rfl) (aE aA 1 rfl ?_)
       refine bL ?_
       refine hK8 _ (aB (aE aA 1 rfl ?_))
       refine aH rfl (bS rfl rfl (by omega) (by omega)) ?_
       refine aE aA 1 rfl (aD ?_)
       contradiction
      ·
       simp only[bs] at hc6
       refine aP (hK8 _ (aB (aE aA 1 rfl ?_)))
       refine aH rfl (bS rfl rfl (by omega) (by omega)) ?_
       refine aE aA 1 rfl (aD ?_)
       exact⟨(k+1,true,out++[(u,ys)]),⟨by omega,aOi h2 (by assumption) (toList_inj.1 (by assumption)),by simp only[List.length_append,List.length_cons,List.length_nil,Bool.toNat_true,Bool.toNat_false]; omega⟩,by simp only; omega,cJ ⟨rfl,rfl,rfl,(by first | rfl | (simp only[List.length_append]; rfl)),rfl,rfl,trivial⟩ (by simp only[List.map_append]; rfl)⟩
     ·
      simp only[bs] at hg4
      refine aE aA 2 rfl (aD (hK12 _ (bJ rfl (aC (fun K14 hK14=>(aB (aE aA 2 rfl ?_)))))))
      refine aH rfl (bA rfl rfl eJ eG (by first | exact ixm (by omega) | assumption | exact⟨by decide,rfl⟩)) ?_
      refine aE aA 4 rfl (aD (hK14 _ (aO rfl (fun hc8=>?_) (fun hc8=>?_))))
      ·
       simp only[bs] at hc8
       refine aB (aE aA 3 rfl ?_)
       refine aH rfl (bA rfl rfl eJ eG (by first | exact ixm (by omega) | assumption | exact⟨by decide,rfl⟩)) ?_
       refine aE aA 1 rfl (aM hf rfl (bD eO rfl rfl rfl rfl (l2 rfl)) (bZ hf rfl eO rfl rfl rfl (.inl rfl) (by simp only[List.length_append,List.length_map,List.length_cons,List.length_nil]) rfl (by first | rfl | simp [eB,bV]) (by first | (simp only[maxLen,List.length_map,List.length_append,List.length_cons,List.length_nil]; omega) | (simp [maxLen] <;> omega)) (by first | (simp only[List.length_map,List.length_append,List.length_cons,List.length_nil]; omega) | (simp <;> omega)) ?_))
       refine bM (dY [0,1,2,8,9,67] rfl) (aE aA 1 rfl ?_)
       refine bL ?_
       refine hK8 _ (aB (aE aA 1 rfl ?_))
       refine aH rfl (bS rfl rfl (by omega) (by omega)) ?_
       refine aE aA 1 rfl (aD ?_)
       exact⟨(k+1,true,out++[(u,ys)]++[l[k]]),⟨by omega,aT4 h2 (by assumption) (by first | assumption | (have hne:u≠l[k].1:=fun e=>(by assumption:¬ _=_) (by rw[e]); have hq:eA u l[k].1≠0:=(fun e=>hne ((lY _ _).1 e)); show eA u l[k].1<0; omega)),by simp only[List.length_append,List.length_cons,List.length_nil,Bool.toNat_true,Bool.toNat_false]; omega⟩,by simp only; omega,cJ ⟨rfl,rfl,rfl,(by first | rfl | (simp only[List.length_append]; rfl)),rfl,rfl,trivial⟩ (by simp only[List.map_append]; rfl)⟩
      ·
       simp only[bs] at hc8
       refine aP (hK8 _ (aB (aE aA 1 rfl ?_)))
       refine aH rfl (bS rfl rfl (by omega) (by omega)) ?_
       refine aE aA 1 rfl (aD ?_)
       contradiction
    ·
     simp only[bs] at hc3
     try (have hd:d=false:=by simp_all)
     try subst hd
     simp only[Bool.toNat_false,Nat.add_zero] at h3
     refine aP (hK9 _ (aC (fun K15 hK15=>(aB (aE aA 2 rfl ?_)))))
     refine aH rfl (bA rfl rfl eJ eG (by first | exact ixm (by omega) | assumption | exact⟨by decide,rfl⟩)) ?_
     refine aE aA 5 rfl (bC rfl rfl rfl (fun hg9=>?_) (fun hg9=>?_))
     ·
      simp only[bs] at hg9
      refine aH rfl (fD rfl) (aE aA 2 rfl (aD (hK15 _ (aO rfl (fun hc10=>?_) (fun hc10=>?_)))))
      ·
       simp only[bs] at hc10
       try (have hd:d=false:=by simp_all)
       try subst hd
       refine aC (fun K16 hK16=>(aB (aE aA 3 rfl (aH rfl (cK rfl rB sW (l3 rfl) rfl) (aM hf rfl (bD eO rfl rfl rfl rfl (l2 rfl)) (bZ hf rfl eO rfl rfl rfl (.inl rfl) (by simp only[List.length_append,List.length_map,List.length_cons,List.length_nil]) rfl (by first | rfl | simp [eB,bV]) (by first | (simp only[maxLen,List.length_map,List.length_append,List.length_cons,List.length_nil]; omega) | (simp [maxLen] <;> omega)) (by first | (simp only[List.length_map,List.length_append,List.length_cons,List.length_nil]; omega) | (simp <;> omega)) ?_))))))
       refine bM (dY [0,1,2,9,53] rfl) (aE aA 1 rfl (aD (hK16 _ (aB (aE aA 1 rfl ?_)))))
       refine bL ?_
       refine hK8 _ (aB (aE aA 1 rfl ?_))
       refine aH rfl (bS rfl rfl (by omega) (by omega)) ?_
       refine aE aA 1 rfl (aD ?_)
       exact⟨(k+1,true,out++[(u,ys)]),⟨by omega,aOi h2 (by assumption) (toList_inj.1 (by assumption)),by simp only[List.length_append,List.length_cons,List.length_nil,Bool.toNat_true,Bool.toNat_false]; omega⟩,by simp only; omega,cJ ⟨rfl,rfl,rfl,(by first | rfl | (simp only[List.length_append]; rfl)),rfl,rfl,trivial⟩ (by simp only[List.map_append]; rfl)⟩
      ·
       simp only[bs] at hc10
       refine aC (fun K17 hK17=>(aB (aE aA 2 rfl ?_)))
       refine aH rfl (bA rfl rfl eJ eG (by first | exact ixm (by omega) | assumption | exact⟨by decide,rfl⟩)) ?_
       refine aE aA 4 rfl (aD (hK17 _ (aO rfl (fun hc11=>?_) (fun hc11=>?_))))
       ·
        simp only[bs] at hc11
        refine aB (aE aA 3 rfl ?_)
        refine aH rfl (bA rfl rfl eJ eG (by first | exact ixm (by omega) | assumption | exact⟨by decide,rfl⟩)) ?_
        refine aE aA 1 rfl (aM hf rfl (bD eO rfl rfl rfl rfl (l2 rfl)) (bZ hf rfl eO rfl rfl rfl (.inl rfl) (by simp only[List.length_append,List.length_map,List.length_cons,List.length_nil]) rfl (by first | rfl | simp [eB,bV]) (by first | (simp only[maxLen,List.length_map,List.length_append,List.length_cons,List.length_nil]; omega) | (simp [maxLen] <;> omega)) (by first | (simp only[List.length_map,List.length_append,List.length_cons,List.length_nil]; omega) | (simp <;> omega)) ?_))
        refine bM (dY [0,1,2,8,9,67] rfl) (aE aA 1 rfl ?_)
        refine bL ?_
        refine hK8 _ (aB (aE aA 1 rfl ?_))
        refine aH rfl (bS rfl rfl (by omega) (by omega)) ?_
        refine aE aA 1 rfl (aD ?_)
        contradiction
       ·
        simp only[bs] at hc11
        refine aP (hK8 _ (aB (aE aA 1 rfl ?_)))
        refine aH rfl (bS rfl rfl (by omega) (by omega)) ?_
        refine aE aA 1 rfl (aD ?_)
        contradiction
     ·
      simp only[bs] at hg9
      refine aE aA 2 rfl (aD (hK15 _ (bJ rfl (aC (fun K18 hK18=>(aB (aE aA 2 rfl ?_)))))))
      refine aH rfl (bA rfl rfl eJ eG (by first | exact ixm (by omega) | assumption | exact⟨by decide,rfl⟩)) ?_
      refine aE aA 4 rfl (aD (hK18 _ (aO rfl (fun hc13=>?_) (fun hc13=>?_))))
      ·
       simp only[bs] at hc13
       refine aB (aE aA 3 rfl ?_)
       refine aH rfl (bA rfl rfl eJ eG (by first | exact ixm (by omega) | assumption | exact⟨by decide,rfl⟩)) ?_
       refine aE aA 1 rfl (aM hf rfl (bD eO rfl rfl rfl rfl (l2 rfl)) (bZ hf rfl eO rfl rfl rfl (.inl rfl) (by simp only[List.length_append,List.length_map,List.length_cons,List.length_nil]) rfl (by first | rfl | simp [eB,bV]) (by first | (simp only[maxLen,List.length_map,List.length_append,List.length_cons,List.length_nil]; omega) | (simp [maxLen] <;> omega)) (by first | (simp only[List.length_map,List.length_append,List.length_cons,List.length_nil]; omega) | (simp <;> omega)) ?_))
       refine bM (dY [0,1,2,8,9,67] rfl) (aE aA 1 rfl ?_)
       refine bL ?_
       refine hK8 _ (aB (aE aA 1 rfl ?_))
       refine aH rfl (bS rfl rfl (by omega) (by omega)) ?_
       refine aE aA 1 rfl (aD ?_)
       exact⟨(k+1,false,out++[l[k]]),⟨by omega,yS h2 (by assumption) (fun e=>(by assumption:¬ _=_) (by show l[k].1.toList=_; rw[show l[k].1=u from e])) (fun e=>by show ¬ eA u l[k].1<0; omega),by simp only[List.length_append,List.length_cons,List.length_nil,Bool.toNat_true,Bool.toNat_false]; omega⟩,by simp only; omega,cJ ⟨rfl,rfl,rfl,(by first | rfl | (simp only[List.length_append]; rfl)),rfl,rfl,trivial⟩ (by simp only[List.map_append]; rfl)⟩
      ·
       simp only[bs] at hc13
       refine aP (hK8 _ (aB (aE aA 1 rfl ?_)))
       refine aH rfl (bS rfl rfl (by omega) (by omega)) ?_
       refine aE aA 1 rfl (aD ?_)
       contradiction
   ·
    simp only[bs] at hg2
    refine aE aA 8 rfl (aD (hK10 _ (bJ rfl (aP (hK9 _ (aC (fun K19 hK19=>(aB (aE aA 2 rfl ?_)))))))))
    refine aH rfl (bA rfl rfl eJ eG (by first | exact ixm (by omega) | assumption | exact⟨by decide,rfl⟩)) ?_
    refine aE aA 5 rfl (bC rfl rfl rfl (fun hg15=>?_) (fun hg15=>?_))
    ·
     simp only[bs] at hg15
     refine aH rfl (fD rfl) (aE aA 2 rfl (aD (hK19 _ (aO rfl (fun hc16=>?_) (fun hc16=>?_)))))
     ·
      simp only[bs] at hc16
      try (have hd:d=false:=by simp_all)
      try subst hd
      simp only[Bool.toNat_false,Nat.add_zero] at h3
      refine aC (fun K20 hK20=>(aB (aE aA 3 rfl (aH rfl (cK rfl rB sW (l3 rfl) rfl) (aM hf rfl (bD eO rfl rfl rfl rfl (l2 rfl)) (bZ hf rfl eO rfl rfl rfl (.inl rfl) (by simp only[List.length_append,List.length_map,List.length_cons,List.length_nil]) rfl (by first | rfl | simp [eB,bV]) (by first | (simp only[maxLen,List.length_map,List.length_append,List.length_cons,List.length_nil]; omega) | (simp [maxLen] <;> omega)) (by first | (simp only[List.length_map,List.length_append,List.length_cons,List.length_nil]; omega) | (simp <;> omega)) ?_))))))
      refine bM (dY [0,1,2,9,53] rfl) (aE aA 1 rfl (aD (hK20 _ (aB (aE aA 1 rfl ?_)))))
      refine bL ?_
      refine hK8 _ (aB (aE aA 1 rfl ?_))
      refine aH rfl (bS rfl rfl (by omega) (by omega)) ?_
      refine aE aA 1 rfl (aD ?_)
      contradiction
     ·
      simp only[bs] at hc16
      refine aC (fun K21 hK21=>(aB (aE aA 2 rfl ?_)))
      refine aH rfl (bA rfl rfl eJ eG (by first | exact ixm (by omega) | assumption | exact⟨by decide,rfl⟩)) ?_
      refine aE aA 4 rfl (aD (hK21 _ (aO rfl (fun hc17=>?_) (fun hc17=>?_))))
      ·
       simp only[bs] at hc17
       refine aB (aE aA 3 rfl ?_)
       refine aH rfl (bA rfl rfl eJ eG (by first | exact ixm (by omega) | assumption | exact⟨by decide,rfl⟩)) ?_
       refine aE aA 1 rfl (aM hf rfl (bD eO rfl rfl rfl rfl (l2 rfl)) (bZ hf rfl eO rfl rfl rfl (.inl rfl) (by simp only[List.length_append,List.length_map,List.length_cons,List.length_nil]) rfl (by first | rfl | simp [eB,bV]) (by first | (simp only[maxLen,List.length_map,List.length_append,List.length_cons,List.length_nil]; omega) | (simp [maxLen] <;> omega)) (by first | (simp only[List.length_map,List.length_append,List.length_cons,List.length_nil]; omega) | (simp <;> omega)) ?_))
       refine bM (dY [0,1,2,8,9,67] rfl) (aE aA 1 rfl ?_)
       refine bL ?_
       refine hK8 _ (aB (aE aA 1 rfl ?_))
       refine aH rfl (bS rfl rfl (by omega) (by omega)) ?_
       refine aE aA 1 rfl (aD ?_)
       contradiction
      ·
       simp only[bs] at hc17
       refine aP (hK8 _ (aB (aE aA 1 rfl ?_)))
       refine aH rfl (bS rfl rfl (by omega) (by omega)) ?_
       refine aE aA 1 rfl (aD ?_)
       (  have hd:d=true:=by simp_all
          subst hd
          exact⟨(k+1,true,out),⟨by omega,aKr h2 (by assumption) (toList_inj.1 (by assumption)),by omega⟩,by simp only; omega,cJ ⟨rfl,rfl,rfl,(by first | rfl | (simp only[List.length_append]; rfl)),rfl,rfl,trivial⟩ rfl⟩)
    ·
     simp only[bs] at hg15
     refine aE aA 2 rfl (aD (hK19 _ (bJ rfl (aC (fun K22 hK22=>(aB (aE aA 2 rfl ?_)))))))
     refine aH rfl (bA rfl rfl eJ eG (by first | exact ixm (by omega) | assumption | exact⟨by decide,rfl⟩)) ?_
     refine aE aA 4 rfl (aD (hK22 _ (aO rfl (fun hc19=>?_) (fun hc19=>?_))))
     ·
      simp only[bs] at hc19
      refine aB (aE aA 3 rfl ?_)
      refine aH rfl (bA rfl rfl eJ eG (by first | exact ixm (by omega) | assumption | exact⟨by decide,rfl⟩)) ?_
      refine aE aA 1 rfl (aM hf rfl (bD eO rfl rfl rfl rfl (l2 rfl)) (bZ hf rfl eO rfl rfl rfl (.inl rfl) (by simp only[List.length_append,List.length_map,List.length_cons,List.length_nil]) rfl (by first | rfl | simp [eB,bV]) (by first | (simp only[maxLen,List.length_map,List.length_append,List.length_cons,List.length_nil]; omega) | (simp [maxLen] <;> omega)) (by first | (simp only[List.length_map,List.length_append,List.length_cons,List.length_nil]; omega) | (simp <;> omega)) ?_))
      refine bM (dY [0,1,2,8,9,67] rfl) (aE aA 1 rfl ?_)
      refine bL ?_
      refine hK8 _ (aB (aE aA 1 rfl ?_))
      refine aH rfl (bS rfl rfl (by omega) (by omega)) ?_
      refine aE aA 1 rfl (aD ?_)
      exact⟨(k+1,d,out++[l[k]]),⟨by omega,yS h2 (by assumption) (fun e=>(by assumption:¬ _=_) (by show l[k].1.toList=_; rw[show l[k].1=u from e])) (fun e=>by first | exact absurd (e.symm.trans (by assumption:d=true)) (by decide) | (show ¬ eA u l[k].1<0; omega)),by simp only[List.length_append,List.length_cons,List.length_nil,Bool.toNat_true,Bool.toNat_false]; omega⟩,by simp only; omega,cJ ⟨rfl,rfl,rfl,(by first | rfl | (simp only[List.length_append]; rfl)),rfl,rfl,trivial⟩ (by simp only[List.map_append]; rfl)⟩
     ·
      simp only[bs] at hc19
      refine aP (hK8 _ (aB (aE aA 1 rfl ?_)))
      refine aH rfl (bS rfl rfl (by omega) (by omega)) ?_
      refine aE aA 1 rfl (aD ?_)
      contradiction
  ·
   simp only[bs] at hc1
   refine bF (hK4 _ (aC (fun K23 hK23=>(aC (fun K24 hK24=>(aB (aE aA 2 rfl (aD (hK24 _ (aO rfl (fun hc20=>?_) (fun hc20=>?_)))))))))))
   ·
    simp only[bs] at hc20
    try (have hd:d=false:=by simp_all)
    try subst hd
    simp only[Bool.toNat_false,Nat.add_zero] at h3
    refine aB (aE aA 3 rfl (aH rfl (cK rfl rB sW (l3 rfl) rfl) (aM hf rfl (bD eO rfl rfl rfl rfl (l2 rfl)) (bZ hf rfl eO rfl rfl rfl (.inl rfl) (by simp only[List.length_append,List.length_map,List.length_cons,List.length_nil]) rfl (by first | rfl | simp [eB,bV]) (by first | (simp only[maxLen,List.length_map,List.length_append,List.length_cons,List.length_nil]; omega) | (simp [maxLen] <;> omega)) (by first | (simp only[List.length_map,List.length_append,List.length_cons,List.length_nil]; omega) | (simp <;> omega)) ?_))))
    refine bM (dY [75] rfl) (aE aA 1 rfl (aD (hK23 _ (aC (fun K25 hK25=>(aB (aE aA 2 rfl (aD (hK25 _ (aN ?_))))))))))
    refine⟨_,rfl,?_⟩
    refine(cE (g:=7) rfl (by simp only[List.length_append,List.length_map]; try rfl)).trans ?_
    rw[aCs h2 (by assumption)]
    (rw[if_neg (by decide),List.map_append]; rfl)
   ·
    simp only[bs] at hc20
    refine aP (hK23 _ (aC (fun K26 hK26=>(aB (aE aA 2 rfl (aD (hK26 _ (aN ?_))))))))
    refine⟨_,rfl,?_⟩
    refine(cE (g:=7) rfl (by simp only[List.length_append,List.length_map]; try rfl)).trans ?_
    rw[aCs h2 (by assumption)]
    (rw[if_pos (by assumption),List.append_nil])
theorem aH0 (l:List Tm) (u:ByteArray) (t:Int) (hl:l.length*24+24≤140737488355328) (hu:TS u) (ht:∀ x∈l,TS x.1) :Den Tryz.prog 108 [.sl 2 (l.map tmC),.s (.string u),.s (.int .i64 t)]  (·=.sl 2 ((jR dR u (u,t) false l).map tmC)):=by
 refine aY Tryz.func108 rfl (Nat.le_of_ble_eq_true rfl) (fun w0 A hf=>(aC (fun K1 hK1=>(aB (aH rfl (bR) (aD (hK1 _ (aC (fun K2 hK2=>(aB (jT hf 2 rfl rfl rfl (aD (hK2 _ (aC (fun K3 hK3=>(aB ?_))))))))))))))))
 refine aE aA 1 rfl (aD (hK3 _ (aC (fun K4 hK4=>(aC (fun K5 hK5=>(aB (aE aA 1 rfl (aD (hK5 _ (aR (bY (ι:=Nat×Bool×List Tm) (fun(⟨k,d,out⟩:Nat×Bool×List Tm)=>⟨57,[(0,.sl 2 (l.map tmC)),(1,.s (.string u)),(2,.s (.int .i64 t)),(7,.own 7 2 0 out.length),(8,.s (.bool d)),(9,.s (.int .i64 (k:Nat)))],[(7,.buf 2 (out.map tmC))]⟩) (fun(⟨k,d,out⟩:Nat×Bool×List Tm)=>k≤l.length∧jR dR u (u,t) false l=out++jR dR u (u,t) d (l.drop k)∧out.length≤k+d.toNat) (fun(⟨k,d,out⟩:Nat×Bool×List Tm)=>l.length - k) (0,false,[]) ?_ ?_ ?_))))))))))))
 · exact⟨Nat.zero_le _,rfl,Nat.zero_le _⟩
 · exact cJ ⟨rfl,rfl,rfl,rfl,rfl,rfl,trivial⟩ rfl
 ·
  rintro ⟨k,d,out⟩ hC
  obtain ⟨h1,h2,h3⟩:=hC
  have hdn:d.toNat≤1:=Bool.toNat_le d
  refine aC (fun K6 hK6=>(aC (fun K7 hK7=>(aB (aE aA 4 rfl (aD (hK7 _ (aO rfl (fun hc1=>?_) (fun hc1=>?_)))))))))
  ·
   simp only[bs] at hc1
   refine aP (hK6 _ (aC (fun K8 hK8=>(aR (aC (fun K9 hK9=>(aC (fun K10 hK10=>(aB (aE aA 3 rfl (bC rfl rfl rfl (fun hg2=>?_) (fun hg2=>?_))))))))))))
   ·
    simp only[bs] at hg2
    refine aH rfl (fD rfl) (aE aA 2 rfl (bP rfl rfl rfl ?_))
    refine aH rfl (bA rfl rfl kH gS (by first | exact ixm (by omega) | assumption | exact⟨by decide,rfl⟩)) ?_
    refine aE aA 2 rfl (bP rfl rfl rfl (aM hf rfl (aQ rfl rfl oP rfl (Nm.refCmp_den u _ hu (ht _ (List.getElem_mem (by omega))))) (aE aA 2 rfl (aD (hK10 _ (aO rfl (fun hc3=>?_) (fun hc3=>?_)))))))
    ·
     simp only[bs] at hc3
     try (have hd:d=false:=by simp_all)
     try subst hd
     simp only[Bool.toNat_false,Nat.add_zero] at h3
     refine aC (fun K11 hK11=>(aB (aE aA 3 rfl (aH rfl (cK rfl wC aFe (l3 rfl) rfl) (aM hf rfl (bD iO rfl rfl rfl rfl (l2 rfl)) (bZ hf rfl iO rfl rfl rfl (.inl rfl) (by simp only[List.length_append,List.length_map,List.length_cons,List.length_nil]) rfl (by first | rfl | simp [eB,bV]) (by first | (simp only[maxLen,List.length_map,List.length_append,List.length_cons,List.length_nil]; omega) | (simp [maxLen] <;> omega)) (by first | (simp only[List.length_map,List.length_append,List.length_cons,List.length_nil]; omega) | (simp <;> omega)) ?_))))))
     refine bM (dY [0,1,2,9,33] rfl) (aE aA 1 rfl (aD (hK11 _ (aB (aE aA 1 rfl (aD (hK9 _ (aC (fun K12 hK12=>(aB (aE aA 2 rfl ?_)))))))))))
     refine aH rfl (bA rfl rfl kH gS (by first | exact ixm (by omega) | assumption | exact⟨by decide,rfl⟩)) ?_
     refine aE aA 4 rfl (aD (hK12 _ (aO rfl (fun hc4=>?_) (fun hc4=>?_))))
     ·
      simp only[bs] at hc4
      try (have hd:d=false:=by simp_all)
      try subst hd
      refine aB (aE aA 3 rfl ?_)
      refine aH rfl (bA rfl rfl kH gS (by first | exact ixm (by omega) | assumption | exact⟨by decide,rfl⟩)) ?_
      refine aE aA 1 rfl (aM hf rfl (bD iO rfl rfl rfl rfl (l2 rfl)) (bZ hf rfl iO rfl rfl rfl (.inl rfl) (by simp only[List.length_append,List.length_map,List.length_cons,List.length_nil]) rfl (by first | rfl | simp [eB,bV]) (by first | (simp only[maxLen,List.length_map,List.length_append,List.length_cons,List.length_nil]; omega) | (simp [maxLen] <;> omega)) (by first | (simp only[List.length_map,List.length_append,List.length_cons,List.length_nil]; omega) | (simp <;> omega)) ?_))
      refine bM (dY [0,1,2,8,9,47] rfl) (aE aA 1 rfl ?_)
      refine bL ?_
      refine hK8 _ (aB (aE aA 1 rfl ?_))
      refine aH rfl (bS rfl rfl (by omega) (by omega)) ?_
      refine aE aA 1 rfl (aD ?_)
      exact⟨(k+1,true,out++[(u,t)]++[l[k]]),⟨by omega,aT4 h2 (by assumption) (by first | assumption | (have hne:u≠l[k].1:=fun e=>(by assumption:¬ _=_) (by rw[e]); have hq:eA u l[k].1≠0:=(fun e=>hne ((lY _ _).1 e)); show eA u l[k].1<0; omega)),by simp only[List.length_append,List.length_cons,List.length_nil,Bool.toNat_true,Bool.toNat_false]; omega⟩,by simp only; omega,cJ ⟨rfl,rfl,rfl,(by first | rfl | (simp only[List.length_append]; rfl)),rfl,rfl,trivial⟩ (by simp only[List.map_append]; rfl)⟩
     ·
      simp only[bs] at hc4
      refine aP (hK8 _ (aB (aE aA 1 rfl ?_)))
      refine aH rfl (bS rfl rfl (by omega) (by omega)) ?_
      refine aE aA 1 rfl (aD ?_)
      exact⟨(k+1,true,out++[(u,t)]),⟨by omega,aOi h2 (by assumption) (toList_inj.1 (by assumption)),by simp only[List.length_append,List.length_cons,List.length_nil,Bool.toNat_true,Bool.toNat_false]; omega⟩,by simp only; omega,cJ ⟨rfl,rfl,rfl,(by first | rfl | (simp only[List.length_append]; rfl)),rfl,rfl,trivial⟩ (by simp only[List.map_append]; rfl)⟩
    ·
     simp only[bs] at hc3
     try (have hd:d=false:=by simp_all)
     try subst hd
     simp only[Bool.toNat_false,Nat.add_zero] at h3
     refine aP (hK9 _ (aC (fun K13 hK13=>(aB (aE aA 2 rfl ?_)))))
     refine aH rfl (bA rfl rfl kH gS (by first | exact ixm (by omega) | assumption | exact⟨by decide,rfl⟩)) ?_
     refine aE aA 4 rfl (aD (hK13 _ (aO rfl (fun hc5=>?_) (fun hc5=>?_))))
     ·
      simp only[bs] at hc5
      try (have hd:d=false:=by simp_all)
      try subst hd
      refine aB (aE aA 3 rfl ?_)
      refine aH rfl (bA rfl rfl kH gS (by first | exact ixm (by omega) | assumption | exact⟨by decide,rfl⟩)) ?_
      refine aE aA 1 rfl (aM hf rfl (bD iO rfl rfl rfl rfl (l2 rfl)) (bZ hf rfl iO rfl rfl rfl (.inl rfl) (by simp only[List.length_append,List.length_map,List.length_cons,List.length_nil]) rfl (by first | rfl | simp [eB,bV]) (by first | (simp only[maxLen,List.length_map,List.length_append,List.length_cons,List.length_nil]; omega) | (simp [maxLen] <;> omega)) (by first | (simp only[List.length_map,List.length_append,List.length_cons,List.length_nil]; omega) | (simp <;> omega)) ?_))
      refine bM (dY [0,1,2,8,9,47] rfl) (aE aA 1 rfl ?_)
      refine bL ?_
      refine hK8 _ (aB (aE aA 1 rfl ?_))
      refine aH rfl (bS rfl rfl (by omega) (by omega)) ?_
      refine aE aA 1 rfl (aD ?_)
      exact⟨(k+1,false,out++[l[k]]),⟨by omega,yS h2 (by assumption) (fun e=>(by assumption:¬ _=_) (by show l[k].1.toList=_; rw[show l[k].1=u from e])) (fun e=>by show ¬ eA u l[k].1<0; omega),by simp only[List.length_append,List.length_cons,List.length_nil,Bool.toNat_true,Bool.toNat_false]; omega⟩,by simp only; omega,cJ ⟨rfl,rfl,rfl,(by first | rfl | (simp only[List.length_append]; rfl)),rfl,rfl,trivial⟩ (by simp only[List.map_append]; rfl)⟩
     ·
      simp only[bs] at hc5
      refine aP (hK8 _ (aB (aE aA 1 rfl ?_)))
      refine aH rfl (bS rfl rfl (by omega) (by omega)) ?_
      refine aE aA 1 rfl (aD ?_)
      (exfalso; have e8:eA u l[k].1=0:=(lY _ _).2 (toList_inj.1 (by assumption)).symm; omega)
   ·
    simp only[bs] at hg2
    refine aE aA 8 rfl (aD (hK10 _ (bJ rfl (aP (hK9 _ (aC (fun K14 hK14=>(aB (aE aA 2 rfl ?_)))))))))
    refine aH rfl (bA rfl rfl kH gS (by first | exact ixm (by omega) | assumption | exact⟨by decide,rfl⟩)) ?_
    refine aE aA 4 rfl (aD (hK14 _ (aO rfl (fun hc7=>?_) (fun hc7=>?_))))
    ·
     simp only[bs] at hc7
     try (have hd:d=false:=by simp_all)
     try subst hd
     refine aB (aE aA 3 rfl ?_)
     refine aH rfl (bA rfl rfl kH gS (by first | exact ixm (by omega) | assumption | exact⟨by decide,rfl⟩)) ?_
     refine aE aA 1 rfl (aM hf rfl (bD iO rfl rfl rfl rfl (l2 rfl)) (bZ hf rfl iO rfl rfl rfl (.inl rfl) (by simp only[List.length_append,List.length_map,List.length_cons,List.length_nil]) rfl (by first | rfl | simp [eB,bV]) (by first | (simp only[maxLen,List.length_map,List.length_append,List.length_cons,List.length_nil]; omega) | (simp [maxLen] <;> omega)) (by first | (simp only[List.length_map,List.length_append,List.length_cons,List.length_nil]; omega) | (simp <;> omega)) ?_))
     refine bM (dY [0,1,2,8,9,47] rfl) (aE aA 1 rfl ?_)
     refine bL ?_
     refine hK8 _ (aB (aE aA 1 rfl ?_))
     refine aH rfl (bS rfl rfl (by omega) (by omega)) ?_
     refine aE aA 1 rfl (aD ?_)
     exact⟨(k+1,d,out++[l[k]]),⟨by omega,yS h2 (by assumption) (fun e=>(by assumption:¬ _=_) (by show l[k].1.toList=_; rw[show l[k].1=u from e])) (fun e=>by first | exact absurd (e.symm.trans (by assumption:d=true)) (by decide) | (show ¬ eA u l[k].1<0; omega)),by simp only[List.length_append,List.length_cons,List.length_nil,Bool.toNat_true,Bool.toNat_false]; omega⟩,by simp only; omega,cJ ⟨rfl,rfl,rfl,(by first | rfl | (simp only[List.length_append]; rfl)),rfl,rfl,trivial⟩ (by simp only[List.map_append]; rfl)⟩
    ·
     simp only[bs] at hc7
     refine aP (hK8 _ (aB (aE aA 1 rfl ?_)))
     refine aH rfl (bS rfl rfl (by omega) (by omega)) ?_
     refine aE aA 1 rfl (aD ?_)
     (  have hd:d=true:=by simp_all
        subst hd
        exact⟨(k+1,true,out),⟨by omega,aKr h2 (by assumption) (toList_inj.1 (by assumption)),by omega⟩,by simp only; omega,cJ ⟨rfl,rfl,rfl,(by first | rfl | (simp only[List.length_append]; rfl)),rfl,rfl,trivial⟩ rfl⟩)
  ·
   simp only[bs] at hc1
   refine bF (hK4 _ (aC (fun K15 hK15=>(aC (fun K16 hK16=>(aB (aE aA 2 rfl (aD (hK16 _ (aO rfl (fun hc8=>?_) (fun hc8=>?_)))))))))))
   ·
    simp only[bs] at hc8
    try (have hd:d=false:=by simp_all)
    try subst hd
    simp only[Bool.toNat_false,Nat.add_zero] at h3
    refine aB (aE aA 3 rfl (aH rfl (cK rfl wC aFe (l3 rfl) rfl) (aM hf rfl (bD iO rfl rfl rfl rfl (l2 rfl)) (bZ hf rfl iO rfl rfl rfl (.inl rfl) (by simp only[List.length_append,List.length_map,List.length_cons,List.length_nil]) rfl (by first | rfl | simp [eB,bV]) (by first | (simp only[maxLen,List.length_map,List.length_append,List.length_cons,List.length_nil]; omega) | (simp [maxLen] <;> omega)) (by first | (simp only[List.length_map,List.length_append,List.length_cons,List.length_nil]; omega) | (simp <;> omega)) ?_))))
    refine bM (dY [55] rfl) (aE aA 1 rfl (aD (hK15 _ (aC (fun K17 hK17=>(aB (aE aA 2 rfl (aD (hK17 _ (aN ?_))))))))))
    refine⟨_,rfl,?_⟩
    refine(cE (g:=7) rfl (by simp only[List.length_append,List.length_map]; try rfl)).trans ?_
    rw[aCs h2 (by assumption)]
    (rw[if_neg (by decide),List.map_append]; rfl)
   ·
    simp only[bs] at hc8
    refine aP (hK15 _ (aC (fun K18 hK18=>(aB (aE aA 2 rfl (aD (hK18 _ (aN ?_))))))))
    refine⟨_,rfl,?_⟩
    refine(cE (g:=7) rfl (by simp only[List.length_append,List.length_map]; try rfl)).trans ?_
    rw[aCs h2 (by assumption)]
    (rw[if_pos (by assumption),List.append_nil])
end Go.Proofs.YtijnkglkchhomaaGreat
set_option linter.unusedVariables false
set_option linter.unusedSimpArgs false
namespace Go.Proofs.YtijnkglkchhomaaGreat
open Go Go.Abs
theorem aA1 (l:List Us) (u:ByteArray) (ys:List cB) (hl:l.length*40+40≤140737488355328) (hu:TS u) (ht:∀ x∈l,TS x.1) (hr:cX cZ l):Den Tryz.prog 107 [.sl 2 (l.map usC),.s (.string u),.sl 4 (ys.map stC)] (·=.sl 2 ((kE l u ys).map usC)) :=
  fZ (aOa l u ys hl hu ht) (by rw[put_set hr])
theorem aFx (l:List Tm) (u:ByteArray) (t:Int) (hl:l.length*24+24≤140737488355328) (hu:TS u) (ht:∀ x∈l,TS x.1) (hr:cX dR l):Den Tryz.prog 108 [.sl 2 (l.map tmC),.s (.string u),.s (.int .i64 t)] (·=.sl 2 ((mC l u t).map tmC)) :=
  fZ (aH0 l u t hl hu ht) (by rw[aQ3 hr])
theorem aD0 (s:Sta) (u:ByteArray) (x:cB) (hz:SzS 140737488355200 s) (hr:cX cZ s.usr) (hu:TS u) (ht:∀ x∈s.usr,TS x.1) :Den Tryz.prog 172 [.agg (aL s),.s (.string u),.agg (stC x)]  (·=.agg (aL (eC s u x))):=by
 have z2:=hz.u
 have hou:(ofU s.usr u).length*32≤140737488355200:=aCr (p:=fun x=>x.2.length*32≤140737488355200) hr hz.y (by simp)
 refine aY Tryz.func172 rfl (Nat.le_of_ble_eq_true rfl) (fun w0 A hf=>(aC (fun K1 hK1=>(aB (kD hf rfl rfl rfl rfl (l1 rfl) ?_)))))
 refine aM hf rfl (cT rfl rfl (lf rfl)) (aX hf rfl rfl rfl cG (aD (hK1 _ (aC (fun K2 hK2=>(aC (fun K3 hK3=>(aB (aE aA 5 rfl (aD (hK3 _ (aO rfl (fun hc1=>?_) (fun hc1=>?_)))))))))))))
 ·
  simp only[bs] at hc1
  refine iS hf (L:=#[true,true,true,true,true,true,true,true,true,true,false]) 10 1 bN (by kernel_rfl) rfl (by kernel_rfl) rfl ?_
  refine bG aA 5 rfl (cC [(15,_),(16,_)] rfl rfl ⟨⟨rfl,rfl⟩,⟨rfl,rfl⟩,trivial⟩ rfl (aQ rfl rfl aPj rfl (aRh s u (by omega))) (bG aA 1 rfl (cC [(17,_),(18,_)] rfl rfl ⟨⟨rfl,rfl⟩,⟨rfl,rfl⟩,trivial⟩ rfl (aQ rfl rfl aPk rfl (aJ4 (ofU s.usr u) x (by omega))) (cC [(13,_),(14,_),(19,_)] rfl rfl ⟨⟨rfl,rfl⟩,⟨rfl,rfl⟩,⟨rfl,rfl⟩,trivial⟩ rfl (aQ rfl rfl aB2 rfl (aA1 s.usr u (iU (ofU s.usr u) x) (by omega) hu ht hr)) (bG aA 1 rfl (uR [3,6,20,21] rfl rfl rfl ?_))))))
  refine aG 10 [] (by kernel_rfl) ⟨?_,trivial⟩
  ·
   refine⟨_,rfl,rfl,(ao rfl (aZ hf rfl rfl zK rfl rfl (l1 rfl) (l4 rfl) rfl (aF (dB (by kernel_rfl) ?_))))⟩
   refine hK2 _ (aC (fun K4 hK4=>(aB (aH rfl ((by first | exact cD (cs':=aL s) rfl gA cQ rfl rfl rfl | exact cD (cs':=[.s (.int .i64 s.now),.s (.int .i64 s.hor),.sl 4 (s.opn.map seC),.sl 2 ((kE s.usr u (iU (ofU s.usr u) x)).map usC),.sl 4 (s.sub.map enC),.sl 2 (s.tmb.map tmC)]) rfl gA cQ rfl rfl rfl)) ?_))))
   refine aZ hf rfl rfl cQ rfl rfl (l1 rfl) (l4 rfl) rfl (aD (hK4 _ (aN ?_)))
   refine⟨_,rfl,?_⟩
   (unfold eC mN; rw[if_neg (by omega)]; rfl)
 ·
  simp only[bs] at hc1
  refine aP (hK2 _ (aC (fun K5 hK5=>(aB (aH rfl ((by first | exact cD (cs':=aL s) rfl gA cQ rfl rfl rfl | exact cD (cs':=[.s (.int .i64 s.now),.s (.int .i64 s.hor),.sl 4 (s.opn.map seC),.sl 2 ((kE s.usr u (iU (ofU s.usr u) x)).map usC),.sl 4 (s.sub.map enC),.sl 2 (s.tmb.map tmC)]) rfl gA cQ rfl rfl rfl)) ?_)))))
  refine aZ hf rfl rfl cQ rfl rfl (l1 rfl) (l4 rfl) rfl (aD (hK5 _ (aN ?_)))
  refine⟨_,rfl,?_⟩
  (rw[iT (by omega)]; rfl)
theorem aCb (s:Sta) (e:Ev) (hz:SzS 140737488355100 s) (hr:cX cZ s.usr) (hr2:cX dR s.tmb) (ts:TsS s) (hu:TS e.user) (ho:TS e.other) (hk:e.kind=1) :Den Tryz.prog 102 [.agg (aL s),.agg (evC e)]  (·=.tup [.agg (aL (bO s e).1),.s (.int .i64 (bO s e).2)]):=by
 have z1:=hz.o
 have z2:=hz.u
 have z3:=hz.b
 have z4:=hz.t
 have q:=aEc s.opn ((e.n,e.user),(e.st,e.at'))
 have hd:bO s e=(eC ({ s with opn:=mG s.opn ((e.n,e.user),(e.st,e.at')) }) e.user (st0),nT s.opn ((e.n,e.user),(e.st,e.at'))):=by
  rw[bO,if_pos hk]
  rw[iT (show st0.1.2≤st0.1.1 from Int.le_refl _)]
 have hz2:SzS 140737488355200 ({ s with opn:=mG s.opn ((e.n,e.user),(e.st,e.at')) }):=⟨by show (mG s.opn ((e.n,e.user),(e.st,e.at'))).length*40≤_; omega,by show s.usr.length*40≤_; omega,by show s.sub.length*48≤_; omega,by show s.tmb.length*24≤_; omega,fun x hx=>by have:=hz.y x hx; omega⟩
 rw[hd]
 rw[iT (show st0.1.2≤st0.1.1 from Int.le_refl _)]
 refine aY Tryz.func102 rfl (Nat.le_of_ble_eq_true rfl) (fun w0 A hf=>(aC (fun K1 hK1=>(aB (kD hf rfl rfl rfl rfl (l1 rfl) ?_)))))
 refine aM hf rfl (cT rfl rfl (lf rfl)) (aX hf rfl rfl rfl cG (aE aA 1 rfl (aD (hK1 _ (aC (fun K2 hK2=>(aC (fun K3 hK3=>(aB (aE aA 2 rfl (aH rfl (dD rfl rfl (iE (by omega))) (aD (hK3 _ (bW rfl ?_))))))))))))))
 refine aC (fun K4 hK4=>(aB (aE aA 10 rfl (aH rfl (cK rfl oB wD (l3 rfl) rfl) (aM hf rfl (aQ rfl rfl aM2 rfl (aF2 s.opn ((e.n,e.user),(e.st,e.at')) (by omega))) (aE aA 5 rfl (aD (hK4 _ (aC (fun K5 hK5=>(aB (aE aA 2 rfl (aZ hf rfl rfl tA rfl rfl (l1 rfl) (l4 rfl) rfl (aD ?_))))))))))))))
 refine hK5 _ (aC (fun K6 hK6=>(aB (aH rfl (cD (cs':=[.s (.int .i64 s.now),.s (.int .i64 s.hor),.sl 4 ((mG s.opn ((e.n,e.user),(e.st,e.at'))).map seC),.sl 2 (s.usr.map usC),.sl 4 (s.sub.map enC),.sl 2 (s.tmb.map tmC)]) rfl gA cQ rfl rfl rfl) (aE aA 1 rfl (aZ hf rfl rfl cQ rfl rfl (l1 rfl) (l4 rfl) rfl (aE aA 1 rfl (aD (hK6 _ (aN ?_))))))))))
 refine⟨_,rfl,?_⟩
 rfl
theorem aCa (s:Sta) (e:Ev) (hz:SzS 140737488355100 s) (hr:cX cZ s.usr) (hr2:cX dR s.tmb) (ts:TsS s) (hu:TS e.user) (ho:TS e.other) (hk:e.kind=2) :Den Tryz.prog 102 [.agg (aL s),.agg (evC e)]  (·=.tup [.agg (aL (bO s e).1),.s (.int .i64 (bO s e).2)]):=by
 have z1:=hz.o
 have z2:=hz.u
 have z3:=hz.b
 have z4:=hz.t
 have q:=aE0 s.opn e.n e.user e.st e.at'
 have hd:bO s e=(eC ({ s with opn:=mM s.opn e.n e.user e.st e.at' }) e.user (stR s.opn e.n e.user e.at'),eW s.opn e.n e.user):=by
  rw[bO,if_neg (by omega),if_pos hk]
  rfl
 have hz2:SzS 140737488355200 ({ s with opn:=mM s.opn e.n e.user e.st e.at' }):=⟨by show (mM s.opn e.n e.user e.st e.at').length*40≤_; omega,by show s.usr.length*40≤_; omega,by show s.sub.length*48≤_; omega,by show s.tmb.length*24≤_; omega,fun x hx=>by have:=hz.y x hx; omega⟩
 rw[hd]
 refine aY Tryz.func102 rfl (Nat.le_of_ble_eq_true rfl) (fun w0 A hf=>(aC (fun K1 hK1=>(aB (kD hf rfl rfl rfl rfl (l1 rfl) ?_)))))
 refine aM hf rfl (cT rfl rfl (lf rfl)) (aX hf rfl rfl rfl cG (aE aA 1 rfl (aD (hK1 _ (aC (fun K2 hK2=>(aC (fun K3 hK3=>(aB (aE aA 2 rfl (aH rfl (dD rfl rfl (dF (by omega))) (aD (hK3 _ (bJ rfl ?_))))))))))))))
 refine aP (hK2 _ (aC (fun K4 hK4=>(aB (aE aA 8 rfl (aM hf rfl (aQ rfl rfl aBw rfl (uJ s.opn e.n e.user e.at' (by omega))) (aE aA 4 rfl (aX hf rfl rfl rfl iN (aE aA 1 rfl (aZ hf rfl rfl eL rfl rfl (l1 rfl) (l4 rfl) rfl (aE aA 1 rfl (aD (hK4 _ ?_)))))))))))))
 refine aC (fun K5 hK5=>(aC (fun K6 hK6=>(aB (aE aA 2 rfl (aH rfl (dD rfl rfl (iE (by omega))) (aD (hK6 _ (bW rfl (aB (aE aA 10 rfl (aM hf rfl (aQ rfl rfl aM1 rfl (aCd s.opn e.n e.user e.st e.at' (by omega))) (aE aA 5 rfl (aZ hf rfl rfl eL rfl rfl (l1 rfl) (l4 rfl) rfl ?_))))))))))))))
 refine aE aA 1 rfl (aD (hK5 _ (aC (fun K7 hK7=>(aB (aE aA 2 rfl (aZ hf rfl rfl tA rfl rfl (l1 rfl) (l4 rfl) rfl (aD (hK7 _ (aC (fun K8 hK8=>(aB (aH rfl (cD (cs':=[.s (.int .i64 s.now),.s (.int .i64 s.hor),.sl 4 ((mM s.opn e.n e.user e.st e.at').map seC),.sl 2 (s.usr.map usC),.sl 4 (s.sub.map enC),.sl 2 (s.tmb.map tmC)]) rfl gA cQ rfl rfl rfl) (aE aA 3 rfl ?_))))))))))))))
 refine aM hf rfl (aQ rfl rfl aBv rfl (aD0 ({ s with opn:=mM s.opn e.n e.user e.st e.at' }) e.user (stR s.opn e.n e.user e.at') hz2 hr hu ts.u)) (aE aA 1 rfl (aZ hf rfl rfl cQ rfl rfl (l1 rfl) (l4 rfl) rfl (aE aA 1 rfl (aD (hK8 _ (aN ?_))))))
 refine⟨_,rfl,?_⟩
 rfl
theorem aB9 (s:Sta) (e:Ev) (hz:SzS 140737488355100 s) (hr:cX cZ s.usr) (hr2:cX dR s.tmb) (ts:TsS s) (hu:TS e.user) (ho:TS e.other) (hk:e.kind=3) :Den Tryz.prog 102 [.agg (aL s),.agg (evC e)]  (·=.tup [.agg (aL (bO s e).1),.s (.int .i64 (bO s e).2)]):=by
 have z1:=hz.o
 have z2:=hz.u
 have z3:=hz.b
 have z4:=hz.t
 have q:=aEz s.opn e.n e.user
 have hd:bO s e=(eC ({ s with opn:=mL s.opn e.n e.user }) e.user (stR s.opn e.n e.user e.at'),eW s.opn e.n e.user):=by
  rw[bO,if_neg (by omega),if_neg (by omega),if_pos hk]
  rfl
 have hz2:SzS 140737488355200 ({ s with opn:=mL s.opn e.n e.user }):=⟨by show (mL s.opn e.n e.user).length*40≤_; omega,by show s.usr.length*40≤_; omega,by show s.sub.length*48≤_; omega,by show s.tmb.length*24≤_; omega,fun x hx=>by have:=hz.y x hx; omega⟩
 rw[hd]
 refine aY Tryz.func102 rfl (Nat.le_of_ble_eq_true rfl) (fun w0 A hf=>(aC (fun K1 hK1=>(aB (kD hf rfl rfl rfl rfl (l1 rfl) ?_)))))
 refine aM hf rfl (cT rfl rfl (lf rfl)) (aX hf rfl rfl rfl cG (aE aA 1 rfl (aD (hK1 _ (aC (fun K2 hK2=>(aC (fun K3 hK3=>(aB (aE aA 2 rfl (aH rfl (dD rfl rfl (dF (by omega))) (aD (hK3 _ (bJ rfl ?_))))))))))))))
 refine aP (hK2 _ (aC (fun K4 hK4=>(aB (aE aA 8 rfl (aM hf rfl (aQ rfl rfl aBw rfl (uJ s.opn e.n e.user e.at' (by omega))) (aE aA 4 rfl (aX hf rfl rfl rfl iN (aE aA 1 rfl (aZ hf rfl rfl eL rfl rfl (l1 rfl) (l4 rfl) rfl (aE aA 1 rfl (aD (hK4 _ ?_)))))))))))))
 refine aC (fun K5 hK5=>(aC (fun K6 hK6=>(aB (aE aA 2 rfl (aH rfl (dD rfl rfl (dF (by omega))) (aD (hK6 _ (bJ rfl (aP (hK5 _ (aC (fun K7 hK7=>(aB (aE aA 2 rfl ?_)))))))))))))))
 refine aZ hf rfl rfl tA rfl rfl (l1 rfl) (l4 rfl) rfl (aD (hK7 _ (aC (fun K8 hK8=>(aB (aH rfl (cD (cs':=[.s (.int .i64 s.now),.s (.int .i64 s.hor),.sl 4 ((mL s.opn e.n e.user).map seC),.sl 2 (s.usr.map usC),.sl 4 (s.sub.map enC),.sl 2 (s.tmb.map tmC)]) rfl gA cQ rfl rfl rfl) (aE aA 3 rfl (aM hf rfl (aQ rfl rfl aBv rfl (aD0 ({ s with opn:=mL s.opn e.n e.user }) e.user (stR s.opn e.n e.user e.at') hz2 hr hu ts.u)) (aE aA 1 rfl (aZ hf rfl rfl cQ rfl rfl (l1 rfl) (l4 rfl) rfl (aE aA 1 rfl ?_)))))))))))
 refine aD (hK8 _ (aN ?_))
 refine⟨_,rfl,?_⟩
 rfl
end Go.Proofs.YtijnkglkchhomaaGreat
set_option linter.unusedVariables false
set_option linter.unusedSimpArgs false
namespace Go.Proofs.YtijnkglkchhomaaGreat
open Go Go.Abs
theorem aGb (s:Sta) (e:Ev) (hz:SzS 140737488355100 s) (hr:cX cZ s.usr) (hr2:cX dR s.tmb) (ts:TsS s) (hu:TS e.user) (ho:TS e.other) (hk:e.kind=1) (he:bU e=true) (ht:s.now≤e.at') :Den Tryz.prog 54 [.agg (aL s),.agg (evC e)]  (·=.tup [.agg (aL (bT s e).1),.s (.int .i64 (bT s e).2)]):=by
 have z1:=hz.o
 have z2:=hz.u
 have z3:=hz.b
 have z4:=hz.t
 have hd2:∃ D N,bO s e=(D,N):=⟨_,_,rfl⟩
 obtain ⟨D,N,hd⟩:=hd2
 refine aY Tryz.func54 rfl (Nat.le_of_ble_eq_true rfl) (fun w0 A hf=>(aC (fun K1 hK1=>(aB (kD hf rfl rfl rfl rfl (l1 rfl) ?_)))))
 refine aM hf rfl (cT rfl rfl (lf rfl)) (aX hf rfl rfl rfl cG (aE aA 1 rfl (aD (hK1 _ (aC (fun K2 hK2=>(aC (fun K3 hK3=>(aB (aE aA 1 rfl (aM hf rfl (aQ rfl rfl iY rfl ((show Den Tryz.prog _ _ (·=.s (.bool true)) from fZ (fV e hu ho) (by rw[he])))) ?_)))))))))))
 refine aE aA 1 rfl (aD (hK3 _ (bJ rfl (aP (hK2 _ (aC (fun K4 hK4=>(aC (fun K5 hK5=>(aB (aE aA 5 rfl (aD (hK5 _ (cH rfl rfl (fun hc2=>?_) (fun hc2=>?_)))))))))))))))
 ·
  simp only[bs] at hc2
  omega
 ·
  simp only[bs] at hc2
  refine aP (hK4 _ (aC (fun K6 hK6=>(aB (aE aA 4 rfl (aH rfl (cK rfl gR mW (l3 rfl) rfl) (cF hf rfl gR rfl oR rfl rfl rfl rfl (lf rfl) (aD (hK6 _ (aC (fun K7 hK7=>(aB (aE aA 1 rfl (aD ?_))))))))))))))
  refine hK7 _ (aC (fun K8 hK8=>(aC (fun K9 hK9=>(aB (aE aA 2 rfl (aD (hK9 _ (aR (aC (fun K10 hK10=>(aC (fun K11 hK11=>(aB (aH rfl (dD rfl rfl (iE (by omega))) (aE aA 1 rfl ?_))))))))))))))))
  refine aD (hK11 _ (bW rfl (aP (hK10 _ (bW rfl (aB (aE aA 2 rfl (aM hf rfl (aQ rfl rfl vK rfl (fZ (aCb s e hz hr hr2 ts hu ho hk) (show _=AV.tup [.agg (aL D),.s (.int .i64 N)] from by rw[hd]))) ?_))))))))
  refine aE aA 3 rfl (aZ hf rfl rfl cQ rfl rfl (l1 rfl) (l4 rfl) rfl (aE aA 1 rfl ?_))
  refine bL ?_
  refine hK8 _ (aC (fun K12 hK12=>(aC (fun K13 hK13=>(aB (aE aA 2 rfl (aD (hK13 _ (cH rfl rfl (fun hc5=>?_) (fun hc5=>?_))))))))))
  ·
   simp only[bs] at hc5
   refine aC (fun K14 hK14=>(aB (aH rfl (cK rfl cG jP (l3 rfl) rfl) (bM (jY gW) (aE aA 1 rfl (aZ hf rfl rfl cQ rfl rfl (l1 rfl) (l4 rfl) rfl (aE aA 1 rfl (aD (hK14 _ (aN ?_))))))))))
   refine⟨_,rfl,?_⟩
   rw[bT,if_pos he,if_neg (by omega),hd,if_neg (by first | assumption | omega | (simp_all; done) | (intro hq; simp only at hq; split at hq <;> simp_all))]; rfl
  ·
   simp only[bs] at hc5
   refine aP (hK12 _ (aC (fun K15 hK15=>(aB (aE aA 3 rfl (aZ hf rfl rfl cI rfl rfl (l1 rfl) (l4 rfl) rfl (aD (hK15 _ (aC (fun K16 hK16=>(aB (aH rfl (cD (cs':=[.s (.int .i64 e.at'),.s (.int .i64 D.hor),.sl 4 (D.opn.map seC),.sl 2 (D.usr.map usC),.sl 4 (D.sub.map enC),.sl 2 (D.tmb.map tmC)]) rfl gA cQ rfl rfl rfl) (aZ hf rfl rfl cQ rfl rfl (l1 rfl) (l4 rfl) rfl (aE aA 1 rfl ?_))))))))))))))
   refine aD (hK16 _ (aN ?_))
   refine⟨_,rfl,?_⟩
   rw[bT,if_pos he,if_neg (by omega),hd,if_pos (by first | assumption | omega)]; rfl
theorem aGa (s:Sta) (e:Ev) (hz:SzS 140737488355100 s) (hr:cX cZ s.usr) (hr2:cX dR s.tmb) (ts:TsS s) (hu:TS e.user) (ho:TS e.other) (hk:e.kind=2) (he:bU e=true) (ht:s.now≤e.at') :Den Tryz.prog 54 [.agg (aL s),.agg (evC e)]  (·=.tup [.agg (aL (bT s e).1),.s (.int .i64 (bT s e).2)]):=by
 have z1:=hz.o
 have z2:=hz.u
 have z3:=hz.b
 have z4:=hz.t
 have hd2:∃ D N,bO s e=(D,N):=⟨_,_,rfl⟩
 obtain ⟨D,N,hd⟩:=hd2
 refine aY Tryz.func54 rfl (Nat.le_of_ble_eq_true rfl) (fun w0 A hf=>(aC (fun K1 hK1=>(aB (kD hf rfl rfl rfl rfl (l1 rfl) ?_)))))
 refine aM hf rfl (cT rfl rfl (lf rfl)) (aX hf rfl rfl rfl cG (aE aA 1 rfl (aD (hK1 _ (aC (fun K2 hK2=>(aC (fun K3 hK3=>(aB (aE aA 1 rfl (aM hf rfl (aQ rfl rfl iY rfl ((show Den Tryz.prog _ _ (·=.s (.bool true)) from fZ (fV e hu ho) (by rw[he])))) ?_)))))))))))
 refine aE aA 1 rfl (aD (hK3 _ (bJ rfl (aP (hK2 _ (aC (fun K4 hK4=>(aC (fun K5 hK5=>(aB (aE aA 5 rfl (aD (hK5 _ (cH rfl rfl (fun hc2=>?_) (fun hc2=>?_)))))))))))))))
 ·
  simp only[bs] at hc2
  omega
 ·
  simp only[bs] at hc2
  refine aP (hK4 _ (aC (fun K6 hK6=>(aB (aE aA 4 rfl (aH rfl (cK rfl gR mW (l3 rfl) rfl) (cF hf rfl gR rfl oR rfl rfl rfl rfl (lf rfl) (aD (hK6 _ (aC (fun K7 hK7=>(aB (aE aA 1 rfl (aD ?_))))))))))))))
  refine hK7 _ (aC (fun K8 hK8=>(aC (fun K9 hK9=>(aB (aE aA 2 rfl (aD (hK9 _ (aR (aC (fun K10 hK10=>(aC (fun K11 hK11=>(aB (aH rfl (dD rfl rfl (dF (by omega))) (aE aA 1 rfl ?_))))))))))))))))
  refine aD (hK11 _ (bJ rfl (aC (fun K12 hK12=>(aB (aH rfl (dD rfl rfl (iE (by omega))) (aE aA 1 rfl (aD (hK12 _ (bW rfl (aP (hK10 _ (bW rfl ?_)))))))))))))
  refine aB (aE aA 2 rfl (aM hf rfl (aQ rfl rfl vK rfl (fZ (aCa s e hz hr hr2 ts hu ho hk) (show _=AV.tup [.agg (aL D),.s (.int .i64 N)] from by rw[hd]))) ?_))
  refine aE aA 3 rfl (aZ hf rfl rfl cQ rfl rfl (l1 rfl) (l4 rfl) rfl (aE aA 1 rfl ?_))
  refine bL ?_
  refine hK8 _ (aC (fun K13 hK13=>(aC (fun K14 hK14=>(aB (aE aA 2 rfl (aD (hK14 _ (cH rfl rfl (fun hc6=>?_) (fun hc6=>?_))))))))))
  ·
   simp only[bs] at hc6
   refine aC (fun K15 hK15=>(aB (aH rfl (cK rfl cG jP (l3 rfl) rfl) (bM (jY gW) (aE aA 1 rfl (aZ hf rfl rfl cQ rfl rfl (l1 rfl) (l4 rfl) rfl (aE aA 1 rfl (aD (hK15 _ (aN ?_))))))))))
   refine⟨_,rfl,?_⟩
   rw[bT,if_pos he,if_neg (by omega),hd,if_neg (by first | assumption | omega | (simp_all; done) | (intro hq; simp only at hq; split at hq <;> simp_all))]; rfl
  ·
   simp only[bs] at hc6
   refine aP (hK13 _ (aC (fun K16 hK16=>(aB (aE aA 3 rfl (aZ hf rfl rfl cI rfl rfl (l1 rfl) (l4 rfl) rfl (aD (hK16 _ (aC (fun K17 hK17=>(aB (aH rfl (cD (cs':=[.s (.int .i64 e.at'),.s (.int .i64 D.hor),.sl 4 (D.opn.map seC),.sl 2 (D.usr.map usC),.sl 4 (D.sub.map enC),.sl 2 (D.tmb.map tmC)]) rfl gA cQ rfl rfl rfl) (aZ hf rfl rfl cQ rfl rfl (l1 rfl) (l4 rfl) rfl (aE aA 1 rfl ?_))))))))))))))
   refine aD (hK17 _ (aN ?_))
   refine⟨_,rfl,?_⟩
   rw[bT,if_pos he,if_neg (by omega),hd,if_pos (by first | assumption | omega)]; rfl
theorem aF9 (s:Sta) (e:Ev) (hz:SzS 140737488355100 s) (hr:cX cZ s.usr) (hr2:cX dR s.tmb) (ts:TsS s) (hu:TS e.user) (ho:TS e.other) (hk:e.kind=3) (he:bU e=true) (ht:s.now≤e.at') :Den Tryz.prog 54 [.agg (aL s),.agg (evC e)]  (·=.tup [.agg (aL (bT s e).1),.s (.int .i64 (bT s e).2)]):=by
 have z1:=hz.o
 have z2:=hz.u
 have z3:=hz.b
 have z4:=hz.t
 have hd2:∃ D N,bO s e=(D,N):=⟨_,_,rfl⟩
 obtain ⟨D,N,hd⟩:=hd2
 refine aY Tryz.func54 rfl (Nat.le_of_ble_eq_true rfl) (fun w0 A hf=>(aC (fun K1 hK1=>(aB (kD hf rfl rfl rfl rfl (l1 rfl) ?_)))))
 refine aM hf rfl (cT rfl rfl (lf rfl)) (aX hf rfl rfl rfl cG (aE aA 1 rfl (aD (hK1 _ (aC (fun K2 hK2=>(aC (fun K3 hK3=>(aB (aE aA 1 rfl (aM hf rfl (aQ rfl rfl iY rfl ((show Den Tryz.prog _ _ (·=.s (.bool true)) from fZ (fV e hu ho) (by rw[he])))) ?_)))))))))))
 refine aE aA 1 rfl (aD (hK3 _ (bJ rfl (aP (hK2 _ (aC (fun K4 hK4=>(aC (fun K5 hK5=>(aB (aE aA 5 rfl (aD (hK5 _ (cH rfl rfl (fun hc2=>?_) (fun hc2=>?_)))))))))))))))
 ·
  simp only[bs] at hc2
  omega
 ·
  simp only[bs] at hc2
  refine aP (hK4 _ (aC (fun K6 hK6=>(aB (aE aA 4 rfl (aH rfl (cK rfl gR mW (l3 rfl) rfl) (cF hf rfl gR rfl oR rfl rfl rfl rfl (lf rfl) (aD (hK6 _ (aC (fun K7 hK7=>(aB (aE aA 1 rfl (aD ?_))))))))))))))
  refine hK7 _ (aC (fun K8 hK8=>(aC (fun K9 hK9=>(aB (aE aA 2 rfl (aD (hK9 _ (aR (aC (fun K10 hK10=>(aC (fun K11 hK11=>(aB (aH rfl (dD rfl rfl (dF (by omega))) (aE aA 1 rfl ?_))))))))))))))))
  refine aD (hK11 _ (bJ rfl (aC (fun K12 hK12=>(aB (aH rfl (dD rfl rfl (dF (by omega))) (aE aA 1 rfl (aD (hK12 _ (bJ rfl (aB (aH rfl (dD rfl rfl (iE (by omega))) (aE aA 1 rfl ?_)))))))))))))
  refine aD (hK10 _ (bW rfl (aB (aE aA 2 rfl (aM hf rfl (aQ rfl rfl vK rfl (fZ (aB9 s e hz hr hr2 ts hu ho hk) (show _=AV.tup [.agg (aL D),.s (.int .i64 N)] from by rw[hd]))) ?_)))))
  refine aE aA 3 rfl (aZ hf rfl rfl cQ rfl rfl (l1 rfl) (l4 rfl) rfl (aE aA 1 rfl ?_))
  refine bL ?_
  refine hK8 _ (aC (fun K13 hK13=>(aC (fun K14 hK14=>(aB (aE aA 2 rfl (aD (hK14 _ (cH rfl rfl (fun hc6=>?_) (fun hc6=>?_))))))))))
  ·
   simp only[bs] at hc6
   refine aC (fun K15 hK15=>(aB (aH rfl (cK rfl cG jP (l3 rfl) rfl) (bM (jY gW) (aE aA 1 rfl (aZ hf rfl rfl cQ rfl rfl (l1 rfl) (l4 rfl) rfl (aE aA 1 rfl (aD (hK15 _ (aN ?_))))))))))
   refine⟨_,rfl,?_⟩
   rw[bT,if_pos he,if_neg (by omega),hd,if_neg (by first | assumption | omega | (simp_all; done) | (intro hq; simp only at hq; split at hq <;> simp_all))]; rfl
  ·
   simp only[bs] at hc6
   refine aP (hK13 _ (aC (fun K16 hK16=>(aB (aE aA 3 rfl (aZ hf rfl rfl cI rfl rfl (l1 rfl) (l4 rfl) rfl (aD (hK16 _ (aC (fun K17 hK17=>(aB (aH rfl (cD (cs':=[.s (.int .i64 e.at'),.s (.int .i64 D.hor),.sl 4 (D.opn.map seC),.sl 2 (D.usr.map usC),.sl 4 (D.sub.map enC),.sl 2 (D.tmb.map tmC)]) rfl gA cQ rfl rfl rfl) (aZ hf rfl rfl cQ rfl rfl (l1 rfl) (l4 rfl) rfl (aE aA 1 rfl ?_))))))))))))))
   refine aD (hK17 _ (aN ?_))
   refine⟨_,rfl,?_⟩
   rw[bT,if_pos he,if_neg (by omega),hd,if_pos (by first | assumption | omega)]; rfl
theorem aF8 (s:Sta) (e:Ev) (hz:SzS 140737488355100 s) (hr:cX cZ s.usr) (hr2:cX dR s.tmb) (ts:TsS s) (hu:TS e.user) (ho:TS e.other) (hk:e.kind=4) (he:bU e=true) (ht:s.now≤e.at') :Den Tryz.prog 54 [.agg (aL s),.agg (evC e)]  (·=.tup [.agg (aL (bT s e).1),.s (.int .i64 (bT s e).2)]):=by
 have z1:=hz.o
 have z2:=hz.u
 have z3:=hz.b
 have z4:=hz.t
 have hd:bO s e=(({ s with sub:=if onB s.sub (e.user,e.other)=true then [] else gT s.sub (e.user,e.other) e.at' }),if onB s.sub (e.user,e.other)=true then 90 else 0):=by
  rw[bO,if_neg (by omega),if_neg (by omega),if_neg (by omega),if_pos hk]
 refine aY Tryz.func54 rfl (Nat.le_of_ble_eq_true rfl) (fun w0 A hf=>(aC (fun K1 hK1=>(aB (kD hf rfl rfl rfl rfl (l1 rfl) ?_)))))
 refine aM hf rfl (cT rfl rfl (lf rfl)) (aX hf rfl rfl rfl cG (aE aA 1 rfl (aD (hK1 _ (aC (fun K2 hK2=>(aC (fun K3 hK3=>(aB (aE aA 1 rfl (aM hf rfl (aQ rfl rfl iY rfl ((show Den Tryz.prog _ _ (·=.s (.bool true)) from fZ (fV e hu ho) (by rw[he])))) ?_)))))))))))
 refine aE aA 1 rfl (aD (hK3 _ (bJ rfl (aP (hK2 _ (aC (fun K4 hK4=>(aC (fun K5 hK5=>(aB (aE aA 5 rfl (aD (hK5 _ (cH rfl rfl (fun hc2=>?_) (fun hc2=>?_)))))))))))))))
 ·
  simp only[bs] at hc2
  omega
 ·
  simp only[bs] at hc2
  refine aP (hK4 _ (aC (fun K6 hK6=>(aB (aE aA 4 rfl (aH rfl (cK rfl gR mW (l3 rfl) rfl) (cF hf rfl gR rfl oR rfl rfl rfl rfl (lf rfl) (aD (hK6 _ (aC (fun K7 hK7=>(aB (aE aA 1 rfl (aD ?_))))))))))))))
  refine hK7 _ (aC (fun K8 hK8=>(aC (fun K9 hK9=>(aB (aE aA 2 rfl (aD (hK9 _ (aR (aC (fun K10 hK10=>(aC (fun K11 hK11=>(aB (aH rfl (dD rfl rfl (dF (by omega))) (aE aA 1 rfl ?_))))))))))))))))
  refine aD (hK11 _ (bJ rfl (aC (fun K12 hK12=>(aB (aH rfl (dD rfl rfl (dF (by omega))) (aE aA 1 rfl (aD (hK12 _ (bJ rfl (aB (aH rfl (dD rfl rfl (dF (by omega))) (aE aA 1 rfl ?_)))))))))))))
  refine aD (hK10 _ (bJ rfl (aC (fun K13 hK13=>(aB (aH rfl (dD rfl rfl (iE (by omega))) (aE aA 1 rfl (aD (hK13 _ (bW rfl (aB (aE aA 5 rfl (aM hf rfl (aQ rfl rfl aNq rfl (aH4 s.sub (e.user,e.other) e.at' (by omega) ts.b hu ho)) ?_)))))))))))))
  refine aE aA 4 rfl (aZ hf rfl rfl sZ rfl rfl (l1 rfl) (l4 rfl) rfl (aE aA 1 rfl ?_))
  refine bL ?_
  refine hK8 _ (aC (fun K14 hK14=>(aC (fun K15 hK15=>(aB (aE aA 2 rfl (aD (hK15 _ (cH rfl rfl (fun hc7=>?_) (fun hc7=>?_))))))))))
  ·
   simp only[bs] at hc7
   refine aC (fun K16 hK16=>(aB (aH rfl (cK rfl cG jP (l3 rfl) rfl) (bM (jY gW) (aE aA 1 rfl (aZ hf rfl rfl cQ rfl rfl (l1 rfl) (l4 rfl) rfl (aE aA 1 rfl (aD (hK16 _ (aN ?_))))))))))
   refine⟨_,rfl,?_⟩
   rw[bT,if_pos he,if_neg (by omega),hd,if_neg (by first | assumption | omega | (simp_all; done) | (intro hq; simp only at hq; split at hq <;> simp_all))]; rfl
  ·
   simp only[bs] at hc7
   refine aP (hK14 _ (aC (fun K17 hK17=>(aB (aE aA 3 rfl (aZ hf rfl rfl cI rfl rfl (l1 rfl) (l4 rfl) rfl (aD (hK17 _ (aC (fun K18 hK18=>(aB (aH rfl (cD (cs':=[.s (.int .i64 e.at'),.s (.int .i64 s.hor),.sl 4 (s.opn.map seC),.sl 2 (s.usr.map usC),.sl 4 ((if onB s.sub (e.user,e.other)=true then [] else gT s.sub (e.user,e.other) e.at').map enC),.sl 2 (s.tmb.map tmC)]) rfl gA cQ rfl rfl rfl) (aZ hf rfl rfl cQ rfl rfl (l1 rfl) (l4 rfl) rfl (aE aA 1 rfl ?_))))))))))))))
   refine aD (hK18 _ (aN ?_))
   refine⟨_,rfl,?_⟩
   rw[bT,if_pos he,if_neg (by omega),hd,if_pos (by first | assumption | omega)]; rfl
theorem aF7 (s:Sta) (e:Ev) (hz:SzS 140737488355100 s) (hr:cX cZ s.usr) (hr2:cX dR s.tmb) (ts:TsS s) (hu:TS e.user) (ho:TS e.other) (hk:e.kind=5) (he:bU e=true) (ht:s.now≤e.at') :Den Tryz.prog 54 [.agg (aL s),.agg (evC e)]  (·=.tup [.agg (aL (bT s e).1),.s (.int .i64 (bT s e).2)]):=by
 have z1:=hz.o
 have z2:=hz.u
 have z3:=hz.b
 have z4:=hz.t
 have hd:bO s e=(({ s with sub:=if onB s.sub (e.user,e.other)=true then jG s.sub (e.user,e.other) e.at' else [] }),if onB s.sub (e.user,e.other)=true then 0 else 91):=by
  rw[bO,if_neg (by omega),if_neg (by omega),if_neg (by omega),if_neg (by omega),if_pos hk]
 refine aY Tryz.func54 rfl (Nat.le_of_ble_eq_true rfl) (fun w0 A hf=>(aC (fun K1 hK1=>(aB (kD hf rfl rfl rfl rfl (l1 rfl) ?_)))))
 refine aM hf rfl (cT rfl rfl (lf rfl)) (aX hf rfl rfl rfl cG (aE aA 1 rfl (aD (hK1 _ (aC (fun K2 hK2=>(aC (fun K3 hK3=>(aB (aE aA 1 rfl (aM hf rfl (aQ rfl rfl iY rfl ((show Den Tryz.prog _ _ (·=.s (.bool true)) from fZ (fV e hu ho) (by rw[he])))) ?_)))))))))))
 refine aE aA 1 rfl (aD (hK3 _ (bJ rfl (aP (hK2 _ (aC (fun K4 hK4=>(aC (fun K5 hK5=>(aB (aE aA 5 rfl (aD (hK5 _ (cH rfl rfl (fun hc2=>?_) (fun hc2=>?_)))))))))))))))
 ·
  simp only[bs] at hc2
  omega
 ·
  simp only[bs] at hc2
  refine aP (hK4 _ (aC (fun K6 hK6=>(aB (aE aA 4 rfl (aH rfl (cK rfl gR mW (l3 rfl) rfl) (cF hf rfl gR rfl oR rfl rfl rfl rfl (lf rfl) (aD (hK6 _ (aC (fun K7 hK7=>(aB (aE aA 1 rfl (aD ?_))))))))))))))
  refine hK7 _ (aC (fun K8 hK8=>(aC (fun K9 hK9=>(aB (aE aA 2 rfl (aD (hK9 _ (aR (aC (fun K10 hK10=>(aC (fun K11 hK11=>(aB (aH rfl (dD rfl rfl (dF (by omega))) (aE aA 1 rfl ?_))))))))))))))))
  refine aD (hK11 _ (bJ rfl (aC (fun K12 hK12=>(aB (aH rfl (dD rfl rfl (dF (by omega))) (aE aA 1 rfl (aD (hK12 _ (bJ rfl (aB (aH rfl (dD rfl rfl (dF (by omega))) (aE aA 1 rfl ?_)))))))))))))
  refine aD (hK10 _ (bJ rfl (aC (fun K13 hK13=>(aB (aH rfl (dD rfl rfl (dF (by omega))) (aE aA 1 rfl (aD (hK13 _ (bJ rfl (aC (fun K14 hK14=>(aB (aH rfl (dD rfl rfl (iE (by omega))) ?_))))))))))))))
  refine aE aA 1 rfl (aD (hK14 _ (bW rfl (aB (aE aA 5 rfl (aM hf rfl (aQ rfl rfl aNp rfl (aF1 s.sub (e.user,e.other) e.at' (by omega))) (aE aA 4 rfl (aZ hf rfl rfl sZ rfl rfl (l1 rfl) (l4 rfl) rfl (aE aA 1 rfl ?_)))))))))
  refine bL ?_
  refine hK8 _ (aC (fun K15 hK15=>(aC (fun K16 hK16=>(aB (aE aA 2 rfl (aD (hK16 _ (cH rfl rfl (fun hc8=>?_) (fun hc8=>?_))))))))))
  ·
   simp only[bs] at hc8
   refine aC (fun K17 hK17=>(aB (aH rfl (cK rfl cG jP (l3 rfl) rfl) (bM (jY gW) (aE aA 1 rfl (aZ hf rfl rfl cQ rfl rfl (l1 rfl) (l4 rfl) rfl (aE aA 1 rfl (aD (hK17 _ (aN ?_))))))))))
   refine⟨_,rfl,?_⟩
   rw[bT,if_pos he,if_neg (by omega),hd,if_neg (by first | assumption | omega | (simp_all; done) | (intro hq; simp only at hq; split at hq <;> simp_all))]; rfl
  ·
   simp only[bs] at hc8
   refine aP (hK15 _ (aC (fun K18 hK18=>(aB (aE aA 3 rfl (aZ hf rfl rfl cI rfl rfl (l1 rfl) (l4 rfl) rfl (aD (hK18 _ (aC (fun K19 hK19=>(aB (aH rfl (cD (cs':=[.s (.int .i64 e.at'),.s (.int .i64 s.hor),.sl 4 (s.opn.map seC),.sl 2 (s.usr.map usC),.sl 4 ((if onB s.sub (e.user,e.other)=true then jG s.sub (e.user,e.other) e.at' else []).map enC),.sl 2 (s.tmb.map tmC)]) rfl gA cQ rfl rfl rfl) (aZ hf rfl rfl cQ rfl rfl (l1 rfl) (l4 rfl) rfl (aE aA 1 rfl ?_))))))))))))))
   refine aD (hK19 _ (aN ?_))
   refine⟨_,rfl,?_⟩
   rw[bT,if_pos he,if_neg (by omega),hd,if_pos (by first | assumption | omega)]; rfl
theorem aF6 (s:Sta) (e:Ev) (hz:SzS 140737488355100 s) (hr:cX cZ s.usr) (hr2:cX dR s.tmb) (ts:TsS s) (hu:TS e.user) (ho:TS e.other) (hk:e.kind=6) (he:bU e=true) (ht:s.now≤e.at') :Den Tryz.prog 54 [.agg (aL s),.agg (evC e)]  (·=.tup [.agg (aL (bT s e).1),.s (.int .i64 (bT s e).2)]):=by
 have z1:=hz.o
 have z2:=hz.u
 have z3:=hz.b
 have z4:=hz.t
 have hd:bO s e=(({ s with hor:=max s.hor e.n }),0):=by
  rw[bO,if_neg (by omega),if_neg (by omega),if_neg (by omega),if_neg (by omega),if_neg (by omega),if_pos hk]
 refine aY Tryz.func54 rfl (Nat.le_of_ble_eq_true rfl) (fun w0 A hf=>(aC (fun K1 hK1=>(aB (kD hf rfl rfl rfl rfl (l1 rfl) ?_)))))
 refine aM hf rfl (cT rfl rfl (lf rfl)) (aX hf rfl rfl rfl cG (aE aA 1 rfl (aD (hK1 _ (aC (fun K2 hK2=>(aC (fun K3 hK3=>(aB (aE aA 1 rfl (aM hf rfl (aQ rfl rfl iY rfl ((show Den Tryz.prog _ _ (·=.s (.bool true)) from fZ (fV e hu ho) (by rw[he])))) ?_)))))))))))
 refine aE aA 1 rfl (aD (hK3 _ (bJ rfl (aP (hK2 _ (aC (fun K4 hK4=>(aC (fun K5 hK5=>(aB (aE aA 5 rfl (aD (hK5 _ (cH rfl rfl (fun hc2=>?_) (fun hc2=>?_)))))))))))))))
 ·
  simp only[bs] at hc2
  omega
 ·
  simp only[bs] at hc2
  refine aP (hK4 _ (aC (fun K6 hK6=>(aB (aE aA 4 rfl (aH rfl (cK rfl gR mW (l3 rfl) rfl) (cF hf rfl gR rfl oR rfl rfl rfl rfl (lf rfl) (aD (hK6 _ (aC (fun K7 hK7=>(aB (aE aA 1 rfl (aD ?_))))))))))))))
  refine hK7 _ (aC (fun K8 hK8=>(aC (fun K9 hK9=>(aB (aE aA 2 rfl (aD (hK9 _ (aR (aC (fun K10 hK10=>(aC (fun K11 hK11=>(aB (aH rfl (dD rfl rfl (dF (by omega))) (aE aA 1 rfl ?_))))))))))))))))
  refine aD (hK11 _ (bJ rfl (aC (fun K12 hK12=>(aB (aH rfl (dD rfl rfl (dF (by omega))) (aE aA 1 rfl (aD (hK12 _ (bJ rfl (aB (aH rfl (dD rfl rfl (dF (by omega))) (aE aA 1 rfl ?_)))))))))))))
  refine aD (hK10 _ (bJ rfl (aC (fun K13 hK13=>(aB (aH rfl (dD rfl rfl (dF (by omega))) (aE aA 1 rfl (aD (hK13 _ (bJ rfl (aC (fun K14 hK14=>(aB (aH rfl (dD rfl rfl (dF (by omega))) ?_))))))))))))))
  refine aE aA 1 rfl (aD (hK14 _ (bJ rfl (aC (fun K15 hK15=>(aB (aH rfl (dD rfl rfl (iE (by omega))) (aE aA 1 rfl (aD (hK15 _ (bW rfl (aB (aE aA 4 rfl ?_)))))))))))))
  refine aH rfl (p_max rfl rfl) (aE aA 1 rfl (aZ hf rfl rfl cI rfl rfl (l1 rfl) (l4 rfl) rfl ?_))
  refine bL ?_
  refine hK8 _ (aC (fun K16 hK16=>(aC (fun K17 hK17=>(aB (aE aA 2 rfl (aD (hK17 _ (cH rfl rfl (fun hc9=>?_) (fun hc9=>?_))))))))))
  ·
   simp only[bs] at hc9
   refine aC (fun K18 hK18=>(aB (aH rfl (cK rfl cG jP (l3 rfl) rfl) (bM (jY gW) (aE aA 1 rfl (aZ hf rfl rfl cQ rfl rfl (l1 rfl) (l4 rfl) rfl (aE aA 1 rfl (aD (hK18 _ (aN ?_))))))))))
   refine⟨_,rfl,?_⟩
   rw[bT,if_pos he,if_neg (by omega),hd,if_neg (by first | assumption | omega | (simp_all; done) | (intro hq; simp only at hq; split at hq <;> simp_all))]; rfl
  ·
   simp only[bs] at hc9
   refine aP (hK16 _ (aC (fun K19 hK19=>(aB (aE aA 3 rfl (aZ hf rfl rfl cI rfl rfl (l1 rfl) (l4 rfl) rfl (aD (hK19 _ (aC (fun K20 hK20=>(aB (aH rfl (cD (cs':=[.s (.int .i64 e.at'),.s (.int .i64 (max s.hor e.n)),.sl 4 (s.opn.map seC),.sl 2 (s.usr.map usC),.sl 4 (s.sub.map enC),.sl 2 (s.tmb.map tmC)]) rfl gA cQ rfl rfl rfl) (aZ hf rfl rfl cQ rfl rfl (l1 rfl) (l4 rfl) rfl (aE aA 1 rfl ?_))))))))))))))
   refine aD (hK20 _ (aN ?_))
   refine⟨_,rfl,?_⟩
   rw[bT,if_pos he,if_neg (by omega),hd,if_pos (by first | assumption | omega)]; rfl
theorem aF5 (s:Sta) (e:Ev) (hz:SzS 140737488355100 s) (hr:cX cZ s.usr) (hr2:cX dR s.tmb) (ts:TsS s) (hu:TS e.user) (ho:TS e.other) (hk:e.kind=7) (he:bU e=true) (ht:s.now≤e.at') :Den Tryz.prog 54 [.agg (aL s),.agg (evC e)]  (·=.tup [.agg (aL (bT s e).1),.s (.int .i64 (bT s e).2)]):=by
 have z1:=hz.o
 have z2:=hz.u
 have z3:=hz.b
 have z4:=hz.t
 have hd:bO s e=((fX s e.user e.at'),0):=by
  rw[bO,if_neg (by omega),if_neg (by omega),if_neg (by omega),if_neg (by omega),if_neg (by omega),if_neg (by omega)]
 refine aY Tryz.func54 rfl (Nat.le_of_ble_eq_true rfl) (fun w0 A hf=>(aC (fun K1 hK1=>(aB (kD hf rfl rfl rfl rfl (l1 rfl) ?_)))))
 refine aM hf rfl (cT rfl rfl (lf rfl)) (aX hf rfl rfl rfl cG (aE aA 1 rfl (aD (hK1 _ (aC (fun K2 hK2=>(aC (fun K3 hK3=>(aB (aE aA 1 rfl (aM hf rfl (aQ rfl rfl iY rfl ((show Den Tryz.prog _ _ (·=.s (.bool true)) from fZ (fV e hu ho) (by rw[he])))) ?_)))))))))))
 refine aE aA 1 rfl (aD (hK3 _ (bJ rfl (aP (hK2 _ (aC (fun K4 hK4=>(aC (fun K5 hK5=>(aB (aE aA 5 rfl (aD (hK5 _ (cH rfl rfl (fun hc2=>?_) (fun hc2=>?_)))))))))))))))
 ·
  simp only[bs] at hc2
  omega
 ·
  simp only[bs] at hc2
  refine aP (hK4 _ (aC (fun K6 hK6=>(aB (aE aA 4 rfl (aH rfl (cK rfl gR mW (l3 rfl) rfl) (cF hf rfl gR rfl oR rfl rfl rfl rfl (lf rfl) (aD (hK6 _ (aC (fun K7 hK7=>(aB (aE aA 1 rfl (aD ?_))))))))))))))
  refine hK7 _ (aC (fun K8 hK8=>(aC (fun K9 hK9=>(aB (aE aA 2 rfl (aD (hK9 _ (aR (aC (fun K10 hK10=>(aC (fun K11 hK11=>(aB (aH rfl (dD rfl rfl (dF (by omega))) (aE aA 1 rfl ?_))))))))))))))))
  refine aD (hK11 _ (bJ rfl (aC (fun K12 hK12=>(aB (aH rfl (dD rfl rfl (dF (by omega))) (aE aA 1 rfl (aD (hK12 _ (bJ rfl (aB (aH rfl (dD rfl rfl (dF (by omega))) (aE aA 1 rfl ?_)))))))))))))
  refine aD (hK10 _ (bJ rfl (aC (fun K13 hK13=>(aB (aH rfl (dD rfl rfl (dF (by omega))) (aE aA 1 rfl (aD (hK13 _ (bJ rfl (aC (fun K14 hK14=>(aB (aH rfl (dD rfl rfl (dF (by omega))) ?_))))))))))))))
  refine aE aA 1 rfl (aD (hK14 _ (bJ rfl (aC (fun K15 hK15=>(aB (aH rfl (dD rfl rfl (dF (by omega))) (aE aA 1 rfl (aD (hK15 _ (bJ rfl (aC (fun K16 hK16=>(aB ?_))))))))))))))
  refine aH rfl (dD rfl rfl (iE (by omega))) (aE aA 1 rfl (aD (hK16 _ (bW rfl (aC (fun K17 hK17=>(aB (aE aA 4 rfl (aM hf rfl (aQ rfl rfl aNo rfl (zZ s.opn e.user (by omega))) (aE aA 1 rfl (aZ hf rfl rfl tA rfl rfl (l1 rfl) (l4 rfl) rfl (aD (hK17 _ ?_)))))))))))))
  refine aC (fun K18 hK18=>(aB (aE aA 4 rfl (aM hf rfl (aQ rfl rfl aNn rfl (aDu s.sub e.user (by omega))) (aE aA 1 rfl (aZ hf rfl rfl sZ rfl rfl (l1 rfl) (l4 rfl) rfl (aD (hK18 _ (aC (fun K19 hK19=>(aB (aE aA 4 rfl (aM hf rfl (aQ rfl rfl aB2 rfl (aOz (a:=[_,_]) (k:=4) (aA1 s.usr e.user [] (by omega) hu ts.u hr))) (aE aA 1 rfl ?_))))))))))))))
  refine aZ hf rfl rfl zK rfl rfl (l1 rfl) (l4 rfl) rfl (aD (hK19 _ (aB (aE aA 6 rfl (aM hf rfl (aQ rfl rfl aNm rfl (aFx s.tmb e.user e.at' (by omega) hu ts.t hr2)) (aE aA 1 rfl (aZ hf rfl rfl aFo rfl rfl (l1 rfl) (l4 rfl) rfl ?_)))))))
  refine bL ?_
  refine hK8 _ (aC (fun K20 hK20=>(aC (fun K21 hK21=>(aB (aE aA 2 rfl (aD (hK21 _ (cH rfl rfl (fun hc10=>?_) (fun hc10=>?_))))))))))
  ·
   simp only[bs] at hc10
   refine aC (fun K22 hK22=>(aB (aH rfl (cK rfl cG jP (l3 rfl) rfl) (bM (jY gW) (aE aA 1 rfl (aZ hf rfl rfl cQ rfl rfl (l1 rfl) (l4 rfl) rfl (aE aA 1 rfl (aD (hK22 _ (aN ?_))))))))))
   refine⟨_,rfl,?_⟩
   rw[bT,if_pos he,if_neg (by omega),hd,if_neg (by first | assumption | omega | (simp_all; done) | (intro hq; simp only at hq; split at hq <;> simp_all))]; rfl
  ·
   simp only[bs] at hc10
   refine aP (hK20 _ (aC (fun K23 hK23=>(aB (aE aA 3 rfl (aZ hf rfl rfl cI rfl rfl (l1 rfl) (l4 rfl) rfl (aD (hK23 _ (aC (fun K24 hK24=>(aB (aH rfl (cD (cs':=[.s (.int .i64 e.at'),.s (.int .i64 s.hor),.sl 4 ((s.opn.filter fun e_1=>!pS e.user e_1).map seC),.sl 2 ((kE s.usr e.user []).map usC),.sl 4 ((s.sub.filter fun e_1=>!nG e.user e_1).map enC),.sl 2 ((mC s.tmb e.user e.at').map tmC)]) rfl gA cQ rfl rfl rfl) (aZ hf rfl rfl cQ rfl rfl (l1 rfl) (l4 rfl) rfl (aE aA 1 rfl ?_))))))))))))))
   refine aD (hK24 _ (aN ?_))
   refine⟨_,rfl,?_⟩
   rw[bT,if_pos he,if_neg (by omega),hd,if_pos (by first | assumption | omega)]; rfl
end Go.Proofs.YtijnkglkchhomaaGreat
set_option linter.unusedVariables false
set_option linter.unusedSimpArgs false
namespace Go.Proofs.YtijnkglkchhomaaGreat
open Go Go.Abs
theorem aF4 (s:Sta) (e:Ev) (hu:TS e.user) (ho:TS e.other) (he:bU e=false) :Den Tryz.prog 54 [.agg (aL s),.agg (evC e)]  (·=.tup [.agg (aL aJ),.s (.int .i64 110)]):=by
 refine aY Tryz.func54 rfl (Nat.le_of_ble_eq_true rfl) (fun w0 A hf=>(aC (fun K1 hK1=>(aB (kD hf rfl rfl rfl rfl (l1 rfl) ?_)))))
 refine aM hf rfl (cT rfl rfl (lf rfl)) (aX hf rfl rfl rfl cG (aE aA 1 rfl (aD (hK1 _ (aC (fun K2 hK2=>(aC (fun K3 hK3=>(aB (aE aA 1 rfl (aM hf rfl (aQ rfl rfl iY rfl ((show Den Tryz.prog _ _ (·=.s (.bool false)) from fZ (fV e hu ho) (by rw[he])))) ?_)))))))))))
 refine aE aA 1 rfl (aD (hK3 _ (bW rfl (aC (fun K4 hK4=>(aB (aH rfl (cK rfl cG jP (l3 rfl) rfl) (bM (jY gW) (aZ hf rfl rfl cQ rfl rfl (l1 rfl) (l4 rfl) rfl (aE aA 1 rfl (aD (hK4 _ (aN ?_)))))))))))))
 refine⟨_,rfl,?_⟩
 rfl
theorem aF3 (s:Sta) (e:Ev) (hu:TS e.user) (ho:TS e.other) (he:bU e=true) (ht:e.at'<s.now) :Den Tryz.prog 54 [.agg (aL s),.agg (evC e)]  (·=.tup [.agg (aL aJ),.s (.int .i64 111)]):=by
 refine aY Tryz.func54 rfl (Nat.le_of_ble_eq_true rfl) (fun w0 A hf=>(aC (fun K1 hK1=>(aB (kD hf rfl rfl rfl rfl (l1 rfl) ?_)))))
 refine aM hf rfl (cT rfl rfl (lf rfl)) (aX hf rfl rfl rfl cG (aE aA 1 rfl (aD (hK1 _ (aC (fun K2 hK2=>(aC (fun K3 hK3=>(aB (aE aA 1 rfl (aM hf rfl (aQ rfl rfl iY rfl ((show Den Tryz.prog _ _ (·=.s (.bool true)) from fZ (fV e hu ho) (by rw[he])))) ?_)))))))))))
 refine aE aA 1 rfl (aD (hK3 _ (bJ rfl (aP (hK2 _ (aC (fun K4 hK4=>(aC (fun K5 hK5=>(aB (aE aA 5 rfl (aD (hK5 _ (cH rfl rfl (fun hc2=>?_) (fun hc2=>?_)))))))))))))))
 ·
  simp only[bs] at hc2
  refine aC (fun K6 hK6=>(aB (aH rfl (cK rfl cG jP (l3 rfl) rfl) (bM (jY gW) (aZ hf rfl rfl cQ rfl rfl (l1 rfl) (l4 rfl) rfl (aE aA 1 rfl (aD (hK6 _ (aN ?_)))))))))
  refine⟨_,rfl,?_⟩
  rfl
 ·
  simp only[bs] at hc2
  omega
theorem yK (s:Sta) (e:Ev) (hz:SzS 140737488355100 s) (hr:cX cZ s.usr) (hr2:cX dR s.tmb) (ts:TsS s) (hu:TS e.user) (ho:TS e.other):Den Tryz.prog 54 [.agg (aL s),.agg (evC e)] (·=.tup [.agg (aL (bT s e).1),.s (.int .i64 (bT s e).2)]):=by
  cases he:bU e with
  | false=>exact fZ (aF4 s e hu ho he) (by rw[show bT s e=(aJ,110) from by rw[bT,if_neg (by rw[he]; decide)]])
  | true =>
    by_cases ht:e.at'<s.now
    · exact fZ (aF3 s e hu ho he ht) (by rw[show bT s e=(aJ,111) from by rw[bT,if_pos he,if_pos ht]])
    · have ht:=Int.not_lt.1 ht
      rcases sS he with ⟨hk,_⟩ | ⟨hk,_⟩ | ⟨hk,_⟩ | ⟨hk,_⟩ | ⟨hk,_⟩ | ⟨hk,_⟩ | ⟨hk,_⟩
      · exact aGb s e hz hr hr2 ts hu ho hk he ht
      · exact aGa s e hz hr hr2 ts hu ho hk he ht
      · exact aF9 s e hz hr hr2 ts hu ho hk he ht
      · exact aF8 s e hz hr hr2 ts hu ho hk he ht
      · exact aF7 s e hz hr hr2 ts hu ho hk he ht
      · exact aF6 s e hz hr hr2 ts hu ho hk he ht
      · exact aF5 s e hz hr hr2 ts hu ho hk he ht
end Go.Proofs.YtijnkglkchhomaaGreat
set_option linter.unusedVariables false
set_option linter.unusedSimpArgs false
namespace Go.Abs
open Go
theorem aTw {l:List Us} (h:cX cZ l) (u:ByteArray):(u,ofU l u)∈l∨(ofU l u=[]∧∀ x∈l,x.1≠u):=by
  by_cases hh:mI cZ l u=true
  · obtain ⟨hk,e⟩:=aAd h hh
    exact .inl (e ▸ List.getElem_mem hk)
  · have hf:=Bool.eq_false_iff.2 hh
    refine .inr ⟨qN hf,fun x hx=>?_⟩
    rw[mI,List.any_eq_false] at hf
    simpa [isK] using hf x hx
def NeU (l:List Us):Prop:=∀ x∈l,x.2≠[]
theorem aCk {a b:List Us} (ha:cX cZ a) (hb:cX cZ b) (na:NeU a) (nb:NeU b) (h:∀ u,ofU a u=ofU b u):a=b:=by
  refine kU ha hb fun x=>⟨fun hx=>?_,fun hx=>?_⟩
  · have e:=aCq ha hx
    rcases aTw hb x.1 with h1 | ⟨h1,_⟩
    · rw[← h,e] at h1; exact h1
    · rw[← h,e] at h1; exact absurd h1 (na x hx)
  · have e:=aCq hb hx
    rcases aTw ha x.1 with h1 | ⟨h1,_⟩
    · rw[h,e] at h1; exact h1
    · rw[h,e] at h1; exact absurd h1 (nb x hx)
theorem aTb {l:List Us} {u:ByteArray} {ys:List cB} (h:NeU l):NeU (kE l u ys):=fun x hx=>by
  rcases jW.1 hx with hx | hx
  · exact h x hx.1
  · unfold tU at hx
    split at hx
    · cases hx
    · rename_i hne; rw[List.mem_singleton.1 hx]; exact hne
theorem add_ne {l:List Us} {u:ByteArray} {x:cB} (h:NeU l):NeU (mN l u x):=by
  unfold mN; split
  · exact h
  · exact aTb h
theorem aCv {l:List Us} (h:cX cZ l) {u v:ByteArray} {x:cB}:ofU (mN l u x) v=if v=u then iU (ofU l u) x else ofU l v:=by
  unfold mN iU
  split
  · split
    · rename_i hv; rw[hv]
    · rfl
  · rw[lP h]
theorem aUw {l:List cB} {x:cB} (h:Srt jH l):Srt jH (iU l x):=by
  unfold iU; split
  · exact h
  · exact qS h
structure GoU (l:List Us):Prop where
  r:cX cZ l
  s:∀ u,Srt jH (ofU l u)
  n:NeU l
theorem GoU.add {l:List Us} {u:ByteArray} {x:cB} (h:GoU l):GoU (mN l u x):=⟨aUt h.r,fun v=>by
  rw[aCv h.r]; split
  · exact aUw (h.s u)
  · exact h.s v,add_ne h.n⟩
theorem GoU.set0 {l:List Us} {u:ByteArray} (h:GoU l):GoU (kE l u []):=⟨sF h.r,fun v=>by
  rw[lP h.r]; split
  · exact List.Pairwise.nil
  · exact h.s v,aTb h.n⟩
theorem zX {s:Sta} (h:RightP s):GoU s.usr:=⟨h.usr,fun u=>zQ ((uH _).1 (aG6 h u).1).2,fun x hx=>(pA.1 (h.uok x hx)).1⟩
theorem aUm {s:Sta} {e:Ev} (h0:(bT s e).2=0):bU e=true∧s.now≤e.at'∧(bO s e).2=0∧(bT s e).1={ (bO s e).1 with now:=e.at' }:=by
  unfold bT at h0 ⊢
  split at h0
  · rename_i he
    split at h0
    · simp at h0
    · rename_i ht
      split at h0
      · rename_i h2
        rw[if_pos he,if_neg ht,if_pos h2]
        exact⟨he,Int.not_lt.1 ht,h2,rfl⟩
      · rename_i h2; exact absurd h0 h2
  · simp at h0
theorem aEl {α:Type} (q:α→Bool) (e:α):∀ l:List α,∃ pre post,l=pre++post∧tV q e l=pre++e::post
  | []=>⟨[],[],rfl,rfl⟩
  | x::l=>by
    rw[tV]; split
    · exact⟨[],x::l,rfl,rfl⟩
    · obtain ⟨pre,post,e1,e2⟩:=aEl q e l
      exact⟨x::pre,post,by rw[e1]; rfl,by rw[e2]; rfl⟩
theorem aOk {e:En}:∀ {l:List En},(∀ y∈l,0<mF y e)→rH l e=e::l
  | [],_=>rfl
  | x::l,h=>by rw[rH,if_pos (h x (by simp))]
end Go.Abs
set_option linter.unusedVariables false
set_option linter.unusedSimpArgs false
namespace Go.Abs
open Go
theorem aTu {s:Sta} {x:cB} {k:Nat} (hk:k<s.opn.length) (h1:s.opn[k].1.1=x.2.1) (h2:s.opn[k].2.2<x.1.2):lA s x=false :=
  Bool.eq_false_iff.2 fun h=>by have:=(nU.1 h).1 _ (List.getElem_mem hk) h1; omega
theorem sM {s:Sta} {x:cB} (h:¬ (0≤x.1.1∧x.1.2≤s.now∧1≤x.2.1∧x.2.1≤999∧1≤x.2.2∧x.2.2≤4)):lA s x=false :=
  Bool.eq_false_iff.2 fun h'=>h (nU.1 h').2
theorem aRq {s:Sta} {x:cB} {i:Nat} (hi:s.opn.length≤i) (h:∀ (j:Nat) (hj:j<s.opn.length),j<i→¬ (s.opn[j].1.1=x.2.1∧s.opn[j].2.2<x.1.2)) (h2:0≤x.1.1∧x.1.2≤s.now∧1≤x.2.1∧x.2.1≤999∧1≤x.2.2∧x.2.2≤4):lA s x=true :=
  nU.2 ⟨fun e he hn=>by
    obtain ⟨j,hj,rfl⟩:=List.getElem_of_mem he
    have:=h j hj (by omega)
    exact Int.not_lt.1 fun hl=>this ⟨hn,hl⟩,h2⟩
theorem qM {s:Sta} {x:Us} {k:Nat} (hk:k<x.2.length) (h:lA s x.2[k]=false):false=aCe s x:=by
  cases e:aCe s x with
  | false=>rfl
  | true=>have:=(pA.1 e).2.2 _ (List.getElem_mem hk); rw[h] at this; cases this
theorem aKe {s:Sta} {x:Us} {k:Nat} {b:Bool} (hk:x.2.length≤k) (h:∀ (j:Nat) (hj:j<x.2.length),j<k→lA s x.2[j]=true) (hb:b=(decide (0<x.2.length)&&zV x.2)):b=aCe s x:=by
  have ha:x.2.all (lA s)=true:=List.all_eq_true.2 fun y hy=>by
    obtain ⟨j,hj,rfl⟩:=List.getElem_of_mem hy
    exact h j hj (by omega)
  rw[hb,aCe,ha,Bool.and_true]
  congr 1
  cases x.2 <;> simp
def RisUp {α:Type} (key:α→ByteArray) (q:α→Prop) (l:List α) (k:Nat):Prop:=∀ (j:Nat) (hj:j<l.length),j<k→(dA (key l[j])=true∧q l[j]∧∀ h0:0<j,eA (key (l[j - 1]'(by omega))) (key l[j])<0)
theorem RisUp.zero {α:Type} {key:α→ByteArray} {q:α→Prop} {l:List α}:RisUp key q l 0:=fun j hj h=>absurd h (Nat.not_lt_zero _)
theorem RisUp.next {α:Type} {key:α→ByteArray} {q:α→Prop} {l:List α} {k:Nat} (h:RisUp key q l k) (hk:k<l.length) (h1:dA (key l[k])=true) (h2:q l[k]) (h3:∀ h0:0<k,eA (key (l[k - 1]'(by omega))) (key l[k])<0):RisUp key q l (k+1):=nA h hk ⟨h1,h2,h3⟩
theorem RisUp.r {α:Type} {key:α→ByteArray} {q:α→Prop} {l:List α} {k:Nat} (h:RisUp key q l k) (hk:l.length≤k):cX key l:=aQf fun j h0 hj=>(h j hj (by omega)).2.2 h0
theorem RisUp.n {α:Type} {key:α→ByteArray} {q:α→Prop} {l:List α} {k:Nat} (h:RisUp key q l k) (hk:l.length≤k):∀ x∈l,dA (key x)=true:=fun x hx=>by
  obtain ⟨j,hj,rfl⟩:=List.getElem_of_mem hx
  exact(h j hj (by omega)).1
theorem RisUp.q {α:Type} {key:α→ByteArray} {q:α→Prop} {l:List α} {k:Nat} (h:RisUp key q l k) (hk:l.length≤k):∀ x∈l,q x:=fun x hx=>by
  obtain ⟨j,hj,rfl⟩:=List.getElem_of_mem hx
  exact(h j hj (by omega)).2.1
end Go.Abs
set_option linter.unusedVariables false
namespace Go.Abs
open Go
theorem ty_ent {cs:List AV} (h:Ty (.agg [.str,.str,.int .i64,.int .i64]) cs):∃ e:En,cs=enC e∧(TS e.1.1∧TS e.1.2):=by
  simp only[Ty,TyL] at h
  obtain ⟨a,b,rfl,⟨w,rfl,hw⟩,a',b',rfl,⟨u,rfl,hu⟩,a2,b2,rfl,⟨n,rfl,_⟩,a3,b3,rfl,⟨m,rfl,_⟩,rfl⟩:=h
  exact⟨((w,u),(n,m)),rfl,Nat.le_trans hw (by decide),Nat.le_trans hu (by decide)⟩
theorem ty_ents {c:AV} (h:Ty (.sl 48 (.agg [.str,.str,.int .i64,.int .i64])) [c]):∃ l:List En,c=.sl 4 (l.map enC)∧l.length*48≤140737488351232∧∀ e∈l,TS e.1.1∧TS e.1.2:=by
  simp only[Ty] at h
  obtain ⟨xs,hx,_,hl,hxs⟩:=h
  obtain ⟨l,rfl,hr⟩:=tB enC (fun e=>TS e.1.1∧TS e.1.2) (d:=.agg [.str,.str,.int .i64,.int .i64]) (fun cs h=>ty_ent h) (xs:=xs) (fun x hx=>by simp only[Ty]; exact hxs x hx)
  simp only[List.cons.injEq,and_true] at hx
  exact⟨l,hx,by simpa using hl,hr⟩
end Go.Abs
set_option linter.unusedVariables false
set_option linter.unusedSimpArgs false
namespace Go.Abs
open Go
theorem uC (n:Nat):SzS n aJ:=⟨by simp [aJ],by simp [aJ],by simp [aJ],by simp [aJ],by simp [aJ]⟩
theorem nowSz {n:Nat} {s:Sta} {t:Int} (h:SzS n s):SzS n { s with now:=t }:=⟨h.o,h.u,h.b,h.t,h.y⟩
theorem doesSz {n m:Nat} {s:Sta} {e:Ev} (hz:SzS n s) (hr:cX cZ s.usr) (he:bU e=true) (hm:n+48≤m):SzS m (bO s e).1:=by
  have z1:=hz.o
  have z2:=hz.u
  have z3:=hz.b
  have z4:=hz.t
  rcases sS he with ⟨hk,_⟩ | ⟨hk,_⟩ | ⟨hk,_⟩ | ⟨hk,_⟩ | ⟨hk,_⟩ | ⟨hk,_⟩ | ⟨hk,_⟩
  · rw[bO,if_pos hk]
    have:=aEc s.opn ((e.n,e.user),(e.st,e.at'))
    exact⟨by show (mG s.opn ((e.n,e.user),(e.st,e.at'))).length*40≤m; omega,Nat.le_trans z2 (by omega),Nat.le_trans z3 (by omega),Nat.le_trans z4 (by omega),fun x hx=>Nat.le_trans (hz.y x hx) (by omega)⟩
  · rw[bO,if_neg (by omega),if_pos hk]
    have:=aE0 s.opn e.n e.user e.st e.at'
    exact addSz (n:=n) (s:={ s with opn:=mM s.opn e.n e.user e.st e.at' }) (u:=e.user) (x:=stR s.opn e.n e.user e.at') ⟨by show (mM s.opn e.n e.user e.st e.at').length*40≤n; omega,z2,z3,z4,hz.y⟩ hr (by omega)
  · rw[bO,if_neg (by omega),if_neg (by omega),if_pos hk]
    have:=aEz s.opn e.n e.user
    exact addSz (n:=n) (s:={ s with opn:=mL s.opn e.n e.user }) (u:=e.user) (x:=stR s.opn e.n e.user e.at') ⟨by show (mL s.opn e.n e.user).length*40≤n; omega,z2,z3,z4,hz.y⟩ hr (by omega)
  · rw[bO,if_neg (by omega),if_neg (by omega),if_neg (by omega),if_pos hk]
    have:=aKo s.sub (e.user,e.other) e.at'
    exact⟨Nat.le_trans z1 (by omega),Nat.le_trans z2 (by omega),by show (if onB s.sub (e.user,e.other)=true then [] else gT s.sub (e.user,e.other) e.at').length*48≤m; omega,Nat.le_trans z4 (by omega),fun x hx=>Nat.le_trans (hz.y x hx) (by omega)⟩
  · rw[bO,if_neg (by omega),if_neg (by omega),if_neg (by omega),if_neg (by omega),if_pos hk]
    have:=aKn s.sub (e.user,e.other) e.at'
    exact⟨Nat.le_trans z1 (by omega),Nat.le_trans z2 (by omega),by show (if onB s.sub (e.user,e.other)=true then jG s.sub (e.user,e.other) e.at' else []).length*48≤m; omega,Nat.le_trans z4 (by omega),fun x hx=>Nat.le_trans (hz.y x hx) (by omega)⟩
  · rw[bO,if_neg (by omega),if_neg (by omega),if_neg (by omega),if_neg (by omega),if_neg (by omega),if_pos hk]
    exact⟨Nat.le_trans z1 (by omega),Nat.le_trans z2 (by omega),Nat.le_trans z3 (by omega),Nat.le_trans z4 (by omega),fun x hx=>Nat.le_trans (hz.y x hx) (by omega)⟩
  · rw[bO,if_neg (by omega),if_neg (by omega),if_neg (by omega),if_neg (by omega),if_neg (by omega),if_neg (by omega)]
    exact erSz hz hr (by omega)
theorem aIz {n m:Nat} {s:Sta} {e:Ev} (hz:SzS n s) (hr:cX cZ s.usr) (hm:n+48≤m):SzS m (bT s e).1:=by
  unfold bT
  split
  · rename_i he
    split
    · exact uC m
    · split
      · exact nowSz (doesSz hz hr he hm)
      · exact uC m
  · exact uC m
theorem tO {s:Sta} (h:RightP s) (e:Ev):RightP (bT s e).1:=by
  by_cases h0:(bT s e).2=0
  · exact rR h h0
  · have:(bT s e).1=aJ:=by
      unfold bT at h0 ⊢
      split
      · rename_i he
        rw[if_pos he] at h0
        split
        · rfl
        · rename_i ht
          rw[if_neg ht] at h0
          split
          · rename_i h2; rw[if_pos h2] at h0; exact absurd rfl h0
          · rfl
      · rfl
    rw[this]; exact fP
theorem ty_us {cs:List AV} (h:Ty (.agg [.str,.sl 32 (.agg [.int .i64,.int .i64,.int .i64,.int .i64])]) cs):∃ x:Us,cs=usC x∧TS x.1∧x.2.length*32≤140737488351232:=by
  simp only[Ty] at h
  rw[TyL] at h
  obtain ⟨x,y,rfl,h1,h2⟩:=h
  rw[TyL] at h2
  obtain ⟨z,w,rfl,h3,h4⟩:=h2
  have e1:=aHv h1
  have e2:=aHv h3
  simp only[TyL] at h4
  subst h4
  match x,e1,z,e2 with
  | [c],_,[d],_ =>
    obtain ⟨a,rfl,ha⟩:=aNv h1
    obtain ⟨l,rfl,hl⟩:=ty_sts h3
    exact⟨(a,l),rfl,Nat.le_trans ha (by omega),hl⟩
theorem ty_tm {cs:List AV} (h:Ty (.agg [.str,.int .i64]) cs):∃ x:Tm,cs=tmC x∧TS x.1:=by
  simp only[Ty,TyL] at h
  obtain ⟨a,b,rfl,⟨n,rfl,hn⟩,a',b',rfl,⟨m,rfl,_⟩,rfl⟩:=h
  exact⟨(n,m),rfl,Nat.le_trans hn (by omega)⟩
theorem ty_uss {c:AV} (h:Ty (.sl 40 (.agg [.str,.sl 32 (.agg [.int .i64,.int .i64,.int .i64,.int .i64])])) [c]):∃ l:List Us,c=.sl 2 (l.map usC)∧l.length*40≤140737488351232∧∀ x∈l,TS x.1∧x.2.length*32≤140737488351232:=by
  rw[Ty] at h
  obtain ⟨xs,hx,_,hl,hxs⟩:=h
  obtain ⟨l,rfl,hr⟩:=tB usC (fun x=>TS x.1∧x.2.length*32≤140737488351232) (d:=.agg [.str,.sl 32 (.agg [.int .i64,.int .i64,.int .i64,.int .i64])]) (fun cs h=>ty_us h) (xs:=xs) (fun x hx=>hxs x hx)
  simp only[List.cons.injEq,and_true] at hx
  exact⟨l,hx,by simpa using hl,hr⟩
theorem ty_tms {c:AV} (h:Ty (.sl 24 (.agg [.str,.int .i64])) [c]):∃ l:List Tm,c=.sl 2 (l.map tmC)∧l.length*24≤140737488351232∧∀ x∈l,TS x.1:=by
  rw[Ty] at h
  obtain ⟨xs,hx,_,hl,hxs⟩:=h
  obtain ⟨l,rfl,hr⟩:=tB tmC (fun x=>TS x.1) (d:=.agg [.str,.int .i64]) (fun cs h=>ty_tm h) (xs:=xs) (fun x hx=>hxs x hx)
  simp only[List.cons.injEq,and_true] at hx
  exact⟨l,hx,by simpa using hl,hr⟩
theorem vO {d:TD} {r:List TD} {cs:List AV} (hd:d.n=1) (h:TyL (d::r) cs):∃ c b,cs=c::b∧Ty d [c]∧TyL r b:=by
  rw[TyL] at h
  obtain ⟨a,b,rfl,h1,h2⟩:=h
  have e:=aHv h1
  rw[hd] at e
  match a,e with
  | [c],_=>exact⟨c,b,rfl,h1,h2⟩
theorem aS4 {cs:List AV} (h:Ty (.agg [.int .i64,.int .i64,.sl 40 (.agg [.int .i64,.str,.int .i64,.int .i64]),.sl 40 (.agg [.str,.sl 32 (.agg [.int .i64,.int .i64,.int .i64,.int .i64])]),.sl 48 (.agg [.str,.str,.int .i64,.int .i64]),.sl 24 (.agg [.str,.int .i64])]) cs):∃ s:Sta,cs=aL s∧SzS 140737488351232 s∧TsS s:=by
  rw[Ty] at h
  obtain ⟨c1,b1,rfl,h1,r1⟩:=vO rfl h
  obtain ⟨c2,b2,rfl,h2,r2⟩:=vO rfl r1
  obtain ⟨c3,b3,rfl,h3,r3⟩:=vO rfl r2
  obtain ⟨c4,b4,rfl,h4,r4⟩:=vO rfl r3
  obtain ⟨c5,b5,rfl,h5,r5⟩:=vO rfl r4
  obtain ⟨c6,b6,rfl,h6,r6⟩:=vO rfl r5
  rw[TyL] at r6
  subst r6
  obtain ⟨n,rfl,_⟩:=aNw h1
  obtain ⟨m,rfl,_⟩:=aNw h2
  obtain ⟨o,rfl,o1,o2⟩:=ty_ses h3
  obtain ⟨u,rfl,u1,u2⟩:=ty_uss h4
  obtain ⟨b,rfl,b1,b2⟩:=ty_ents h5
  obtain ⟨t,rfl,t1,t2⟩:=ty_tms h6
  exact⟨⟨n,m,o,u,b,t⟩,rfl,⟨o1,u1,b1,t1,fun x hx=>(u2 x hx).2⟩,⟨o2,fun x hx=>(u2 x hx).1,b2,t2⟩⟩
theorem ty_ev {cs:List AV} (h:Ty (.agg [.int .i64,.int .i64,.str,.str,.int .i64,.int .i64]) cs):∃ e:Ev,cs=evC e∧TS e.user∧TS e.other:=by
  simp only[Ty,TyL] at h
  obtain ⟨_,_,rfl,⟨k,rfl,_⟩,_,_,rfl,⟨t,rfl,_⟩,_,_,rfl,⟨u,rfl,hu⟩,_,_,rfl,⟨o,rfl,ho⟩,_,_,rfl,⟨n,rfl,_⟩,_,_,rfl,⟨x,rfl,_⟩,rfl⟩:=h
  exact⟨⟨k,t,u,o,n,x⟩,rfl,Nat.le_trans hu (by omega),Nat.le_trans ho (by omega)⟩
theorem aHw {c:AV} (h:Ty (.sl 64 (.agg [.int .i64,.int .i64,.str,.str,.int .i64,.int .i64])) [c]):∃ l:List Ev,c=.sl 6 (l.map evC)∧l.length*64≤140737488351232∧∀ e∈l,TS e.user∧TS e.other:=by
  rw[Ty] at h
  obtain ⟨xs,hx,_,hl,hxs⟩:=h
  obtain ⟨l,rfl,hr⟩:=tB evC (fun e=>TS e.user∧TS e.other) (d:=.agg [.int .i64,.int .i64,.str,.str,.int .i64,.int .i64]) (fun cs h=>ty_ev h) (xs:=xs) (fun x hx=>hxs x hx)
  simp only[List.cons.injEq,and_true] at hx
  exact⟨l,hx,by simpa using hl,hr⟩
def manyI (s:Sta):Int:=IntKind.i64.wrap (IntKind.i64.wrap ((aEw s:Nat):Int)+(s.usr.length:Nat))
end Go.Abs
set_option linter.unusedVariables false
namespace Go.Abs
open Go
abbrev aO3:ByteArray:=⟨#[97,110,110]⟩
end Go.Abs
set_option linter.unusedVariables false
set_option linter.unusedSimpArgs false
namespace Go.Abs
open Go
def gX (s:Sta) (e:Ev):Sta:=if (bT s e).2=0 then (bT s e).1 else s
def aI (s:Sta) (l:List Ev):Sta:=l.foldl gX s
def aT:Sta→List Ev→List Int
  | _,[]=>[]
  | s,e::l=>(bT s e).2::aT (gX s e) l
def aV:Sta→List Ev→List Ev
  | _,[]=>[]
  | s,e::l=>if (bT s e).2=0 then e::aV (gX s e) l else aV (gX s e) l
def lH (u:ByteArray) (e:Ev):Bool:=decide (e.user=u)||decide (e.other=u)
def aW (u:ByteArray) (l:List Ev):List Ev:=l.filter fun e=>!lH u e
theorem rI {s:Sta} {e:Ev} (h:(bT s e).2=0):gX s e=(bT s e).1:=if_pos h
theorem aHx {s:Sta} {e:Ev} (h:(bT s e).2≠0):gX s e=s:=if_neg h
theorem aAw {s:Sta} (h:RightP s) (e:Ev):RightP (gX s e):=by
  unfold gX; split
  · exact tO h e
  · exact h
theorem stepSz {n m:Nat} {s:Sta} {e:Ev} (hz:SzS n s) (h:RightP s) (hm:n+48≤m):SzS m (gX s e):=by
  unfold gX; split
  · exact aIz hz h.usr hm
  · exact hz.mono (by omega)
theorem aHf (s:Sta) (a b:List Ev):aI s (a++b)=aI (aI s a) b:=List.foldl_append
theorem oJ:∀ (l:List Ev) {s:Sta},RightP s→RightP (aI s l)
  | [],_,h=>h
  | e::l,_,h=>oJ l (aAw h e)
theorem tK:∀ (l:List Ev) {n:Nat} {s:Sta},SzS n s→RightP s→SzS (n+48*l.length) (aI s l)
  | [],n,s,hz,_=>hz.mono (by simp)
  | e::l,n,s,hz,h=>(tK l (stepSz (m:=n+48) hz h (Nat.le_refl _)) (aAw h e)).mono (by simp only[List.length_cons]; omega)
theorem yB:∀ (a:List Ev) (s:Sta) (b:List Ev),aT s (a++b)=aT s a++aT (aI s a) b
  | [],_,_=>rfl
  | e::a,s,b=>by
    show _::aT (gX s e) (a++b)=_::(aT (gX s e) a++_)
    rw[yB a (gX s e) b]; rfl
theorem aGs:∀ (a:List Ev) (s:Sta) (b:List Ev),aV s (a++b)=aV s a++aV (aI s a) b
  | [],_,_=>rfl
  | e::a,s,b=>by
    show (if (bT s e).2=0 then e::aV (gX s e) (a++b) else aV (gX s e) (a++b))=(if (bT s e).2=0 then e::aV (gX s e) a else aV (gX s e) a)++_
    rw[aGs a (gX s e) b]
    split <;> rfl
theorem eT:∀ (l:List Ev) (s:Sta),(aT s l).length=l.length
  | [],_=>rfl
  | e::l,s=>by simp only[aT,List.length_cons,eT l]
theorem pU:∀ (l:List Ev) (s:Sta),(aV s l).length≤l.length
  | [],_=>Nat.le_refl _
  | e::l,s=>by
    have:=pU l (gX s e)
    unfold aV; split <;> simp only[List.length_cons] <;> omega
theorem nB {s:Sta} {l:List Ev} {k:Nat} (hk:k<l.length):aT s (l.take (k+1))=aT s (l.take k)++[(bT (aI s (l.take k)) l[k]).2]:=by
  rw[List.take_succ_eq_append_getElem hk,yB]; rfl
theorem vY {s:Sta} {l:List Ev} {k:Nat} (hk:k<l.length):aI s (l.take (k+1))=gX (aI s (l.take k)) l[k]:=by
  rw[List.take_succ_eq_append_getElem hk,aHf]; rfl
theorem aCl {s:Sta} {l:List Ev} {k:Nat} (hk:k<l.length) (hk2:k<(aT s l).length):(aT s l)[k]=(bT (aI s (l.take k)) l[k]).2:=by
  have e:aT s l=aT s (l.take k)++aT (aI s (l.take k)) (l.drop k):=by rw[← yB,List.take_append_drop]
  have h1:(aT s (l.take k)).length=k:=by rw[eT,List.length_take]; omega
  have h2:aT (aI s (l.take k)) (l.drop k)=(bT (aI s (l.take k)) l[k]).2::aT (gX (aI s (l.take k)) l[k]) (l.drop (k+1)):=by rw[List.drop_eq_getElem_cons hk]; rfl
  have h3:(aT s l)[k]?=some (bT (aI s (l.take k)) l[k]).2:=by
    rw[e,List.getElem?_append_right (by omega),h1,Nat.sub_self,h2]; rfl
  rw[List.getElem?_eq_getElem hk2] at h3
  exact Option.some.inj h3
theorem kS {s:Sta} {l:List Ev} {k:Nat} (hk:k<l.length):aV s (l.take (k+1))=aV s (l.take k)++(if (bT (aI s (l.take k)) l[k]).2=0 then [l[k]] else []):=by
  rw[List.take_succ_eq_append_getElem hk,aGs]; rfl
theorem qU:∀ (l:List Ev) (s:Sta),aI s (aV s l)=aI s l∧(∀ x∈aT s (aV s l),x=0)∧aV s (aV s l)=aV s l
  | [],_=>⟨rfl,by simp [aV,aT],rfl⟩
  | e::l,s=>by
    obtain ⟨h1,h2,h3⟩:=qU l (gX s e)
    by_cases h0:(bT s e).2=0
    · have et:aV s (e::l)=e::aV (gX s e) l:=if_pos h0
      rw[et]
      refine⟨h1,fun x hx=>?_,?_⟩
      · rcases List.mem_cons.1 hx with rfl | hx
        · exact h0
        · exact h2 x hx
      · show (if (bT s e).2=0 then _ else _)=_
        rw[if_pos h0,h3]
    · have et:aV s (e::l)=aV (gX s e) l:=if_neg h0
      rw[et]
      have es:=aHx h0
      rw[es] at h1 h2 h3 ⊢
      exact⟨h1.trans (by show _=aI (gX s e) l; rw[es]),h2,h3⟩
def sO:List Ev→Ev→Ev
  | [],m=>m
  | x::l,m=>sO l (if m.at'<x.at' then x else m)
def ev0:Ev:=⟨0,0,bs0,bs0,0,0⟩
theorem aT9 {x:Ev} {r:List Ev} {k:Nat} (hk:k<r.length):0≤((k+1:Nat):Int)∧((x::r).map evC)[((k+1:Nat):Int).toNat]?=some (evC r[k]):=⟨by omega,by rw[Int.toNat_natCast,List.getElem?_map,List.getElem?_cons_succ,List.getElem?_eq_getElem hk]; rfl⟩
def aG8:List Ev→Int
  | []=>0
  | x::r=>(sO r x).at'
abbrev bBob:ByteArray:=⟨#[98,111,98]⟩
def aGp:Ev:=⟨1,3,aO3,bs0,1,1⟩
def aGo:Ev:=⟨1,4,bBob,bs0,1,1⟩
def aE8:Ev:=⟨3,5,aO3,bs0,1,0⟩
def afS:Sta:=⟨5,0,[],[(aO3,[((3,5),(1,1))])],[],[]⟩
theorem af_1:aI aJ [aGp,aGo,aE8]=afS:=by decide +kernel
theorem af_2:aT aJ [aGp,aGo,aE8]=[0,100,0]:=by decide +kernel
theorem af_3:aV aJ [aGp,aGo,aE8]=[aGp,aE8]:=by decide +kernel
theorem af_4:aW aO3 [aGp,aGo,aE8]=[aGo]:=by decide +kernel
theorem af_5:aJk afS aO3 9=[((3,5),(1,1))]:=by decide +kernel
theorem aSm:RightP afS:=pV.1 (by decide +kernel)
end Go.Abs
set_option linter.unusedVariables false
set_option linter.unusedSimpArgs false
namespace Go.Abs
open Go
def aIt (sp:List Sp) (f a:Int):Prop:=∀ τ:Int,aK2 sp τ=(decide (f≤τ)&&decide (τ<a))
theorem aSb (f:Int):aIt [] f f:=by
  intro τ
  rw[aK0,Bool.eq_iff_iff]
  simp only[Bool.and_eq_true,decide_eq_true_eq,Bool.false_eq_true,false_iff]
  omega
theorem aO0 {sp:List Sp} {f a t:Int} (h:aIt sp f a) (h1:f≤a) (h2:a≤t):aIt (sp++[(a,t)]) f t:=by
  intro τ
  rw[aK1,h τ,aRw,aK0,Bool.eq_iff_iff]
  simp only[Bool.and_eq_true,decide_eq_true_eq,Bool.or_eq_true,Bool.false_eq_true,or_false]
  omega
structure WholeI (e:Se) (k:Nat) (a:Int) (stays:List cB) (sp:List Sp) (n:Nat):Prop where
  le:k≤n
  ge:e.2.2≤a
  l1:stays.length=k
  l2:sp.length=k
  ends:∀ y∈stays,y.1.2≤a
  cov:aIt sp e.2.2 a
theorem WholeI.start (e:Se) (n:Nat):WholeI e 0 e.2.2 [] [] n:=⟨Nat.zero_le _,Int.le_refl _,rfl,rfl,by simp,aSb _⟩
theorem WholeI.next {e:Se} {k n:Nat} {a t s0:Int} {stays:List cB} {sp:List Sp} (h:WholeI e k a stays sp n) (hk:k<n) (ht:a≤t):WholeI e (k+1) t (stays++[((a,t),(e.1.1,s0))]) (sp++[(a,t)]) n:=by
  refine⟨hk,Int.le_trans h.ge ht,by rw[List.length_append,h.l1]; rfl,by rw[List.length_append,h.l2]; rfl,fun y hy=>?_,aO0 h.cov h.ge ht⟩
  rcases List.mem_append.1 hy with hy | hy
  · exact Int.le_trans (h.ends y hy) ht
  · rw[List.mem_singleton.1 hy]; exact Int.le_refl _
variable {P:Program}
theorem yP {t:TypeId} {k:IntKind} {a b:Int} (h:a=b):qZ P .neq t (.int k a) (.int k b)=some (.bool false):=by
  subst h; simp [qZ,xP]
end Go.Abs
set_option linter.unusedVariables false
set_option linter.unusedSimpArgs false
namespace Go.Proofs.YtijnkglkchhomaaGreat
open Go Go.Abs
theorem pC (a:List Int) (n:Int):bE (a++[n])=bE a++[[AV.s (.int .i64 n)]]:=by simp [bE]
theorem aAm (j:Nat) (s:Sta) (l:List Ev) (hz:SzS (140737488351232+48*j) s) (h:RightP s) (hl:j+l.length≤60) (ht:∀ e∈l,TS e.user∧TS e.other) :Den Tryz.prog 15 [.agg (aL s),.sl 6 (l.map evC)]  (·=.tup [.agg (aL (aI s l)),.sl 1 (bE (aT s l))]):=by
 refine aY Tryz.func15 rfl (Nat.le_of_ble_eq_true rfl) (fun w0 A hf=>(aC (fun K1 hK1=>(aB (kD hf rfl rfl rfl rfl (l1 rfl) ?_)))))
 refine aX hf rfl rfl rfl bB (aH rfl (bR) (aD (hK1 _ (aC (fun K2 hK2=>(aB (jT hf 1 rfl rfl rfl (aD (hK2 _ (aC (fun K3 hK3=>(aB (aE aA 1 rfl (jI hf [] [(E0,222),(E1,223)] rfl rfl rfl rfl rfl rfl (by decide) (by decide) (by decide) rfl rE (pG s (hz.mono (by omega))) ?_))))))))))))))
 rintro r m1 ⟨rfl,rfl⟩
 rw[uI]
 refine bM (dY [1,2,4,6,12] rfl) (aZ hf rfl rfl cM rfl rfl (l1 rfl) (l4 rfl) rfl (aD (hK3 _ (aC (fun K4 hK4=>(aC (fun K5 hK5=>(aB (bM (lU (nee 222) (sl':=[(1,_),(2,_),(4,_),(6,_)]) (m':=[(223,.buf 2 (s.tmb.map tmC)),(6,.buf 1 []),(4,AM.box [.s (.int .i64 0),.s (.int .i64 0),.s (.slice none 0 0),.s (.slice none 0 0),.s (.slice none 0 0),.s (.slice none 0 0)]),(2,.box [.s (.int .i64 s.now),.s (.int .i64 s.hor),.sl 4 (s.opn.map seC),.sl 2 (s.usr.map usC),.sl 4 (s.sub.map enC),.own 223 2 0 (s.tmb.map tmC).length])]) ⟨⟨_,rfl,rfl⟩,⟨_,rfl,rfl⟩,⟨_,rfl,rfl⟩,⟨_,rfl,rfl⟩,trivial⟩ (Eq.trans (show _=[(223,AM.buf 2 (s.tmb.map tmC)),(6,.buf 1 []),(4,AM.box [.s (.int .i64 0),.s (.int .i64 0),.s (.slice none 0 0),.s (.slice none 0 0),.s (.slice none 0 0),.s (.slice none 0 0)]),(2,.box [.s (.int .i64 s.now),.s (.int .i64 s.hor),.sl 4 (s.opn.map seC),AV.only (nee 222) [(222,.buf 2 (s.usr.map usC)),(223,.buf 2 (s.tmb.map tmC)),(6,.buf 1 []),(4,.box [.s (.int .i64 0),.s (.int .i64 0),.s (.slice none 0 0),.s (.slice none 0 0),.s (.slice none 0 0),.s (.slice none 0 0)]),(2,.box [.s (.int .i64 s.now),.s (.int .i64 s.hor),.sl 4 (s.opn.map seC),.own 222 2 0 (s.usr.map usC).length,.sl 4 (s.sub.map enC),.own 223 2 0 (s.tmb.map tmC).length])] (.own 222 2 0 (s.usr.map usC).length),.sl 4 (s.sub.map enC),.own 223 2 0 (s.tmb.map tmC).length])] from rfl) (by rw[qL (ok:=nee 222) (g:=222) rfl rfl rfl]))) ?_)))))))))
 refine bM (lU (nee 223) (sl':=[(1,_),(2,_),(4,_),(6,_)]) (m':=[(6,.buf 1 []),(4,AM.box [.s (.int .i64 0),.s (.int .i64 0),.s (.slice none 0 0),.s (.slice none 0 0),.s (.slice none 0 0),.s (.slice none 0 0)]),(2,.box [.s (.int .i64 s.now),.s (.int .i64 s.hor),.sl 4 (s.opn.map seC),.sl 2 (s.usr.map usC),.sl 4 (s.sub.map enC),.sl 2 (s.tmb.map tmC)])]) ⟨⟨_,rfl,rfl⟩,⟨_,rfl,rfl⟩,⟨_,rfl,rfl⟩,⟨_,rfl,rfl⟩,trivial⟩ (Eq.trans (show _=[(6,.buf 1 []),(4,AM.box [.s (.int .i64 0),.s (.int .i64 0),.s (.slice none 0 0),.s (.slice none 0 0),.s (.slice none 0 0),.s (.slice none 0 0)]),(2,.box [.s (.int .i64 s.now),.s (.int .i64 s.hor),.sl 4 (s.opn.map seC),.sl 2 (s.usr.map usC),.sl 4 (s.sub.map enC),AV.only (nee 223) [(223,.buf 2 (s.tmb.map tmC)),(6,.buf 1 []),(4,AM.box [.s (.int .i64 0),.s (.int .i64 0),.s (.slice none 0 0),.s (.slice none 0 0),.s (.slice none 0 0),.s (.slice none 0 0)]),(2,.box [.s (.int .i64 s.now),.s (.int .i64 s.hor),.sl 4 (s.opn.map seC),.sl 2 (s.usr.map usC),.sl 4 (s.sub.map enC),.own 223 2 0 (s.tmb.map tmC).length])] (.own 223 2 0 (s.tmb.map tmC).length)])] from rfl) (by rw[qL (ok:=nee 223) (g:=223) rfl rfl rfl]))) ?_
 refine aE aA 3 rfl (aD (hK5 _ (aR (bY (ι:=Nat×Sta) (fun(⟨k,st⟩:Nat×Sta)=>⟨35,[(2,.ref 2 0 0 0),(4,.ref 4 0 0 0),(6,.own 6 1 0 (bE (aT s (l.take k))).length),(13,.sl 6 (l.map evC)),(14,.s (.int .i64 ((l.map evC).length:Nat))),(15,.s (.int .i64 (k:Nat)))],[(6,.buf 1 (bE (aT s (l.take k)))),(4,.box [.s (.int .i64 0),.s (.int .i64 0),.s (.slice none 0 0),.s (.slice none 0 0),.s (.slice none 0 0),.s (.slice none 0 0)]),(2,.box (aL st))]⟩) (fun(⟨k,st⟩:Nat×Sta)=>k≤l.length∧st=aI s (l.take k)∧RightP st∧SzS (140737488351232+48*j+48*k) st) (fun(⟨k,st⟩:Nat×Sta)=>l.length - k) (0,s) ?_ ?_ ?_))))
 · exact⟨Nat.zero_le _,rfl,h,hz⟩
 · exact cJ ⟨rfl,rfl,rfl,rfl,rfl,rfl,trivial⟩ rfl
 ·
  rintro ⟨k,st⟩ hC
  obtain ⟨h1,h2,h3,h4⟩:=hC
  refine aC (fun K6 hK6=>(aB (aE aA 1 rfl (aD (hK6 _ (aC (fun K7 hK7=>(aO rfl (fun hc1=>?_) (fun hc1=>?_)))))))))
  ·
   simp only[bs,dG] at hc1
   refine aP (hK7 _ (aC (fun K8 hK8=>(aR (aC (fun K9 hK9=>(aB ?_)))))))
   have hk:k<l.length:=by omega
   have hzS:SzS 140737488355100 st:=h4.mono (by omega)
   obtain ⟨hu,ho⟩:=ht _ (List.getElem_mem hk)
   have htl:(bE (aT s (l.take k))).length=k:=by rw[dG,eT,List.length_take]; omega
   refine aH rfl (bA rfl rfl gY dC (by first | assumption | (refine⟨by omega,?_⟩; first | assumption | exact fK (by omega) | exact fK (by simp only[List.length_cons] at *; omega) | exact lV (by omega) | exact nV (by omega) | exact lS (by omega)) | exact⟨by decide,rfl⟩)) ?_
   refine aE aA 1 rfl (cF hf rfl jO rfl dC rfl rfl rfl rfl (lf rfl) (aD (hK9 _ (aC (fun K10 hK10=>(aB (aE aA 2 rfl (aM hf rfl (aQ rfl rfl aP0 rfl (aLp st l[k] hzS h3.usr h3.tmb hu ho)) (aE aA 3 rfl (cF hf rfl bB rfl cM rfl rfl rfl rfl (lf rfl) (aE aA 1 rfl (aD (hK10 _ ?_)))))))))))))
   refine aC (fun K11 hK11=>(aC (fun K12 hK12=>(aB (aE aA 2 rfl (aD (hK12 _ (aO rfl (fun hc2=>?_) (fun hc2=>?_)))))))))
   ·
    simp only[bs,dG] at hc2
    refine aB (aE aA 1 rfl (aZ hf rfl rfl cM rfl rfl (l1 rfl) (l4 rfl) rfl (aD (hK11 _ (aB (aE aA 2 rfl (aM hf rfl (bD lZ rfl rfl rfl rfl (l2 rfl)) (bZ hf rfl lZ rfl rfl rfl (.inl rfl) rfl rfl (by first | rfl | simp [eB,bV]) (by first | (simp only[maxLen,List.length_map,List.length_append,List.length_cons,List.length_nil]; omega) | (simp [maxLen] <;> omega)) (by first | (simp only[List.length_map,List.length_append,List.length_cons,List.length_nil]; omega) | (simp <;> omega)) ?_))))))))
    refine bM (dY [2,4,13,14,15,31] rfl) (aE aA 1 rfl ?_)
    refine bL ?_
    refine hK8 _ (aB ?_)
    refine aH rfl (bS rfl rfl (by omega) (by omega)) ?_
    refine aE aA 1 rfl (aD ?_)
    exact⟨(k+1,(bT st l[k]).1),⟨by omega,by rw[vY hk,← h2,rI (by assumption)],tO h3 _,aIz h4 h3.usr (by omega)⟩,by simp only; omega,cJ ⟨rfl,rfl,(by rw[nB hk,← h2,pC,List.length_append]; rfl),rfl,rfl,rfl,trivial⟩ (by rw[nB hk,← h2,pC]; rfl)⟩
   ·
    simp only[bs,dG] at hc2
    refine aP (hK11 _ (aB (aE aA 2 rfl (aM hf rfl (bD lZ rfl rfl rfl rfl (l2 rfl)) (bZ hf rfl lZ rfl rfl rfl (.inl rfl) rfl rfl (by first | rfl | simp [eB,bV]) (by first | (simp only[maxLen,List.length_map,List.length_append,List.length_cons,List.length_nil]; omega) | (simp [maxLen] <;> omega)) (by first | (simp only[List.length_map,List.length_append,List.length_cons,List.length_nil]; omega) | (simp <;> omega)) ?_)))))
    refine bM (dY [2,4,13,14,15,31] rfl) (aE aA 1 rfl ?_)
    refine bL ?_
    refine hK8 _ (aB ?_)
    refine aH rfl (bS rfl rfl (by omega) (by omega)) ?_
    refine aE aA 1 rfl (aD ?_)
    exact⟨(k+1,st),⟨by omega,by rw[vY hk,← h2,aHx (by assumption)],h3,h4.mono (by omega)⟩,by simp only; omega,cJ ⟨rfl,rfl,(by rw[nB hk,← h2,pC,List.length_append]; rfl),rfl,rfl,rfl,trivial⟩ (by rw[nB hk,← h2,pC]; rfl)⟩
  ·
   simp only[bs,dG] at hc1
   refine bF (hK4 _ (aC (fun K13 hK13=>(aB (aE aA 2 rfl (aZ hf rfl rfl cM rfl rfl (l1 rfl) (l4 rfl) rfl (aE aA 1 rfl (aD (hK13 _ (aN ?_))))))))))
   refine⟨_,rfl,?_⟩
   show AV.tup [.agg _,AV.conv _ (.own 6 1 0 (bE (aT s (l.take k))).length)]=_
   rw[cE (g:=6) rfl rfl,List.take_of_length_le (by omega)]
   rw[List.take_of_length_le (by omega)] at h2
   rw[h2]; rfl
theorem hZ (s:Sta) (l:List Ev) (hz:SzS 140737488351232 s) (h:RightP s) (hl:l.length≤60) (ht:∀ e∈l,TS e.user∧TS e.other):Den Tryz.prog 15 [.agg (aL s),.sl 6 (l.map evC)] (·=.tup [.agg (aL (aI s l)),.sl 1 (bE (aT s l))]):=aAm 0 s l hz h (by omega) ht
theorem aA2 (s:Sta) (l:List Ev) (hz:SzS 140737488351232 s) (h:RightP s) (hl:l.length≤60) (ht:∀ e∈l,TS e.user∧TS e.other) :Den Tryz.prog 17 [.agg (aL s),.sl 6 (l.map evC)]  (·=.tup [.agg (aL (aI s l)),.sl 1 (bE (aT s l))]):=by
 refine aY Tryz.func17 rfl (Nat.le_of_ble_eq_true rfl) (fun w0 A hf=>(aC (fun K1 hK1=>(aB (kD hf rfl rfl rfl rfl (l1 rfl) ?_)))))
 refine aX hf rfl rfl rfl cG (aH rfl (bR) (aD (hK1 _ (aC (fun K2 hK2=>(aB (jT hf 1 rfl rfl rfl (aD (hK2 _ (aC (fun K3 hK3=>(aC (fun K4 hK4=>(aB (aE aA 1 rfl ?_)))))))))))))))
 refine aD (hK4 _ (aR (bY (ι:=Nat×Sta) (fun(⟨k,st⟩:Nat×Sta)=>⟨34,[(1,.sl 6 (l.map evC)),(2,.ref 2 0 0 0),(4,.ref 4 0 0 0),(6,.own 6 1 0 (bE (aT s (l.take k))).length),(7,.s (.int .i64 (k:Nat)))],[(6,.buf 1 (bE (aT s (l.take k)))),(4,.box [.s (.int .i64 0),.s (.int .i64 0),.s (.slice none 0 0),.s (.slice none 0 0),.s (.slice none 0 0),.s (.slice none 0 0)]),(2,.box (aL st))]⟩) (fun(⟨k,st⟩:Nat×Sta)=>k≤l.length∧st=aI s (l.take k)∧RightP st∧SzS (140737488351232+48*k) st) (fun(⟨k,st⟩:Nat×Sta)=>l.length - k) (0,s) ?_ ?_ ?_)))
 · exact⟨Nat.zero_le _,rfl,h,hz⟩
 · exact cJ ⟨rfl,rfl,rfl,rfl,rfl,trivial⟩ rfl
 ·
  rintro ⟨k,st⟩ hC
  obtain ⟨h1,h2,h3,h4⟩:=hC
  refine aC (fun K5 hK5=>(aC (fun K6 hK6=>(aB ?_))))
  skip
  refine aE aA 4 rfl (aD (hK6 _ (aO rfl (fun hc1=>?_) (fun hc1=>?_))))
  ·
   simp only[bs,dG] at hc1
   have hk:k<l.length:=by omega
   have hzS:SzS 140737488355100 st:=h4.mono (by omega)
   obtain ⟨hu,ho⟩:=ht _ (List.getElem_mem hk)
   have htl:(bE (aT s (l.take k))).length=k:=by rw[dG,eT,List.length_take]; omega
   refine aP (hK5 _ (aC (fun K7 hK7=>(aR (aC (fun K8 hK8=>(dJ bN ?_)))))))
   refine cA (listed':=#[false,true,false,false,false,false,false,false,false,false,false,false]) 1 rfl (by kernel_rfl) (by kernel_rfl) (by kernel_rfl) rfl (fun _ _ h=>h) (dP rfl) ?_
   refine cA (listed':=#[false,true,true,false,false,false,false,false,false,false,false,false]) 2 rfl (by kernel_rfl) (by kernel_rfl) (by kernel_rfl) rfl (fun _ _ h=>h) (dP rfl) ?_
   refine cA (listed':=#[false,true,true,true,false,false,false,false,false,false,false,false]) 3 rfl (by kernel_rfl) (by kernel_rfl) (by kernel_rfl) rfl (fun _ _ h=>h) (aS3 rfl rfl oC lM (by first | assumption | (refine⟨by omega,?_⟩; first | assumption | exact fK (by omega) | exact fK (by simp only[List.length_cons] at *; omega) | exact lV (by omega) | exact nV (by omega) | exact lS (by omega)) | exact⟨by decide,rfl⟩)) ?_
   refine aK 0 #[true,true,true,true,true,true,true,true,true,true,true,true] ⟨34,[(1,.sl 6 (l.map evC)),(2,.ref 2 0 0 0),(4,.ref 4 0 0 0),(6,.own 6 1 0 (bE (aT s (l.take k))).length),(7,.s (.int .i64 (k:Nat))),(8,.ref 8 0 0 0),(9,.s (.int .i64 (bT st l[k]).2))],[(8,.box (aL (bT st l[k]).1)),(6,.buf 1 (bE (aT s (l.take k)))),(4,.box [.s (.int .i64 0),.s (.int .i64 0),.s (.slice none 0 0),.s (.slice none 0 0),.s (.slice none 0 0),.s (.slice none 0 0)]),(2,.box (aL st))]⟩ ?_ (fun hD0=>?_)
   ·
    refine dB (by kernel_rfl) ?_
    refine hK8 _ (aC (fun K9 hK9=>(aC (fun K10 hK10=>(aB (aE aA 2 rfl (aD (hK10 _ (aO rfl (fun hc2=>?_) (fun hc2=>?_))))))))))
    ·
     simp only[bs,dG] at hc2
     refine aHi (lU (nee 8) (sl':=[(1,_),(2,_),(4,_),(6,_),(7,_),(8,_),(9,_)]) (m':=[(6,.buf 1 (bE (aT s (l.take k)))),(4,.box [.s (.int .i64 0),.s (.int .i64 0),.s (.slice none 0 0),.s (.slice none 0 0),.s (.slice none 0 0),.s (.slice none 0 0)]),(2,.box (aL st))]) ⟨⟨_,rfl,rfl⟩,⟨_,rfl,rfl⟩,⟨_,rfl,rfl⟩,⟨_,rfl,rfl⟩,⟨_,rfl,rfl⟩,⟨_,rfl,rfl⟩,⟨_,rfl,rfl⟩,trivial⟩ rfl) (aB (aE aA 1 rfl (aZ hf rfl rfl cQ rfl rfl (l1 rfl) (l4 rfl) rfl (aD (hK9 _ (aB (aE aA 2 rfl (aM hf rfl (bD lZ rfl rfl rfl rfl (l2 rfl)) ?_))))))))
     refine bZ hf rfl lZ rfl rfl rfl (.inl rfl) rfl rfl (by first | rfl | simp [eB,bV]) (by first | (simp only[maxLen,List.length_map,List.length_append,List.length_cons,List.length_nil]; omega) | (simp [maxLen] <;> omega)) (by first | (simp only[List.length_map,List.length_append,List.length_cons,List.length_nil]; omega) | (simp <;> omega)) ?_
     refine bM (dY [1,2,4,7,31] rfl) (aE aA 1 rfl ?_)
     refine bL ?_
     refine hK7 _ (aB (aE aA 1 rfl ?_))
     refine aH rfl (bS rfl rfl (by omega) (by omega)) ?_
     refine aE aA 1 rfl (aD ?_)
     exact⟨(k+1,(bT st l[k]).1),⟨by omega,by rw[vY hk,← h2,rI (by assumption)],tO h3 _,aIz h4 h3.usr (by omega)⟩,by simp only; omega,cJ ⟨rfl,rfl,rfl,(by rw[nB hk,← h2,pC,List.length_append]; rfl),rfl,trivial⟩ (by rw[nB hk,← h2,pC]; rfl)⟩
    ·
     simp only[bs,dG] at hc2
     refine aHi (lU (nee 8) (sl':=[(1,_),(2,_),(4,_),(6,_),(7,_),(9,_)]) (m':=[(6,.buf 1 (bE (aT s (l.take k)))),(4,.box [.s (.int .i64 0),.s (.int .i64 0),.s (.slice none 0 0),.s (.slice none 0 0),.s (.slice none 0 0),.s (.slice none 0 0)]),(2,.box (aL st))]) ⟨⟨_,rfl,rfl⟩,⟨_,rfl,rfl⟩,⟨_,rfl,rfl⟩,⟨_,rfl,rfl⟩,⟨_,rfl,rfl⟩,⟨_,rfl,rfl⟩,trivial⟩ rfl) (aP (hK9 _ (aB (aE aA 2 rfl (aM hf rfl (bD lZ rfl rfl rfl rfl (l2 rfl)) (bZ hf rfl lZ rfl rfl rfl (.inl rfl) rfl rfl (by first | rfl | simp [eB,bV]) (by first | (simp only[maxLen,List.length_map,List.length_append,List.length_cons,List.length_nil]; omega) | (simp [maxLen] <;> omega)) (by first | (simp only[List.length_map,List.length_append,List.length_cons,List.length_nil]; omega) | (simp <;> omega)) ?_))))))
     refine bM (dY [1,2,4,7,31] rfl) (aE aA 1 rfl ?_)
     refine bL ?_
     refine hK7 _ (aB (aE aA 1 rfl ?_))
     refine aH rfl (bS rfl rfl (by omega) (by omega)) ?_
     refine aE aA 1 rfl (aD ?_)
     exact⟨(k+1,st),⟨by omega,by rw[vY hk,← h2,aHx (by assumption)],h3,h4.mono (by omega)⟩,by simp only; omega,cJ ⟨rfl,rfl,rfl,(by rw[nB hk,← h2,pC,List.length_append]; rfl),rfl,trivial⟩ (by rw[nB hk,← h2,pC]; rfl)⟩
   refine aK 1 #[true,true,true,true,true,true,true,true,true,true,true,false] ⟨34,[(1,.sl 6 (l.map evC)),(2,.ref 2 0 0 0),(4,.ref 4 0 0 0),(6,.own 6 1 0 (bE (aT s (l.take k))).length),(7,.s (.int .i64 (k:Nat))),(8,.ref 8 0 0 0),(24,.s (.int .i64 (bT st l[k]).2))],[(8,.box (aL (bT st l[k]).1)),(6,.buf 1 (bE (aT s (l.take k)))),(4,.box [.s (.int .i64 0),.s (.int .i64 0),.s (.slice none 0 0),.s (.slice none 0 0),.s (.slice none 0 0),.s (.slice none 0 0)]),(2,.box (aL st))]⟩ ?_ (fun hD1=>?_)
   ·
    refine aG 11 [] (by kernel_rfl) ⟨?_,trivial⟩
    ·
     refine⟨_,rfl,rfl,(ao rfl (aE aA 1 rfl (aF (ag hD0 rfl rfl rfl))))⟩
   refine aK 2 #[true,true,true,true,true,true,true,true,true,true,false,false] ⟨34,[(1,.sl 6 (l.map evC)),(2,.ref 2 0 0 0),(4,.ref 4 0 0 0),(6,.own 6 1 0 (bE (aT s (l.take k))).length),(7,.s (.int .i64 (k:Nat))),(8,.ref 8 0 0 0),(23,.agg (aL (bT st l[k]).1)),(24,.s (.int .i64 (bT st l[k]).2))],[(8,.box [.s (.int .i64 0),.s (.int .i64 0),.s (.slice none 0 0),.s (.slice none 0 0),.s (.slice none 0 0),.s (.slice none 0 0)]),(6,.buf 1 (bE (aT s (l.take k)))),(4,.box [.s (.int .i64 0),.s (.int .i64 0),.s (.slice none 0 0),.s (.slice none 0 0),.s (.slice none 0 0),.s (.slice none 0 0)]),(2,.box (aL st))]⟩ ?_ (fun hD2=>?_)
   ·
    refine aG 10 [] (by kernel_rfl) ⟨?_,trivial⟩
    ·
     refine⟨_,rfl,rfl,(ao rfl (aZ hf rfl rfl cQ rfl rfl (l1 rfl) (l4 rfl) rfl (aF (ag hD1 rfl rfl rfl))))⟩
   refine aK 2 #[true,true,true,true,true,true,true,true,false,true,true,false] ⟨34,[(1,.sl 6 (l.map evC)),(2,.ref 2 0 0 0),(4,.ref 4 0 0 0),(6,.own 6 1 0 (bE (aT s (l.take k))).length),(7,.s (.int .i64 (k:Nat))),(8,.ref 8 0 0 0),(16,.tup [.agg (aL (bT st l[k]).1),.s (.int .i64 (bT st l[k]).2)])],[(8,.box (aL (bT st l[k]).1)),(6,.buf 1 (bE (aT s (l.take k)))),(4,.box [.s (.int .i64 0),.s (.int .i64 0),.s (.slice none 0 0),.s (.slice none 0 0),.s (.slice none 0 0),.s (.slice none 0 0)]),(2,.box (aL st))]⟩ ?_ (fun hD3=>?_)
   ·
    refine aG 8 [] (by kernel_rfl) ⟨?_,trivial⟩
    ·
     refine⟨_,rfl,rfl,(ao rfl (aE aA 1 rfl (aF (ag hD1 rfl rfl rfl))))⟩
   refine aK 3 #[true,true,true,true,true,true,true,true,true,false,false,false] ⟨34,[(1,.sl 6 (l.map evC)),(2,.ref 2 0 0 0),(4,.ref 4 0 0 0),(6,.own 6 1 0 (bE (aT s (l.take k))).length),(7,.s (.int .i64 (k:Nat))),(23,.agg (aL (bT st l[k]).1)),(24,.s (.int .i64 (bT st l[k]).2))],[(6,.buf 1 (bE (aT s (l.take k)))),(4,.box [.s (.int .i64 0),.s (.int .i64 0),.s (.slice none 0 0),.s (.slice none 0 0),.s (.slice none 0 0),.s (.slice none 0 0)]),(2,.box (aL st))]⟩ ?_ (fun hD4=>?_)
   ·
    refine aG 9 [] (by kernel_rfl) ⟨?_,trivial⟩
    ·
     refine⟨_,rfl,rfl,(ao rfl (aX hf rfl rfl rfl cG (aF (ag hD2 rfl rfl rfl))))⟩
   refine aK 3 #[true,true,true,true,true,true,true,true,false,true,false,false] ⟨34,[(1,.sl 6 (l.map evC)),(2,.ref 2 0 0 0),(4,.ref 4 0 0 0),(6,.own 6 1 0 (bE (aT s (l.take k))).length),(7,.s (.int .i64 (k:Nat))),(8,.ref 8 0 0 0),(16,.tup [.agg (aL (bT st l[k]).1),.s (.int .i64 (bT st l[k]).2)]),(23,.agg (aL (bT st l[k]).1))],[(8,.box [.s (.int .i64 0),.s (.int .i64 0),.s (.slice none 0 0),.s (.slice none 0 0),.s (.slice none 0 0),.s (.slice none 0 0)]),(6,.buf 1 (bE (aT s (l.take k)))),(4,.box [.s (.int .i64 0),.s (.int .i64 0),.s (.slice none 0 0),.s (.slice none 0 0),.s (.slice none 0 0),.s (.slice none 0 0)]),(2,.box (aL st))]⟩ ?_ (fun hD5=>?_)
   ·
    refine aG 8 [10] (by kernel_rfl) ⟨?_,?_,trivial⟩
    ·
     refine⟨_,rfl,rfl,(ao rfl (aE aA 1 rfl (aF (ag hD2 rfl rfl rfl))))⟩
    ·
     refine⟨_,rfl,rfl,(ao rfl (aZ hf rfl rfl cQ rfl rfl (l1 rfl) (l4 rfl) rfl (aF (ag hD3 rfl rfl rfl))))⟩
   refine aK 3 #[true,true,true,true,true,true,true,false,true,true,false,false] ⟨34,[(1,.sl 6 (l.map evC)),(2,.ref 2 0 0 0),(4,.ref 4 0 0 0),(6,.own 6 1 0 (bE (aT s (l.take k))).length),(7,.s (.int .i64 (k:Nat))),(8,.ref 8 0 0 0),(16,.tup [.agg (aL (bT st l[k]).1),.s (.int .i64 (bT st l[k]).2)]),(24,.s (.int .i64 (bT st l[k]).2))],[(8,.box [.s (.int .i64 0),.s (.int .i64 0),.s (.slice none 0 0),.s (.slice none 0 0),.s (.slice none 0 0),.s (.slice none 0 0)]),(6,.buf 1 (bE (aT s (l.take k)))),(4,.box [.s (.int .i64 0),.s (.int .i64 0),.s (.slice none 0 0),.s (.slice none 0 0),.s (.slice none 0 0),.s (.slice none 0 0)]),(2,.box (aL st))]⟩ ?_ (fun hD6=>?_)
   ·
    refine aG 7 [] (by kernel_rfl) ⟨?_,trivial⟩
    ·
     refine⟨_,rfl,rfl,(ao rfl (aE aA 1 rfl (aF (ag hD2 rfl rfl rfl))))⟩
   refine aK 4 #[true,true,true,true,true,true,true,true,false,false,false,false] ⟨34,[(1,.sl 6 (l.map evC)),(2,.ref 2 0 0 0),(4,.ref 4 0 0 0),(6,.own 6 1 0 (bE (aT s (l.take k))).length),(7,.s (.int .i64 (k:Nat))),(16,.tup [.agg (aL (bT st l[k]).1),.s (.int .i64 (bT st l[k]).2)]),(23,.agg (aL (bT st l[k]).1))],[(6,.buf 1 (bE (aT s (l.take k)))),(4,.box [.s (.int .i64 0),.s (.int .i64 0),.s (.slice none 0 0),.s (.slice none 0 0),.s (.slice none 0 0),.s (.slice none 0 0)]),(2,.box (aL st))]⟩ ?_ (fun hD7=>?_)
   ·
    refine aG 8 [9] (by kernel_rfl) ⟨?_,?_,trivial⟩
    ·
     refine⟨_,rfl,rfl,(ao rfl (aE aA 1 rfl (aF (ag hD4 rfl rfl rfl))))⟩
    ·
     refine⟨_,rfl,rfl,(ao rfl (aX hf rfl rfl rfl cG (aF (ag hD5 rfl rfl rfl))))⟩
   refine aK 4 #[true,true,true,true,true,true,true,false,true,false,false,false] ⟨34,[(1,.sl 6 (l.map evC)),(2,.ref 2 0 0 0),(4,.ref 4 0 0 0),(6,.own 6 1 0 (bE (aT s (l.take k))).length),(7,.s (.int .i64 (k:Nat))),(16,.tup [.agg (aL (bT st l[k]).1),.s (.int .i64 (bT st l[k]).2)]),(24,.s (.int .i64 (bT st l[k]).2))],[(6,.buf 1 (bE (aT s (l.take k)))),(4,.box [.s (.int .i64 0),.s (.int .i64 0),.s (.slice none 0 0),.s (.slice none 0 0),.s (.slice none 0 0),.s (.slice none 0 0)]),(2,.box (aL st))]⟩ ?_ (fun hD8=>?_)
   ·
    refine aG 7 [9] (by kernel_rfl) ⟨?_,?_,trivial⟩
    ·
     refine⟨_,rfl,rfl,(ao rfl (aE aA 1 rfl (aF (ag hD4 rfl rfl rfl))))⟩
    ·
     refine⟨_,rfl,rfl,(ao rfl (aX hf rfl rfl rfl cG (aF (ag hD6 rfl rfl rfl))))⟩
   refine aK 4 #[true,true,true,true,true,true,true,false,false,true,false,false] ⟨34,[(1,.sl 6 (l.map evC)),(2,.ref 2 0 0 0),(4,.ref 4 0 0 0),(6,.own 6 1 0 (bE (aT s (l.take k))).length),(7,.s (.int .i64 (k:Nat))),(8,.ref 8 0 0 0),(16,.tup [.agg (aL (bT st l[k]).1),.s (.int .i64 (bT st l[k]).2)])],[(8,.box [.s (.int .i64 0),.s (.int .i64 0),.s (.slice none 0 0),.s (.slice none 0 0),.s (.slice none 0 0),.s (.slice none 0 0)]),(6,.buf 1 (bE (aT s (l.take k)))),(4,.box [.s (.int .i64 0),.s (.int .i64 0),.s (.slice none 0 0),.s (.slice none 0 0),.s (.slice none 0 0),.s (.slice none 0 0)]),(2,.box (aL st))]⟩ ?_ (fun hD9=>?_)
   ·
    refine aG 7 [8] (by kernel_rfl) ⟨?_,?_,trivial⟩
    ·
     refine⟨_,rfl,rfl,(ao rfl (aE aA 1 rfl (aF (ag hD5 rfl rfl rfl))))⟩
    ·
     refine⟨_,rfl,rfl,(ao rfl (aE aA 1 rfl (aF (ag hD6 rfl rfl rfl))))⟩
   refine aK 5 #[true,true,true,true,true,true,true,false,false,false,false,false] ⟨34,[(1,.sl 6 (l.map evC)),(2,.ref 2 0 0 0),(4,.ref 4 0 0 0),(6,.own 6 1 0 (bE (aT s (l.take k))).length),(7,.s (.int .i64 (k:Nat))),(16,.tup [.agg (aL (bT st l[k]).1),.s (.int .i64 (bT st l[k]).2)])],[(6,.buf 1 (bE (aT s (l.take k)))),(4,.box [.s (.int .i64 0),.s (.int .i64 0),.s (.slice none 0 0),.s (.slice none 0 0),.s (.slice none 0 0),.s (.slice none 0 0)]),(2,.box (aL st))]⟩ ?_ (fun hD10=>?_)
   ·
    refine aG 7 [8,9] (by kernel_rfl) ⟨?_,?_,?_,trivial⟩
    ·
     refine⟨_,rfl,rfl,(ao rfl (aE aA 1 rfl (aF (ag hD7 rfl rfl rfl))))⟩
    ·
     refine⟨_,rfl,rfl,(ao rfl (aE aA 1 rfl (aF (ag hD8 rfl rfl rfl))))⟩
    ·
     refine⟨_,rfl,rfl,(ao rfl (aX hf rfl rfl rfl cG (aF (ag hD9 rfl rfl rfl))))⟩
   refine aK 5 #[true,true,true,true,true,true,false,false,false,true,false,false] ⟨34,[(1,.sl 6 (l.map evC)),(2,.ref 2 0 0 0),(4,.ref 4 0 0 0),(6,.own 6 1 0 (bE (aT s (l.take k))).length),(7,.s (.int .i64 (k:Nat))),(8,.ref 8 0 0 0),(22,.tup [.agg (aL (bT st l[k]).1),.s (.int .i64 (bT st l[k]).2)])],[(8,.box [.s (.int .i64 0),.s (.int .i64 0),.s (.slice none 0 0),.s (.slice none 0 0),.s (.slice none 0 0),.s (.slice none 0 0)]),(6,.buf 1 (bE (aT s (l.take k)))),(4,.box [.s (.int .i64 0),.s (.int .i64 0),.s (.slice none 0 0),.s (.slice none 0 0),.s (.slice none 0 0),.s (.slice none 0 0)]),(2,.box (aL st))]⟩ ?_ (fun hD11=>?_)
   ·
    refine aG 6 [] (by kernel_rfl) ⟨?_,trivial⟩
    ·
     refine⟨_,rfl,rfl,(ao rfl (aE aA 1 rfl (aF (ag hD9 rfl rfl rfl))))⟩
   refine aK 6 #[true,true,true,true,true,true,false,false,false,false,false,false] ⟨34,[(1,.sl 6 (l.map evC)),(2,.ref 2 0 0 0),(4,.ref 4 0 0 0),(6,.own 6 1 0 (bE (aT s (l.take k))).length),(7,.s (.int .i64 (k:Nat))),(22,.tup [.agg (aL (bT st l[k]).1),.s (.int .i64 (bT st l[k]).2)])],[(6,.buf 1 (bE (aT s (l.take k)))),(4,.box [.s (.int .i64 0),.s (.int .i64 0),.s (.slice none 0 0),.s (.slice none 0 0),.s (.slice none 0 0),.s (.slice none 0 0)]),(2,.box (aL st))]⟩ ?_ (fun hD12=>?_)
   ·
    refine aG 6 [9] (by kernel_rfl) ⟨?_,?_,trivial⟩
    ·
     refine⟨_,rfl,rfl,(ao rfl (aE aA 1 rfl (aF (ag hD10 rfl rfl rfl))))⟩
    ·
     refine⟨_,rfl,rfl,(ao rfl (aX hf rfl rfl rfl cG (aF (ag hD11 rfl rfl rfl))))⟩
   refine aK 6 #[true,true,true,true,true,false,false,false,false,true,false,false] ⟨34,[(1,.sl 6 (l.map evC)),(2,.ref 2 0 0 0),(4,.ref 4 0 0 0),(6,.own 6 1 0 (bE (aT s (l.take k))).length),(7,.s (.int .i64 (k:Nat))),(8,.ref 8 0 0 0),(17,.agg (aL st)),(21,.agg (evC l[k]))],[(8,.box [.s (.int .i64 0),.s (.int .i64 0),.s (.slice none 0 0),.s (.slice none 0 0),.s (.slice none 0 0),.s (.slice none 0 0)]),(6,.buf 1 (bE (aT s (l.take k)))),(4,.box [.s (.int .i64 0),.s (.int .i64 0),.s (.slice none 0 0),.s (.slice none 0 0),.s (.slice none 0 0),.s (.slice none 0 0)]),(2,.box (aL st))]⟩ ?_ (fun hD13=>?_)
   ·
    refine aG 5 [] (by kernel_rfl) ⟨?_,trivial⟩
    ·
     refine⟨_,rfl,rfl,(ao rfl (aM hf rfl (aQ rfl rfl aFk rfl (yK st l[k] hzS h3.usr h3.tmb (aJv h3) hu ho)) (aF (ag hD11 rfl rfl rfl))))⟩
   refine aK 7 #[true,true,true,true,true,false,false,false,false,false,false,false] ⟨34,[(1,.sl 6 (l.map evC)),(2,.ref 2 0 0 0),(4,.ref 4 0 0 0),(6,.own 6 1 0 (bE (aT s (l.take k))).length),(7,.s (.int .i64 (k:Nat))),(17,.agg (aL st)),(21,.agg (evC l[k]))],[(6,.buf 1 (bE (aT s (l.take k)))),(4,.box [.s (.int .i64 0),.s (.int .i64 0),.s (.slice none 0 0),.s (.slice none 0 0),.s (.slice none 0 0),.s (.slice none 0 0)]),(2,.box (aL st))]⟩ ?_ (fun hD14=>?_)
   ·
    refine aG 5 [9] (by kernel_rfl) ⟨?_,?_,trivial⟩
    ·
     refine⟨_,rfl,rfl,(ao rfl (aM hf rfl (aQ rfl rfl aFk rfl (yK st l[k] hzS h3.usr h3.tmb (aJv h3) hu ho)) (aF (ag hD12 rfl rfl rfl))))⟩
    ·
     refine⟨_,rfl,rfl,(ao rfl (aX hf rfl rfl rfl cG (aF (ag hD13 rfl rfl rfl))))⟩
   refine aK 7 #[true,true,true,true,false,false,false,false,false,true,false,false] ⟨34,[(1,.sl 6 (l.map evC)),(2,.ref 2 0 0 0),(4,.ref 4 0 0 0),(6,.own 6 1 0 (bE (aT s (l.take k))).length),(7,.s (.int .i64 (k:Nat))),(8,.ref 8 0 0 0),(17,.agg (aL st)),(20,.adr (evC l[k]))],[(8,.box [.s (.int .i64 0),.s (.int .i64 0),.s (.slice none 0 0),.s (.slice none 0 0),.s (.slice none 0 0),.s (.slice none 0 0)]),(6,.buf 1 (bE (aT s (l.take k)))),(4,.box [.s (.int .i64 0),.s (.int .i64 0),.s (.slice none 0 0),.s (.slice none 0 0),.s (.slice none 0 0),.s (.slice none 0 0)]),(2,.box (aL st))]⟩ ?_ (fun hD15=>?_)
   ·
    refine aG 4 [] (by kernel_rfl) ⟨?_,trivial⟩
    ·
     refine⟨_,rfl,rfl,(ao rfl (aE aA 1 rfl (aF (ag hD13 rfl rfl rfl))))⟩
   refine aK 7 #[false,true,true,true,true,false,false,false,false,true,false,false] ⟨34,[(1,.sl 6 (l.map evC)),(2,.ref 2 0 0 0),(4,.ref 4 0 0 0),(6,.own 6 1 0 (bE (aT s (l.take k))).length),(7,.s (.int .i64 (k:Nat))),(8,.ref 8 0 0 0),(21,.agg (evC l[k]))],[(8,.box [.s (.int .i64 0),.s (.int .i64 0),.s (.slice none 0 0),.s (.slice none 0 0),.s (.slice none 0 0),.s (.slice none 0 0)]),(6,.buf 1 (bE (aT s (l.take k)))),(4,.box [.s (.int .i64 0),.s (.int .i64 0),.s (.slice none 0 0),.s (.slice none 0 0),.s (.slice none 0 0),.s (.slice none 0 0)]),(2,.box (aL st))]⟩ ?_ (fun hD16=>?_)
   ·
    refine aG 0 [] (by kernel_rfl) ⟨?_,trivial⟩
    ·
     refine⟨_,rfl,rfl,(ao rfl (aE aA 1 rfl (aF (ag hD13 rfl rfl rfl))))⟩
   refine aK 8 #[true,true,true,true,false,false,false,false,false,false,false,false] ⟨34,[(1,.sl 6 (l.map evC)),(2,.ref 2 0 0 0),(4,.ref 4 0 0 0),(6,.own 6 1 0 (bE (aT s (l.take k))).length),(7,.s (.int .i64 (k:Nat))),(17,.agg (aL st)),(20,.adr (evC l[k]))],[(6,.buf 1 (bE (aT s (l.take k)))),(4,.box [.s (.int .i64 0),.s (.int .i64 0),.s (.slice none 0 0),.s (.slice none 0 0),.s (.slice none 0 0),.s (.slice none 0 0)]),(2,.box (aL st))]⟩ ?_ (fun hD17=>?_)
   ·
    refine aG 4 [9] (by kernel_rfl) ⟨?_,?_,trivial⟩
    ·
     refine⟨_,rfl,rfl,(ao rfl (aE aA 1 rfl (aF (ag hD14 rfl rfl rfl))))⟩
    ·
     refine⟨_,rfl,rfl,(ao rfl (aX hf rfl rfl rfl cG (aF (ag hD15 rfl rfl rfl))))⟩
   refine aK 8 #[false,true,true,true,true,false,false,false,false,false,false,false] ⟨34,[(1,.sl 6 (l.map evC)),(2,.ref 2 0 0 0),(4,.ref 4 0 0 0),(6,.own 6 1 0 (bE (aT s (l.take k))).length),(7,.s (.int .i64 (k:Nat))),(21,.agg (evC l[k]))],[(6,.buf 1 (bE (aT s (l.take k)))),(4,.box [.s (.int .i64 0),.s (.int .i64 0),.s (.slice none 0 0),.s (.slice none 0 0),.s (.slice none 0 0),.s (.slice none 0 0)]),(2,.box (aL st))]⟩ ?_ (fun hD18=>?_)
   ·
    refine aG 0 [9] (by kernel_rfl) ⟨?_,?_,trivial⟩
    ·
     refine⟨_,rfl,rfl,(ao rfl (aE aA 1 rfl (aF (ag hD14 rfl rfl rfl))))⟩
    ·
     refine⟨_,rfl,rfl,(ao rfl (aX hf rfl rfl rfl cG (aF (ag hD16 rfl rfl rfl))))⟩
   refine aK 8 #[false,true,true,true,false,false,false,false,false,true,false,false] ⟨34,[(1,.sl 6 (l.map evC)),(2,.ref 2 0 0 0),(4,.ref 4 0 0 0),(6,.own 6 1 0 (bE (aT s (l.take k))).length),(7,.s (.int .i64 (k:Nat))),(8,.ref 8 0 0 0),(20,.adr (evC l[k]))],[(8,.box [.s (.int .i64 0),.s (.int .i64 0),.s (.slice none 0 0),.s (.slice none 0 0),.s (.slice none 0 0),.s (.slice none 0 0)]),(6,.buf 1 (bE (aT s (l.take k)))),(4,.box [.s (.int .i64 0),.s (.int .i64 0),.s (.slice none 0 0),.s (.slice none 0 0),.s (.slice none 0 0),.s (.slice none 0 0)]),(2,.box (aL st))]⟩ ?_ (fun hD19=>?_)
   ·
    refine aG 0 [4] (by kernel_rfl) ⟨?_,?_,trivial⟩
    ·
     refine⟨_,rfl,rfl,(ao rfl (aE aA 1 rfl (aF (ag hD15 rfl rfl rfl))))⟩
    ·
     refine⟨_,rfl,rfl,(ao rfl (aE aA 1 rfl (aF (ag hD16 rfl rfl rfl))))⟩
   refine gQ (lF (sl':=[(1,.sl 6 (l.map evC)),(2,.ref 2 0 0 0),(4,.ref 4 0 0 0),(6,.own 6 1 0 (bE (aT s (l.take k))).length),(7,.s (.int .i64 (k:Nat))),(20,.adr (evC l[k]))]) (m':=[(6,.buf 1 (bE (aT s (l.take k)))),(4,.box [.s (.int .i64 0),.s (.int .i64 0),.s (.slice none 0 0),.s (.slice none 0 0),.s (.slice none 0 0),.s (.slice none 0 0)]),(2,.box (aL st))]) rfl rfl rfl) (aG 0 [4,9] (by kernel_rfl) ⟨?_,?_,?_,trivial⟩)
   ·
    refine⟨_,rfl,rfl,(ao rfl (aE aA 1 rfl (aF (ag hD17 rfl rfl rfl))))⟩
   ·
    refine⟨_,rfl,rfl,(ao rfl (aE aA 1 rfl (aF (ag hD18 rfl rfl rfl))))⟩
   ·
    refine⟨_,rfl,rfl,(ao rfl (aX hf rfl rfl rfl cG (aF (ag hD19 rfl rfl rfl))))⟩
  ·
   simp only[bs,dG] at hc1
   refine bF (hK3 _ (aC (fun K11 hK11=>(aB (aE aA 2 rfl (aZ hf rfl rfl cQ rfl rfl (l1 rfl) (l4 rfl) rfl (aE aA 1 rfl (aD (hK11 _ (aN ?_))))))))))
   refine⟨_,rfl,?_⟩
   show AV.tup [.agg _,AV.conv _ (.own 6 1 0 (bE (aT s (l.take k))).length)]=_
   rw[cE (g:=6) rfl rfl,List.take_of_length_le (by omega)]
   rw[List.take_of_length_le (by omega)] at h2
   rw[h2]; rfl
end Go.Proofs.YtijnkglkchhomaaGreat
set_option linter.unusedVariables false
set_option linter.unusedSimpArgs false
namespace Go.Proofs.YtijnkglkchhomaaGreat
open Go Go.Abs
theorem sQ {l:List Int} {k:Nat} (hk:k<l.length):0≤((k:Nat):Int)∧(bE l)[((k:Nat):Int).toNat]?=some [AV.s (.int .i64 l[k])]:=⟨by omega,by rw[bE,Int.toNat_natCast,List.getElem?_map,List.getElem?_eq_getElem hk]; rfl⟩
theorem oG (s:Sta) (l:List Ev) (hz:SzS 140737488351232 s) (h:RightP s) (hl:l.length≤60) (ht:∀ e∈l,TS e.user∧TS e.other) :Den Tryz.prog 24 [.agg (aL s),.sl 6 (l.map evC)]  (·=.sl 6 ((aV s l).map evC)):=by
 refine aY Tryz.func24 rfl (Nat.le_of_ble_eq_true rfl) (fun w0 A hf=>(aC (fun K1 hK1=>(aB (aM hf rfl (cT rfl rfl (lf rfl)) (aH rfl (bR) (aD (hK1 _ (aC (fun K2 hK2=>(aB (aE aA 2 rfl (aM hf rfl (aQ rfl rfl eZ rfl (hZ s l hz h hl ht)) (aE aA 3 rfl (cF hf rfl bB rfl cM rfl rfl rfl rfl (lf rfl) ?_)))))))))))))))
 refine aE aA 1 rfl (aD (hK2 _ (aC (fun K3 hK3=>(aB (jT hf 6 rfl rfl rfl (aD (hK3 _ (aC (fun K4 hK4=>(aC (fun K5 hK5=>(aB (aE aA 3 rfl (aD ?_)))))))))))))))
 refine hK5 _ (aR (bY (ι:=Nat) (fun k=>⟨34,[(1,.sl 6 (l.map evC)),(7,.own 7 6 0 (aV s (l.take k)).length),(16,.sl 1 (bE (aT s l))),(17,.s (.int .i64 ((bE (aT s l)).length:Nat))),(18,.s (.int .i64 (k:Nat)))],[(7,.buf 6 ((aV s (l.take k)).map evC))]⟩) (fun k=>k≤l.length) (fun k=>l.length - k) 0 ?_ ?_ ?_))
 · exact Nat.zero_le _
 · exact cJ ⟨rfl,rfl,rfl,rfl,rfl,trivial⟩ rfl
 ·
  rintro k hC
  refine aC (fun K6 hK6=>(aB (aE aA 1 rfl (aD (hK6 _ (aC (fun K7 hK7=>(aO rfl (fun hc1=>?_) (fun hc1=>?_)))))))))
  ·
   simp only[bs,dG,eT] at hc1
   refine aP (hK7 _ (aC (fun K8 hK8=>(aR (aC (fun K9 hK9=>(aB ?_)))))))
   have hk:k<l.length:=by omega
   have hk2:k<(aT s l).length:=by rw[eT]; exact hk
   have htk:=pU (l.take k) s
   have htl:(l.take k).length=k:=by rw[List.length_take]; omega
   refine aE aA 1 rfl (aH rfl (bA rfl rfl mO mP (sQ hk2)) (aE aA 3 rfl (aD (hK9 _ (aC (fun K10 hK10=>(aB (aE aA 2 rfl (aD (hK10 _ (aO rfl (fun hc2=>?_) (fun hc2=>?_))))))))))))
   ·
    simp only[bs,dG,eT] at hc2
    have h0:(bT (aI s (l.take k)) l[k]).2=0:=by rw[← aCl hk hk2]; assumption
    refine aB (aE aA 3 rfl ?_)
    refine aH rfl (bA rfl rfl gY dC (by first | assumption | (refine⟨by omega,?_⟩; first | assumption | exact fK (by omega) | exact fK (by simp only[List.length_cons] at *; omega) | exact lV (by omega) | exact nV (by omega) | exact lS (by omega)) | exact⟨by decide,rfl⟩)) ?_
    refine aE aA 1 rfl (aM hf rfl (bD dE rfl rfl rfl rfl (l2 rfl)) (bZ hf rfl dE rfl rfl rfl (.inl rfl) (by rw[List.length_map]) rfl (by first | rfl | simp [eB,bV]) (by first | (simp only[maxLen,List.length_map,List.length_append,List.length_cons,List.length_nil]; omega) | (simp [maxLen] <;> omega)) (by first | (simp only[List.length_map,List.length_append,List.length_cons,List.length_nil]; omega) | (simp <;> omega)) ?_))
    refine bM (dY [1,16,17,18,31] rfl) (aE aA 1 rfl ?_)
    refine bL ?_
    refine hK8 _ (aB ?_)
    refine aH rfl (bS rfl rfl (by omega) (by omega)) ?_
    refine aE aA 1 rfl (aD ?_)
    exact⟨k+1,by omega,by omega,cJ ⟨rfl,(by rw[kS hk,if_pos h0,List.length_append]; rfl),rfl,rfl,rfl,trivial⟩ (by rw[kS hk,if_pos h0,List.map_append]; rfl)⟩
   ·
    simp only[bs,dG,eT] at hc2
    have h0:¬ (bT (aI s (l.take k)) l[k]).2=0:=by rw[← aCl hk hk2]; assumption
    refine aP (hK8 _ (aB ?_))
    refine aH rfl (bS rfl rfl (by omega) (by omega)) ?_
    refine aE aA 1 rfl (aD ?_)
    exact⟨k+1,by omega,by omega,cJ ⟨rfl,(by rw[kS hk,if_neg h0,List.append_nil]; rfl),rfl,rfl,rfl,trivial⟩ (by rw[kS hk,if_neg h0,List.append_nil])⟩
  ·
   simp only[bs,dG,eT] at hc1
   refine bF (hK4 _ (aC (fun K11 hK11=>(aB (aE aA 2 rfl (aD (hK11 _ (aN ?_))))))))
   refine⟨_,rfl,?_⟩
   refine(cE (g:=7) rfl (by rw[List.length_map])).trans ?_
   rw[List.take_of_length_le (by first | omega | (rw[eT] at *; omega))]
theorem aH1 (s:Sta) (l:List Ev) (hz:SzS 140737488351232 s) (h:RightP s) (hl:l.length≤60) (ht:∀ e∈l,TS e.user∧TS e.other) :Den Tryz.prog 25 [.agg (aL s),.sl 6 (l.map evC)]  (·=.sl 6 ((aV s l).map evC)):=by
 refine aY Tryz.func25 rfl (Nat.le_of_ble_eq_true rfl) (fun w0 A hf=>(aC (fun K1 hK1=>(aB (aM hf rfl (cT rfl rfl (lf rfl)) (aH rfl (bR) (aD (hK1 _ (aC (fun K2 hK2=>(aB (aE aA 2 rfl (aM hf rfl (aQ rfl rfl aFl rfl (aA2 s l hz h hl ht)) (aE aA 3 rfl (cF hf rfl cG rfl cQ rfl rfl rfl rfl (lf rfl) ?_)))))))))))))))
 refine aE aA 1 rfl (aD (hK2 _ (aC (fun K3 hK3=>(aB (jT hf 6 rfl rfl rfl (aD (hK3 _ (aC (fun K4 hK4=>(aC (fun K5 hK5=>(aB (aE aA 1 rfl (aD ?_)))))))))))))))
 refine hK5 _ (aR (bY (ι:=Nat) (fun k=>⟨34,[(1,.sl 6 (l.map evC)),(6,.sl 1 (bE (aT s l))),(7,.own 7 6 0 (aV s (l.take k)).length),(8,.s (.int .i64 (k:Nat)))],[(7,.buf 6 ((aV s (l.take k)).map evC))]⟩) (fun k=>k≤l.length) (fun k=>l.length - k) 0 ?_ ?_ ?_))
 · exact Nat.zero_le _
 · exact cJ ⟨rfl,rfl,rfl,rfl,trivial⟩ rfl
 ·
  rintro k hC
  refine aC (fun K6 hK6=>(aC (fun K7 hK7=>(aB (aE aA 4 rfl (aD (hK7 _ (aO rfl (fun hc1=>?_) (fun hc1=>?_)))))))))
  ·
   simp only[bs,dG,eT] at hc1
   have hk:k<l.length:=by omega
   have hk2:k<(aT s l).length:=by rw[eT]; exact hk
   have htk:=pU (l.take k) s
   have htl:(l.take k).length=k:=by rw[List.length_take]; omega
   refine aP (hK6 _ (aC (fun K8 hK8=>(aR (aC (fun K9 hK9=>(aB (aE aA 2 rfl (aH rfl (bA rfl rfl mO mP (sQ hk2)) (aE aA 2 rfl (aD (hK9 _ (aO rfl (fun hc2=>?_) (fun hc2=>?_))))))))))))))
   ·
    simp only[bs,dG,eT] at hc2
    have h0:(bT (aI s (l.take k)) l[k]).2=0:=by rw[← aCl hk hk2]; assumption
    refine aB (aE aA 3 rfl ?_)
    refine aH rfl (bA rfl rfl oC lM (by first | assumption | (refine⟨by omega,?_⟩; first | assumption | exact fK (by omega) | exact fK (by simp only[List.length_cons] at *; omega) | exact lV (by omega) | exact nV (by omega) | exact lS (by omega)) | exact⟨by decide,rfl⟩)) ?_
    refine aE aA 1 rfl (aM hf rfl (bD qA rfl rfl rfl rfl (l2 rfl)) (bZ hf rfl qA rfl rfl rfl (.inl rfl) (by rw[List.length_map]) rfl (by first | rfl | simp [eB,bV]) (by first | (simp only[maxLen,List.length_map,List.length_append,List.length_cons,List.length_nil]; omega) | (simp [maxLen] <;> omega)) (by first | (simp only[List.length_map,List.length_append,List.length_cons,List.length_nil]; omega) | (simp <;> omega)) ?_))
    refine bM (dY [1,6,8,32] rfl) (aE aA 1 rfl ?_)
    refine bL ?_
    refine hK8 _ (aB (aE aA 1 rfl ?_))
    refine aH rfl (bS rfl rfl (by omega) (by omega)) ?_
    refine aE aA 1 rfl (aD ?_)
    exact⟨k+1,by omega,by omega,cJ ⟨rfl,rfl,(by rw[kS hk,if_pos h0,List.length_append]; rfl),rfl,trivial⟩ (by rw[kS hk,if_pos h0,List.map_append]; rfl)⟩
   ·
    simp only[bs,dG,eT] at hc2
    have h0:¬ (bT (aI s (l.take k)) l[k]).2=0:=by rw[← aCl hk hk2]; assumption
    refine aP (hK8 _ (aB (aE aA 1 rfl ?_)))
    refine aH rfl (bS rfl rfl (by omega) (by omega)) ?_
    refine aE aA 1 rfl (aD ?_)
    exact⟨k+1,by omega,by omega,cJ ⟨rfl,rfl,(by rw[kS hk,if_neg h0,List.append_nil]; rfl),rfl,trivial⟩ (by rw[kS hk,if_neg h0,List.append_nil])⟩
  ·
   simp only[bs,dG,eT] at hc1
   refine bF (hK4 _ (aC (fun K10 hK10=>(aB (aE aA 2 rfl (aD (hK10 _ (aN ?_))))))))
   refine⟨_,rfl,?_⟩
   refine(cE (g:=7) rfl (by rw[List.length_map])).trans ?_
   rw[List.take_of_length_le (by first | omega | (rw[eT] at *; omega))]
theorem aK8 (l:List Ev) (hl:l.length*64≤140737488355328) :DenO Tryz.prog 63 [.sl 6 (l.map evC)] 6 (·=(l.map evC)):=by
 refine fY Tryz.func63 rfl (Nat.le_of_ble_eq_true rfl) (fun w0 A hf=>?_)
 refine aC (fun K1 hK1=>(aB (aH rfl (bR) (aD (hK1 _ (aC (fun K2 hK2=>(aC (fun K3 hK3=>(aB (aE aA 1 rfl ?_)))))))))))
 refine oF rfl rfl rfl gY (fun b hb1=>?_)
 refine aD (hK3 _ (aO rfl (fun hc2=>?_) (fun hc2=>?_)))
 ·
  have hl0:l=[]:=by simpa using hb1 (by assumption)
  refine aC (fun K4 hK4=>(aB (jT hf 6 rfl rfl rfl (aD (hK4 _ (aN ?_))))))
  exact⟨2,[],by decide,rfl,rfl,by rw[hl0]; rfl⟩
 ·
  refine aP (hK2 _ (aC (fun K5 hK5=>(aB (cP hf rfl rfl rfl dE rfl rfl rfl rfl (l2 rfl) ?_)))))
  refine aE aA 1 rfl (bZ hf rfl dE rfl rfl rfl (.inl rfl) rfl rfl (by first | rfl | simp [eB,bV]) (by first | (simp only[maxLen,List.length_map,List.length_append,List.length_cons,List.length_nil]; omega) | (simp [maxLen] <;> omega)) (by first | (simp only[List.length_map,List.length_append,List.length_cons,List.length_nil]; omega) | (simp <;> omega)) ?_)
  refine bM (dY [7] rfl) (aE aA 1 rfl (aD (hK5 _ (aN ?_))))
  refine⟨5,(l.map evC),by decide,rfl,?_,rfl⟩
  show some (AV.own 5 6 0 (0+(l.map evC).length))=_
  rw[Nat.zero_add]
theorem aCh {g:Nat} {cap:List AV} (hent:∀ args w,(callFunc g args).run Tryz.prog w=.ok (.enter g args) w) (hcl:cleanL (fun _=>false) cap=true) (p:Ev→Bool) (l:List Ev) (hl:l.length≤9223372036854775807) (hp:∀ x∈l,Den Tryz.prog g (.agg (evC x)::cap) (·=.s (.bool (p x)))) :Den Tryz.prog 110 [.sl 6 (l.map evC),.fn g cap]  (·=.s (.int .i64 (nQ p l))):=by
 refine aY Tryz.func110 rfl (Nat.le_of_ble_eq_true rfl) (fun w0 A hf=>(aC (fun K1 hK1=>(aB (aE aA 1 rfl (aD (hK1 _ (aC (fun K2 hK2=>(aC (fun K3 hK3=>(aB (aE aA 3 rfl (aD (hK3 _ (aR ?_))))))))))))))))
 refine bY (ι:=Nat) (fun k=>⟨19,[(0,.sl 6 (l.map evC)),(1,.fn g cap),(7,.s (.int .i64 ((l.map evC).length:Nat))),(8,.s (.int .i64 (k:Nat)))],[]⟩) (fun k=>k≤l.length∧∀ (j:Nat) (hj:j<l.length),j<k→p l[j]=false) (fun k=>l.length - k) 0 ?_ ?_ ?_
 · exact⟨by omega,by omega⟩
 · exact cW rfl
 ·
  rintro k hC
  obtain ⟨h1,h2⟩:=hC
  refine aC (fun K4 hK4=>(aB (aE aA 1 rfl (aD (hK4 _ (aC (fun K5 hK5=>(aO rfl (fun hc1=>?_) (fun hc1=>?_)))))))))
  ·
   simp only[bs] at hc1
   refine aP (hK5 _ (aC (fun K6 hK6=>(aR (aC (fun K7 hK7=>(aB (aE aA 2 rfl (aD (hK7 _ (aC (fun K8 hK8=>(aB (aE aA 3 rfl ?_))))))))))))))
   refine aH rfl (bA rfl rfl gY dC (by first | exact ixm (by omega) | assumption | exact⟨by decide,rfl⟩)) ?_
   refine aE aA 1 rfl (aM hf rfl (aQ rfl rfl hent (by rw[hJ,hcl]; rfl) (hp _ (List.getElem_mem _))) ?_)
   refine aD (hK8 _ (aO rfl (fun hc2=>?_) (fun hc2=>?_)))
   ·
    refine aC (fun K9 hK9=>(aB (aE aA 2 rfl (aD (hK9 _ (aN ?_))))))
    refine⟨_,rfl,?_⟩
    refine eR ?_
    rw[jZ (by omega) h2 (by assumption)]
   ·
    refine aP (hK6 _ (aB ?_))
    refine aH rfl (bS rfl rfl (by omega) (by omega)) ?_
    refine aE aA 1 rfl (aD ?_)
    exact⟨k+1,⟨by omega,fun j hj hjk=>by
      by_cases e:j=k
      · subst e; simp_all
      · exact h2 j hj (by omega)⟩,by omega,cW rfl⟩
  ·
   simp only[bs] at hc1
   refine bF (hK2 _ (aC (fun K10 hK10=>(aB (aE aA 1 rfl (aD (hK10 _ (aN ?_))))))))
   refine⟨_,rfl,?_⟩
   refine eR ?_
   rw[oI (fun j hj=>h2 j hj (by omega))]
theorem aAs {g:Nat} {cap:List AV} (hent:∀ args w,(callFunc g args).run Tryz.prog w=.ok (.enter g args) w) (hcl:cleanL (fun _=>false) cap=true) (hcv:∀ m,convL m cap=cap) (p:Ev→Bool) (l:List Ev) (n:Nat) (hn:n=l.length) (hl:l.length≤9223372036854775807) (hp:∀ x∈l,Den Tryz.prog g (.agg (evC x)::cap) (·=.s (.bool (p x)))) :DenM Tryz.prog 62 [.own E0 6 0 n,.fn g cap] 6 ((l.map evC)) (fun r ys=>r=.own E0 6 0 (l.filter fun x=>!p x).length∧ys=((l.filter fun x=>!p x).map evC)):=by
 subst hn
 have hq0:∀ j,((l.take j).filter fun x=>!p x).length≤j:=fun j=>jN _ l j
 have hq1:∀ j,((l.take j).filter fun x=>!p x).length≤l.length:=fun j=>iM _ l j
 refine iA Tryz.func62 rfl (Nat.le_of_ble_eq_true rfl) (fun w0 x0 A hf=>?_)
 refine aC (fun K1 hK1=>(aB (aH rfl (bR) (aD (hK1 _ (aC (fun K2 hK2=>(aB (aE aA 2 rfl (aM hf rfl (tI rfl rfl (by show [AV.conv _ _,AV.fn g (convL _ cap)]=_; rw[hcv,cE (g:=E0) rfl (by simp)]) aNl (aCh hent hcl p l hl hp) rfl) ?_))))))))))
 refine aE aA 1 rfl (aD (hK2 _ (aC (fun K3 hK3=>(aC (fun K4 hK4=>(aB (aE aA 2 rfl (aD (hK4 _ (aO rfl (fun hc1=>?_) (fun hc1=>?_))))))))))))
 ·
  simp only[bs] at hc1
  refine aC (fun K5 hK5=>(aB (aE aA 2 rfl (aD (hK5 _ (aN ?_))))))
  have hno:nQ p l=-1:=by simpa using hc1
  rcases dW p l with ⟨_,hn⟩ | ⟨k,hk,e,_⟩
  · exact⟨_,.own E0 6 0 l.length,(l.map evC),Le.refl _,rfl,rfl,by rw[hH p l hn],by rw[hH p l hn]⟩
  · exfalso; omega
 ·
  simp only[bs] at hc1
  refine aP (hK3 _ (aC (fun K6 hK6=>(aC (fun K7 hK7=>(aB ?_))))))
  rcases dW p l with ⟨e0,_⟩ | ⟨k0,hk0,ek0,hpk0,hbef⟩
  · exact absurd e0 (by simpa using hc1)
  have hst:=nY (fun x=>!p x) l k0 hk0 (fun j hj hjk=>by simp [hbef j hj hjk]) (by simp [hpk0])
  rw[ek0]
  refine aE aA 1 rfl ?_
  refine aH rfl (bS rfl rfl (by omega) (by omega)) ?_
  refine aE aA 1 rfl (aD (hK7 _ (aR (bY (ι:=Nat) (fun j=>⟨42,[(0,.own E0 6 0 l.length),(1,.fn g cap),(5,.s (.int .i64 (((l.take j).filter fun x=>!p x).length:Nat))),(6,.s (.int .i64 (j:Nat)))],[(E0,.buf 6 ((kA (fun x=>!p x) l j).map evC))]⟩) (fun j=>j≤l.length) (fun j=>l.length - j) (k0+1) ?_ ?_ ?_))))
  · exact hk0
  · rw[hst.1,hst.2]; exact lE ⟨rfl,rfl,rfl,rfl,trivial⟩
  ·
   rintro j hC
   let q:=fun x=>!p x
   have hle:((l.take j).filter q).length≤j:=hq0 j
   have hle2:((l.take j).filter fun x=>!p x).length≤j:=hq0 j
   refine aC (fun K8 hK8=>(aC (fun K9 hK9=>(aB (aE aA 4 rfl (aD (hK9 _ (aO rfl (fun hc2=>?_) (fun hc2=>?_)))))))))
   ·
    simp only[bs] at hc2
    refine aP (hK8 _ (aC (fun K10 hK10=>(aR (aC (fun K11 hK11=>(aB (aE aA 2 rfl ?_))))))))
    refine aH rfl (cN rfl rfl gY dC (by omega)) ?_
    refine aH rfl (cD rfl iW dC rfl (vW (c:=6) (k:=j) (enc:=evC) (by omega) (by rw[fH]; omega) rfl) (cs':=evC l[j]) (by rw[sK (c:=6) (k:=j) (enc:=evC) (by omega) (by rw[fH]; omega) rfl,sU q l j j (by omega) hle])) ?_
    refine cF hf rfl jO rfl dC rfl rfl rfl rfl (lf rfl) (aD (hK11 _ (aC (fun K12 hK12=>(aB (aE aA 2 rfl (aM hf rfl (aQ rfl rfl hent (by rw[hJ,hcl]; rfl) (hp _ (List.getElem_mem _))) ?_)))))))
    refine aE aA 1 rfl (aD (hK12 _ (aO rfl (fun hc3=>?_) (fun hc3=>?_))))
    ·
     simp only[bs] at hc3
     refine aC (fun K13 hK13=>(aB (aE aA 3 rfl ?_)))
     refine aH rfl (cN rfl rfl gY dC (by omega)) ?_
     refine aZ hf rfl rfl dC rfl rfl (by simp [evC,AV.cells,AV.one,Value.oneCell',splice]) (by simp [evC,AV.cells,AV.leaf,Value.oneCell',splice]) (iK (c:=6) (k:=((l.take j).filter fun x=>!p x).length) (enc:=evC) (v:=l[j]) (by omega) (by rw[fH]; omega) rfl (Nat.le_refl _)) ?_
     refine aD (hK13 _ (aB ?_))
     rw[mJ (fun x=>!p x) l j (by omega) (by simp_all)]
     refine aE aA 1 rfl ?_
     refine aH rfl (bS rfl rfl (by omega) (by omega)) ?_
     rw[pD (fun x=>!p x) l j (by omega) (by simp_all)]
     refine aE aA 1 rfl ?_
     refine bL ?_
     refine hK10 _ (aB (aE aA 1 rfl ?_))
     refine aH rfl (bS rfl rfl (by omega) (by omega)) ?_
     refine aE aA 1 rfl (aD ?_)
     exact⟨j+1,(by omega),by omega,cW rfl⟩
    ·
     simp only[bs] at hc3
     rw[mK (fun x=>!p x) l j (by omega) (by simp_all),pE (fun x=>!p x) l j (by omega) (by simp_all)]
     refine aP (hK10 _ (aB (aE aA 1 rfl ?_)))
     refine aH rfl (bS rfl rfl (by omega) (by omega)) ?_
     refine aE aA 1 rfl (aD ?_)
     exact⟨j+1,(by omega),by omega,cW rfl⟩
   ·
    simp only[bs] at hc2
    refine bF (hK6 _ (aC (fun K14 hK14=>(aB (aE aA 2 rfl ?_)))))
    refine aH rfl (fL rfl gY dC rfl rfl (by omega) (by omega)) ?_
    refine xZ hf dE jO (by simp [Value.oneCell']) rfl rfl ?_
    refine aD (hK14 _ (aC (fun K15 hK15=>(aB (aE aA 2 rfl ?_)))))
    refine aH rfl (fL rfl gY dC rfl rfl (by omega) (by omega)) ?_
    refine aE aA 1 rfl (aD (hK15 _ (aN ?_)))
    have hjl:l.length≤j:=by omega
    have he:=qX (fun x=>!p x) l j hjl
    refine⟨_,_,_,Le.refl _,rfl,rfl,?_,?_⟩
    · rw[List.take_of_length_le hjl]; rfl
    · rw[List.take_of_length_le hjl,Nat.zero_add,Int.toNat_natCast,← List.map_take,he]
theorem aSd (e:Ev) (u:ByteArray) :Den Tryz.prog 65 [.agg (evC e),.s (.string u)]  (·=.s (.bool (lH u e))):=by
 refine aY Tryz.func65 rfl (Nat.le_of_ble_eq_true rfl) (fun w0 A hf=>(aC (fun K1 hK1=>(aB (aM hf rfl (cT rfl rfl (lf rfl)) (aE aA 1 rfl (aD (hK1 _ (aC (fun K2 hK2=>(aB (aE aA 5 rfl (bC rfl rfl rfl (fun hg1=>?_) (fun hg1=>?_))))))))))))))
 ·
  simp only[bs] at hg1
  refine aH rfl (bQ rfl uZ cU rfl) ?_
  refine aE aA 5 rfl (aD (hK2 _ (aN ?_)))
  refine⟨_,rfl,?_⟩
  refine aS ?_
  rw[Bool.eq_iff_iff]
  simp_all[lH,toList_inj]
 ·
  simp only[bs] at hg1
  refine aE aA 5 rfl (aD (hK2 _ (aN ?_)))
  refine⟨_,rfl,?_⟩
  refine aS ?_
  rw[Bool.eq_iff_iff]
  simp_all[lH,toList_inj]
theorem aB4 (e:Ev) (u:ByteArray) :Den Tryz.prog 64 [.agg (evC e),.adr [.s (.string u)]]  (·=.s (.bool (lH u e))):=by
 refine aY Tryz.func64 rfl (Nat.le_of_ble_eq_true rfl) (fun w0 A hf=>(aC (fun K1 hK1=>(aB (aM hf rfl (cT rfl rfl (lf rfl)) (aE aA 1 rfl (aD (hK1 _ (aC (fun K2 hK2=>(aB (aE aA 2 rfl (aM hf rfl (aQ rfl rfl aPn rfl (aSd e u)) (aE aA 1 rfl (aD ?_)))))))))))))))
 refine hK2 _ (aN ?_)
 refine⟨_,rfl,?_⟩
 rfl
theorem kJ (l:List Ev) (u:ByteArray) (hl:l.length≤1000) :Den Tryz.prog 26 [.s (.string u),.sl 6 (l.map evC)]  (·=.sl 6 ((aW u l).map evC)):=by
 refine aY Tryz.func26 rfl (Nat.le_of_ble_eq_true rfl) (fun w0 A hf=>(aC (fun K1 hK1=>(aB (aM hf rfl (cT rfl rfl (lf rfl)) (aH rfl (bR) (aD (hK1 _ (aC (fun K2 hK2=>(aB (aE aA 1 rfl (iP hf rfl rfl rfl rfl rfl aPp rfl (aK8 l (by omega)) ?_)))))))))))))
 rintro _ rfl
 refine aH rfl (jB rfl) (iD hf 6 rfl rfl rfl rfl rfl aPq (aAs aPo rfl (fun _=>rfl) (lH u) l _ (by rw[List.length_map]) (by omega) (fun x _=>aB4 x u)) ?_)
 rintro r zs ⟨rfl,rfl⟩
 refine aE aA 1 rfl (aD (hK2 _ (aN ?_)))
 refine⟨_,rfl,?_⟩
 exact cE (g:=6) rfl (by rw[List.length_map]; rfl)
theorem lO {u:ByteArray} {l:List Ev} {k:Nat} (hk:k<l.length):aW u (l.take (k+1))=aW u (l.take k)++(if lH u l[k]=false then [l[k]] else []):=by
  rw[aW,List.take_succ_eq_append_getElem hk,List.filter_append]
  show _++List.filter _ [l[k]]=_
  cases h:lH u l[k] with
  | false=>rw[List.filter_cons_of_pos (by rw[h]; rfl),if_pos rfl]; rfl
  | true=>rw[List.filter_cons_of_neg (by rw[h]; decide),if_neg (by decide)]; rfl
theorem zY (l:List Ev) (u:ByteArray) (hl:l.length≤1000) :Den Tryz.prog 27 [.s (.string u),.sl 6 (l.map evC)]  (·=.sl 6 ((aW u l).map evC)):=by
 refine aY Tryz.func27 rfl (Nat.le_of_ble_eq_true rfl) (fun w0 A hf=>(aC (fun K1 hK1=>(aB (aH rfl (bR) (aD (hK1 _ (aC (fun K2 hK2=>(aB (jT hf 6 rfl rfl rfl (aD (hK2 _ (aC (fun K3 hK3=>(aC (fun K4 hK4=>?_)))))))))))))))))
 refine aB (aE aA 1 rfl (aD (hK4 _ (aR (bY (ι:=Nat) (fun k=>⟨37,[(0,.s (.string u)),(1,.sl 6 (l.map evC)),(5,.own 5 6 0 (aW u (l.take k)).length),(6,.s (.int .i64 (k:Nat)))],[(5,.buf 6 ((aW u (l.take k)).map evC))]⟩) (fun k=>k≤l.length) (fun k=>l.length - k) 0 ?_ ?_ ?_)))))
 · exact Nat.zero_le _
 · exact cJ ⟨rfl,rfl,rfl,rfl,trivial⟩ rfl
 ·
  rintro k hC
  refine aC (fun K5 hK5=>(aC (fun K6 hK6=>(aB (aE aA 4 rfl (aD (hK6 _ (aO rfl (fun hc1=>?_) (fun hc1=>?_)))))))))
  ·
   simp only[bs] at hc1
   have hk:k<l.length:=by omega
   have hwl:=List.length_filter_le (fun e=>!lH u e) (l.take k)
   have htl:(l.take k).length=k:=by rw[List.length_take]; omega
   have hwl2:(aW u (l.take k)).length≤k:=by unfold aW; omega
   refine aP (hK5 _ (aC (fun K7 hK7=>(aR (aC (fun K8 hK8=>(aB (aE aA 2 rfl ?_))))))))
   refine aH rfl (bA rfl rfl oC lM (by first | exact ixm (by omega) | assumption | exact⟨by decide,rfl⟩)) ?_
   refine aE aA 5 rfl (bC rfl rfl rfl (fun hg2=>?_) (fun hg2=>?_))
   ·
    simp only[bs] at hg2
    refine aH rfl (fD rfl) (aE aA 1 rfl (bP rfl rfl rfl ?_))
    refine aH rfl (bA rfl rfl oC lM (by first | exact ixm (by omega) | assumption | exact⟨by decide,rfl⟩)) ?_
    refine aE aA 5 rfl (aD (hK8 _ (aO rfl (fun hc3=>?_) (fun hc3=>?_))))
    ·
     simp only[bs] at hc3
     have h0:lH u l[k]=false:=by simp_all[lH,toList_inj]
     refine aB (aE aA 3 rfl ?_)
     refine aH rfl (bA rfl rfl oC lM (by first | exact ixm (by omega) | assumption | exact⟨by decide,rfl⟩)) ?_
     refine aE aA 1 rfl (aM hf rfl (bD qA rfl rfl rfl rfl (l2 rfl)) (bZ hf rfl qA rfl rfl rfl (.inl rfl) (by rw[List.length_map]) rfl (by first | rfl | simp [eB,bV]) (by first | (simp only[maxLen,List.length_map,List.length_append,List.length_cons,List.length_nil]; omega) | (simp [maxLen] <;> omega)) (by first | (simp only[List.length_map,List.length_append,List.length_cons,List.length_nil]; omega) | (simp <;> omega)) ?_))
     refine bM (dY [0,1,6,35] rfl) (aE aA 1 rfl ?_)
     refine bL ?_
     refine hK7 _ (aB (aE aA 1 rfl ?_))
     refine aH rfl (bS rfl rfl (by omega) (by omega)) ?_
     refine aE aA 1 rfl (aD ?_)
     exact⟨k+1,by omega,by omega,cJ ⟨rfl,rfl,(by rw[lO hk,if_pos h0,List.length_append]; rfl),rfl,trivial⟩ (by rw[lO hk,if_pos h0,List.map_append]; rfl)⟩
    ·
     simp only[bs] at hc3
     have h0:¬ lH u l[k]=false:=by simp_all[lH,toList_inj]
     refine aP (hK7 _ (aB (aE aA 1 rfl ?_)))
     refine aH rfl (bS rfl rfl (by omega) (by omega)) ?_
     refine aE aA 1 rfl (aD ?_)
     exact⟨k+1,by omega,by omega,cJ ⟨rfl,rfl,(by rw[lO hk,if_neg h0,List.append_nil]; rfl),rfl,trivial⟩ (by rw[lO hk,if_neg h0,List.append_nil])⟩
   ·
    simp only[bs] at hg2
    refine aE aA 7 rfl (aD (hK8 _ (bJ rfl (aP (hK7 _ (aB (aE aA 1 rfl ?_)))))))
    refine aH rfl (bS rfl rfl (by omega) (by omega)) ?_
    refine aE aA 1 rfl (aD ?_)
    (  have h0:¬ lH u l[k]=false:=by simp_all[lH,toList_inj]
       exact⟨k+1,by omega,by omega,cJ ⟨rfl,rfl,(by rw[lO hk,if_neg h0,List.append_nil]; rfl),rfl,trivial⟩ (by rw[lO hk,if_neg h0,List.append_nil])⟩)
  ·
   simp only[bs] at hc1
   refine bF (hK3 _ (aC (fun K9 hK9=>(aB (aE aA 2 rfl (aD (hK9 _ (aN ?_))))))))
   refine⟨_,rfl,?_⟩
   refine(cE (g:=5) rfl (by rw[List.length_map])).trans ?_
   rw[List.take_of_length_le (by omega)]
theorem aKj (a b:Ev) :Den Tryz.prog 56 [.agg (evC a),.agg (evC b)]  (·=.s (.int .i64 (lX a.at' b.at'))):=by
 refine aY Tryz.func56 rfl (Nat.le_of_ble_eq_true rfl) (fun w0 A hf=>(aC (fun K1 hK1=>(aB (aM hf rfl (cT rfl rfl (lf rfl)) (aM hf rfl (cT rfl rfl (lf rfl)) (aE aA 1 rfl (aD (hK1 _ (aC (fun K2 hK2=>(aB (aE aA 4 rfl (aM hf rfl (aQ rfl rfl oO rfl (jU a.at' b.at')) (aE aA 1 rfl ?_)))))))))))))))
 refine aD (hK2 _ (aN ?_))
 refine⟨_,rfl,?_⟩
 rfl
theorem aAh {x:Ev} {l:List Ev} {k:Nat} (hk:k<l.length):sO (l.take (k+1)) x=if (sO (l.take k) x).at'<l[k].at' then l[k] else sO (l.take k) x:=by
  rw[List.take_succ_eq_append_getElem hk]
  have:∀ (a:List Ev) (m y:Ev),sO (a++[y]) m=if (sO a m).at'<y.at' then y else sO a m:=fun a=>by
    induction a with
    | nil=>intro m y; rfl
    | cons z a ih=>intro m y; exact ih _ y
  exact this _ _ _
theorem aLk {a b:Int}:0<lX a b↔b<a:=by unfold lX; split <;> (try split) <;> omega
theorem aR2 (x:Ev) (r:List Ev) (hl:r.length≤1000) :Den Tryz.prog 55 [.sl 6 ((x::r).map evC),.fn 56 []]  (·=.agg (evC (sO r x))):=by
 have hlx:((x::r).map evC).length=r.length+1:=by simp
 refine aY Tryz.func55 rfl (Nat.le_of_ble_eq_true rfl) (fun w0 A hf=>(aC (fun K1 hK1=>(aB (aX hf rfl rfl rfl jO (aD (hK1 _ (aC (fun K2 hK2=>(aC (fun K3 hK3=>(aB (aE aA 3 rfl (aD (hK3 _ (aO rfl (fun hc1=>?_) (fun hc1=>?_)))))))))))))))))
 ·
  simp only[bs] at hc1
  omega
 ·
  simp only[bs] at hc1
  refine aP (hK2 _ (aC (fun K4 hK4=>(aB (aE aA 1 rfl ?_)))))
  refine aH rfl (bA rfl rfl gY dC (by first | exact ixm (by omega) | assumption | exact⟨by decide,rfl⟩)) ?_
  refine aE aA 1 rfl (aX hf rfl rfl rfl jO (aZ hf rfl rfl dC rfl rfl (l1 rfl) (l4 rfl) rfl (aD (hK4 _ (aC (fun K5 hK5=>(aC (fun K6 hK6=>(aB (aE aA 1 rfl (aD (hK6 _ (aR (bY (ι:=Nat) (fun k=>⟨33,[(0,.sl 6 ((x::r).map evC)),(1,.fn 56 []),(4,.ref 4 0 0 0),(5,.ref 5 0 0 0),(6,.s (.int .i64 ((k+1:Nat))))],[(5,.box (evC (sO (r.take k) x))),(4,.box (evC ev0))]⟩) (fun k=>k≤r.length) (fun k=>r.length - k) 0 ?_ ?_ ?_))))))))))))))
  · exact Nat.zero_le _
  · exact cJ ⟨rfl,rfl,rfl,rfl,rfl,trivial⟩ rfl
  ·
   rintro k hC
   refine aC (fun K7 hK7=>(aC (fun K8 hK8=>(aB (aE aA 4 rfl (aD (hK8 _ (aO rfl (fun hc2=>?_) (fun hc2=>?_)))))))))
   ·
    simp only[bs] at hc2
    have hk:k<r.length:=by omega
    have hk1:k+1<(x::r).length:=by simp only[List.length_cons]; omega
    refine aP (hK7 _ (aC (fun K9 hK9=>(aR (aC (fun K10 hK10=>(dM hf bN (by kernel_rfl) rfl (bG aA 3 rfl (bX [(21,_),(22,_)] rfl rfl ⟨⟨rfl,rfl⟩,⟨rfl,rfl⟩,trivial⟩ rfl (bA rfl rfl gY dC (aT9 hk)) (bG aA 2 rfl (cC [(20,_),(24,_),(25,_)] rfl rfl ⟨⟨rfl,rfl⟩,⟨rfl,rfl⟩,⟨rfl,rfl⟩,trivial⟩ rfl (aQ rfl rfl aPt rfl (aKj r[k] (sO (r.take k) x))) (bG aA 1 rfl (dQ [0,1,4,5,6,27] rfl rfl rfl (hK10 _ ?_))))))))))))))
    refine aO rfl (fun hc3=>?_) (fun hc3=>?_)
    ·
     simp only[bs] at hc3
     refine aB (aE aA 2 rfl (aH rfl (bA rfl rfl gY dC (aT9 hk)) (aE aA 1 rfl (aZ hf rfl rfl dC rfl rfl (l1 rfl) (l4 rfl) rfl ?_))))
     refine bL ?_
     refine hK9 _ (aB (aE aA 1 rfl ?_))
     refine aH rfl (bS rfl rfl (by omega) (by omega)) ?_
     refine aE aA 1 rfl (aD ?_)
     exact⟨k+1,by omega,by omega,cJ ⟨rfl,rfl,rfl,rfl,aU (by omega),trivial⟩ (by rw[aAh hk,if_pos (aLk.1 (by assumption))]; rfl)⟩
    ·
     simp only[bs] at hc3
     refine aP (hK9 _ (aB (aE aA 1 rfl ?_)))
     refine aH rfl (bS rfl rfl (by omega) (by omega)) ?_
     refine aE aA 1 rfl (aD ?_)
     exact⟨k+1,by omega,by omega,cJ ⟨rfl,rfl,rfl,rfl,aU (by omega),trivial⟩ (by rw[aAh hk,if_neg (fun h=>by have:=aLk.2 h; omega)])⟩
   ·
    simp only[bs] at hc2
    refine bF (hK5 _ (aC (fun K11 hK11=>(aB (aE aA 1 rfl (aZ hf rfl rfl dC rfl rfl (l1 rfl) (l4 rfl) rfl (aD (hK11 _ (aN ?_)))))))))
    refine⟨_,rfl,?_⟩
    show AV.agg (evC _)=_
    rw[List.take_of_length_le (by omega)]
end Go.Proofs.YtijnkglkchhomaaGreat
set_option linter.unusedVariables false
set_option linter.unusedSimpArgs false
namespace Go.Proofs.YtijnkglkchhomaaGreat
open Go Go.Abs
theorem aAb (l:List Ev) (hl:l.length*64+64≤140737488355328) :Den Tryz.prog 23 [.sl 6 (l.map evC)]  (·=.sl 6 (l.map evC)):=by
 refine aY Tryz.func23 rfl (Nat.le_of_ble_eq_true rfl) (fun w0 A hf=>(aC (fun K1 hK1=>(aB (aH rfl (bR) (aD (hK1 _ (aC (fun K2 hK2=>(aB (jT hf 6 rfl rfl rfl (aD (hK2 _ (aC (fun K3 hK3=>(aC (fun K4 hK4=>?_)))))))))))))))))
 refine aB (aE aA 3 rfl (aD (hK4 _ (aR (bY (ι:=Nat) (fun k=>⟨18,[(3,.own 3 6 0 (l.take k).length),(6,.sl 6 (l.map evC)),(7,.s (.int .i64 ((l.map evC).length:Nat))),(8,.s (.int .i64 (k:Nat)))],[(3,.buf 6 ((l.take k).map evC))]⟩) (fun k=>k≤l.length) (fun k=>l.length - k) 0 ?_ ?_ ?_)))))
 · exact Nat.zero_le _
 · exact cW rfl
 ·
  rintro k hC
  refine aC (fun K5 hK5=>(aB (aE aA 1 rfl (aD (hK5 _ (aC (fun K6 hK6=>(aO rfl (fun hc1=>?_) (fun hc1=>?_)))))))))
  ·
   simp only[bs] at hc1
   refine aP (hK6 _ (aC (fun K7 hK7=>(aR (aC (fun K8 hK8=>(aB ?_)))))))
   refine aH rfl (bA rfl rfl gY dC (by first | exact ixm (by omega) | assumption | exact⟨by decide,rfl⟩)) ?_
   refine aE aA 1 rfl (cF hf rfl jO rfl dC rfl rfl rfl rfl (lf rfl) (aD (hK8 _ (aB ?_))))
   have htl:(l.take k).length=k:=by rw[List.length_take]; omega
   refine aE aA 2 rfl (aM hf rfl (bD qA rfl rfl rfl rfl (l2 rfl)) (bZ hf rfl qA rfl rfl rfl (.inl rfl) (by rw[List.length_map]) rfl (by first | rfl | simp [eB,bV]) (by first | (simp only[maxLen,List.length_map,List.length_append,List.length_cons,List.length_nil]; omega) | (simp [maxLen] <;> omega)) (by first | (simp only[List.length_map,List.length_append,List.length_cons,List.length_nil]; omega) | (simp <;> omega)) ?_))
   refine bM (dY [6,7,8,15] rfl) (aE aA 1 rfl ?_)
   refine bL ?_
   refine hK7 _ (aB ?_)
   refine aH rfl (bS rfl rfl (by omega) (by omega)) ?_
   refine aE aA 1 rfl (aD ?_)
   exact⟨k+1,by omega,by omega,cJ ⟨(by rw[iH l k (by omega)]; rfl),rfl,rfl,rfl,trivial⟩ (by rw[jK l evC k (by omega)]; rfl)⟩
  ·
   simp only[bs] at hc1
   refine bF (hK3 _ (aC (fun K9 hK9=>(aB (aE aA 2 rfl (aD (hK9 _ (aN ?_))))))))
   refine⟨_,rfl,?_⟩
   refine(cE (g:=3) rfl (by rw[List.length_map])).trans ?_
   rw[List.take_of_length_le (by omega)]
theorem aUq (e:Ev):aeqL [.int .i64,.int .i64,.str,.str,.int .i64,.int .i64] (evC e) (evC e)=some (true,[],[]):=by
  refine Eq.trans (show _=some ((e.kind == e.kind&&(e.at' == e.at'&&(e.user.toList == e.user.toList&&(e.other.toList == e.other.toList&&(e.n == e.n&&(e.st == e.st&&true)))))),[],[]) from rfl) ?_
  simp only[beq_self_eq_true,Bool.and_true]
theorem zS (l:List Ev) (hl:l.length*64+64≤140737488355328) :Den Tryz.prog 22 [.sl 6 (l.map evC),.sl 6 (l.map evC)]  (·=.s (.bool true)):=by
 refine aY Tryz.func22 rfl (Nat.le_of_ble_eq_true rfl) (fun w0 A hf=>(aC (fun K1 hK1=>(aB (aE aA 1 rfl (aD (hK1 _ (aC (fun K2 hK2=>(aC (fun K3 hK3=>(aB (aE aA 4 rfl (aH rfl (dD rfl rfl (yP rfl)) (aD (hK3 _ ?_))))))))))))))))
 refine bJ rfl (aP (hK2 _ (aC (fun K4 hK4=>(aC (fun K5 hK5=>(aB (aE aA 1 rfl (aD (hK5 _ (aR (bY (ι:=Nat) (fun k=>⟨26,[(0,.sl 6 (l.map evC)),(1,.sl 6 (l.map evC)),(5,.s (.int .i64 (k:Nat)))],[]⟩) (fun k=>k≤l.length) (fun k=>l.length - k) 0 ?_ ?_ ?_))))))))))))
 · exact Nat.zero_le _
 · exact cJ ⟨rfl,rfl,rfl,trivial⟩ rfl
 ·
  rintro k hC
  refine aC (fun K6 hK6=>(aC (fun K7 hK7=>(aB (aE aA 4 rfl (aD (hK7 _ (aO rfl (fun hc2=>?_) (fun hc2=>?_)))))))))
  ·
   simp only[bs] at hc2
   have hk:k<l.length:=by omega
   refine aP (hK6 _ (aC (fun K8 hK8=>(aR (aC (fun K9 hK9=>(dM hf bN (by kernel_rfl) rfl (bG aA 2 rfl ?_))))))))
   refine bX [(17,_),(18,_)] rfl rfl ⟨⟨rfl,rfl⟩,⟨rfl,rfl⟩,trivial⟩ rfl (bA rfl rfl oC lM (by first | exact ixm (by omega) | assumption | exact⟨by decide,rfl⟩)) ?_
   refine bG aA 3 rfl ?_
   refine bX [(21,_),(22,_)] rfl rfl ⟨⟨rfl,rfl⟩,⟨rfl,rfl⟩,trivial⟩ rfl (bA rfl rfl oC lM (by first | exact ixm (by omega) | assumption | exact⟨by decide,rfl⟩)) ?_
   refine bG aA 1 rfl (bX [(20,_),(24,_)] rfl rfl ⟨⟨rfl,rfl⟩,⟨rfl,rfl⟩,trivial⟩ rfl (pP rfl rfl aU2 (aUq l[k])) (dQ [0,1,5,25] rfl rfl rfl (hK9 _ (bJ rfl (aP (hK8 _ (aB (aE aA 1 rfl ?_))))))))
   refine aH rfl (bS rfl rfl (by omega) (by omega)) ?_
   refine aE aA 1 rfl (aD ?_)
   exact⟨k+1,by omega,by omega,cJ ⟨rfl,rfl,aU (by omega),trivial⟩ rfl⟩
  ·
   simp only[bs] at hc2
   refine bF (hK4 _ (aC (fun K10 hK10=>(aB (aE aA 1 rfl (aD (hK10 _ (aN ?_))))))))
   refine⟨_,rfl,?_⟩
   rfl
end Go.Proofs.YtijnkglkchhomaaGreat
