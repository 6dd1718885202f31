import Derived.WalkKit
import Derived.WalkSpells
import Derived.WalkLawsBesides
import Derived.Deep.LoopGhost
import Derived.ChangeKeysEq
import Derived.Still
import Derived.Lib.AppendZeros
import Derived.Laws.StructEq
import Derived.OpenShut
import Derived.Scope
import Derived.Shelf.SlSortCmp.Kit1
import Derived.Shelf.SlSortCmp.InsertionK
import Derived.Lib.SlicesCompact
import Derived.ProofKit
import Derived.ChangeSame
import Derived.Carry
import Derived.SliceStrings
import Derived.ChangeMaps5
import Derived.Deep.Slices
import Derived.Test.YtijnkglkchhomaaGreatRows
import Derived.Shelf.Abstract
import Derived.Deep.RegionLaw
import Derived.Lib.Walk
import Derived.Lib.Overlaps
import Derived.Lib.AppendZerosOnto
import Derived.Laws.CopyRow
import Derived.Shelf.SlSortCmp.WholeK
import Derived.Shelf.SlSortCmp.Whole1
import Derived.Shelf.SlSortCmp.NoneTotal
import Derived.Test.YtijnkglkchhomaaGreatK1
import Derived.Test.YtijnkglkchhomaaGreatK2
import Derived.Test.YtijnkglkchhomaaGreatK3
import Derived.Test.YtijnkglkchhomaaGreatK4
import Derived.Test.YtijnkglkchhomaaGreatK5
set_option maxRecDepth 20000
set_option maxHeartbeats 16000000
set_option linter.unusedVariables false
set_option linter.unusedSimpArgs false
namespace Go.Proofs.YtijnkglkchhomaaGreat
open Go Go.Abs
theorem dH (l:List Ev) (hl:l.length*64+64≤140737488355328) :Den Tryz.prog 14 [.sl 6 (l.map evC)]  (·=.sl 6 (l.map evC)):=by
 refine aY Tryz.func14 rfl (Nat.le_of_ble_eq_true rfl) (fun w0 A hf=>(aC (fun K1 hK1=>(aB (aH rfl (bR) (aD (hK1 _ (aC (fun K2 hK2=>(aB (jT hf 6 rfl rfl rfl (aD (hK2 _ (aC (fun K3 hK3=>(aC (fun K4 hK4=>?_)))))))))))))))))
 refine aB (aE aA 3 rfl (aD (hK4 _ (aR (bY (ι:=Nat) (fun k=>⟨18,[(3,.own 3 6 0 (l.take k).length),(6,.sl 6 (l.map evC)),(7,.s (.int .i64 ((l.map evC).length:Nat))),(8,.s (.int .i64 (k:Nat)))],[(3,.buf 6 ((l.take k).map evC))]⟩) (fun k=>k≤l.length) (fun k=>l.length - k) 0 ?_ ?_ ?_)))))
 · exact Nat.zero_le _
 · exact cW rfl
 ·
  rintro k hC
  refine aC (fun K5 hK5=>(aB (aE aA 1 rfl (aD (hK5 _ (aC (fun K6 hK6=>(aO rfl (fun hc1=>?_) (fun hc1=>?_)))))))))
  ·
   simp only[bs] at hc1
   refine aP (hK6 _ (aC (fun K7 hK7=>(aR (aC (fun K8 hK8=>(aB ?_)))))))
   refine aH rfl (bA rfl rfl oC lM (by first | exact ixm (by omega) | assumption | exact⟨by decide,rfl⟩)) ?_
   refine aE aA 1 rfl (cF hf rfl aLu rfl lM rfl rfl rfl rfl (lf rfl) (aD (hK8 _ (aB ?_))))
   have htl:(l.take k).length=k:=by rw[List.length_take]; omega
   refine aE aA 2 rfl (aM hf rfl (bD dE rfl rfl rfl rfl (l2 rfl)) (bZ hf rfl dE rfl rfl rfl (.inl rfl) (by rw[List.length_map]) rfl (by first | rfl | simp [eB,bV]) (by first | (simp only[maxLen,List.length_map,List.length_append,List.length_cons,List.length_nil]; omega) | (simp [maxLen] <;> omega)) (by first | (simp only[List.length_map,List.length_append,List.length_cons,List.length_nil]; omega) | (simp <;> omega)) ?_))
   refine bM (dY [6,7,8,15] rfl) (aE aA 1 rfl ?_)
   refine bL ?_
   refine hK7 _ (aB ?_)
   refine aH rfl (bS rfl rfl (by omega) (by omega)) ?_
   refine aE aA 1 rfl (aD ?_)
   exact⟨k+1,by omega,by omega,cJ ⟨(by rw[iH l k (by omega)]; rfl),rfl,rfl,rfl,trivial⟩ (by rw[jK l evC k (by omega)]; rfl)⟩
  ·
   simp only[bs] at hc1
   refine bF (hK3 _ (aC (fun K9 hK9=>(aB (aE aA 2 rfl (aD (hK9 _ (aN ?_))))))))
   refine⟨_,rfl,?_⟩
   refine(cE (g:=3) rfl (by rw[List.length_map])).trans ?_
   rw[List.take_of_length_le (by omega)]
theorem aRt (s:Sta) (hz:SzS 140737488353280 s) :Den Tryz.prog 16 [.agg (aL s)]  (·=.agg (aL s)):=by
 have z1:=hz.o
 have z2:=hz.u
 have z3:=hz.b
 have z4:=hz.t
 have hlm:(s.usr.map usC).length=s.usr.length:=List.length_map _
 have hlt:(s.tmb.map tmC).length=s.tmb.length:=List.length_map _
 refine aY Tryz.func16 rfl (Nat.le_of_ble_eq_true rfl) (fun w0 A hf=>(aC (fun K1 hK1=>(aB (aM hf rfl (cT rfl rfl (lf rfl)) (aX hf rfl rfl rfl bB (aD (hK1 _ (aC (fun K2 hK2=>(dJ bN ?_)))))))))))
 refine cA (listed':=#[true,false,false,false,false,false,false,false,false,false,false,false,false]) 0 rfl (by kernel_rfl) (by kernel_rfl) (by kernel_rfl) rfl (fun _ _ h=>h) (iG rfl aBn cI rfl) ?_
 refine cA (listed':=#[true,false,true,false,false,false,false,false,false,false,false,false,false]) 2 rfl (by kernel_rfl) (by kernel_rfl) (by kernel_rfl) rfl (fun _ _ h=>h) (iG rfl rV cI rfl) ?_
 refine cA (listed':=#[true,false,true,false,true,false,false,false,false,false,false,false,false]) 4 rfl (by kernel_rfl) (by kernel_rfl) (by kernel_rfl) rfl (fun _ _ h=>h) (iG rfl aBm tA rfl) ?_
 refine cA (listed':=#[true,false,true,false,true,false,false,true,false,false,false,false,false]) 7 rfl (by kernel_rfl) (by kernel_rfl) (by kernel_rfl) rfl (fun _ _ h=>h) (iG rfl vC sZ rfl) ?_
 refine aK 0 #[true,true,true,true,true,true,true,true,true,true,true,true,true] ⟨53,[(1,.adr (aL s)),(2,.ref 2 0 0 0),(3,.ref 3 0 0 0)],[(3,.box [.s (.int .i64 s.now),.s (.int .i64 s.hor),.sl 4 (s.opn.map seC),.s (.slice none 0 0),.sl 4 (s.sub.map enC),.s (.slice none 0 0)]),(2,.box [.s (.int .i64 0),.s (.int .i64 0),.s (.slice none 0 0),.s (.slice none 0 0),.s (.slice none 0 0),.s (.slice none 0 0)])]⟩ ?_ (fun hD0=>?_)
 ·
  refine dB (by kernel_rfl) ?_
  refine hK2 _ (aC (fun K3 hK3=>(aC (fun K4 hK4=>(aB (rS hf 3 223 2 5 rfl rfl rfl rfl ?_))))))
  refine rS hf 3 222 2 3 rfl rfl rfl rfl ?_
  refine aE aA 4 rfl (aD (hK4 _ (aR (bY (ι:=Nat) (fun k=>⟨53,[(1,.adr (aL s)),(2,.ref 2 0 0 0),(3,.ref 3 0 0 0),(20,.sl 2 (s.usr.map usC)),(21,.s (.int .i64 ((s.usr.map usC).length:Nat))),(22,.s (.int .i64 (k:Nat)))],[(222,.buf 2 ((s.usr.take k).map usC)),(223,.buf 2 []),(3,.box [.s (.int .i64 s.now),.s (.int .i64 s.hor),.sl 4 (s.opn.map seC),.own 222 2 0 (s.usr.take k).length,.sl 4 (s.sub.map enC),.own 223 2 0 0]),(2,.box [.s (.int .i64 0),.s (.int .i64 0),.s (.slice none 0 0),.s (.slice none 0 0),.s (.slice none 0 0),.s (.slice none 0 0)])]⟩) (fun k=>k≤s.usr.length) (fun k=>s.usr.length - k) 0 ?_ ?_ ?_))))
  · exact Nat.zero_le _
  · exact cJ ⟨rfl,rfl,rfl,rfl,rfl,rfl,trivial⟩ rfl
  ·
   rintro k hC
   refine aC (fun K5 hK5=>(aB (aE aA 1 rfl (aD (hK5 _ (aC (fun K6 hK6=>(aO rfl (fun hc1=>?_) (fun hc1=>?_)))))))))
   ·
    simp only[bs] at hc1
    refine aP (hK6 _ (aC (fun K7 hK7=>(aR (aC (fun K8 hK8=>(aB ?_)))))))
    have hk:k<s.usr.length:=by omega
    have htl:(s.usr.take k).length=k:=by rw[List.length_take]; omega
    refine aH rfl (bA rfl rfl eJ eG (by first | exact ixm (by omega) | assumption | exact⟨by decide,rfl⟩)) ?_
    refine aE aA 1 rfl (cF hf rfl rB rfl eG rfl rfl rfl rfl (lf rfl) (aD (hK8 _ (iS hf (L:=#[true,true,true,true,true,true,true,true,true,false,false,false]) 9 3 bN (by kernel_rfl) rfl (by kernel_rfl) rfl ?_))))
    refine bG aA 6 rfl (cC [(31,_)] rfl rfl ⟨⟨rfl,rfl⟩,trivial⟩ rfl (aQ rfl rfl aPv rfl (aRs s.usr[k].2 (by have:=hz.y _ (List.getElem_mem hk); omega))) ?_)
    refine bX [(29,_),(32,_)] rfl rfl ⟨⟨rfl,rfl⟩,⟨rfl,rfl⟩,trivial⟩ rfl (cK rfl oN aFd (l3 rfl) rfl) (cC [(33,_)] rfl rfl ⟨⟨rfl,rfl⟩,trivial⟩ rfl (bD nP rfl rfl rfl rfl (l2 rfl)) (uR [1,2,3,20,21,22,27,34] rfl rfl rfl ?_))
    refine aG 9 [] (by kernel_rfl) ⟨?_,trivial⟩
    ·
     refine⟨_,rfl,rfl,(ao rfl (bZ hf rfl nP rfl rfl rfl (.inl rfl) (by rw[List.length_map]) rfl (by first | rfl | simp [eB,bV]) (by first | (simp only[maxLen,List.length_map,List.length_append,List.length_cons,List.length_nil]; omega) | (simp [maxLen] <;> omega)) (by first | (simp only[List.length_map,List.length_append,List.length_cons,List.length_nil]; omega) | (simp <;> omega)) ?_))⟩
     refine bM (dY [1,2,3,20,21,22,35] rfl) (aF (aG 10 [] (by kernel_rfl) ⟨?_,trivial⟩))
     ·
      refine⟨_,rfl,rfl,(ao rfl (aE aA 1 rfl (aF (aG 11 [] (by kernel_rfl) ⟨?_,trivial⟩))))⟩
      ·
       refine⟨_,rfl,rfl,(ao rfl (aZ hf rfl rfl rG rfl rfl (l1 rfl) (l4 rfl) rfl (aF (dB (by kernel_rfl) ?_))))⟩
       refine hK7 _ (aB ?_)
       refine aH rfl (bS rfl rfl (by omega) (by omega)) ?_
       refine aE aA 1 rfl (aD ?_)
       exact⟨k+1,by omega,by omega,cJ ⟨rfl,rfl,rfl,rfl,rfl,rfl,trivial⟩ (by rw[jK s.usr usC k hk,iH s.usr k hk]; rfl)⟩
   ·
    simp only[bs] at hc1
    refine bF (hK3 _ (aC (fun K9 hK9=>(aC (fun K10 hK10=>(aB (aE aA 4 rfl (aD (hK10 _ (aR (bY (ι:=Nat) (fun q=>⟨53,[(2,.ref 2 0 0 0),(3,.ref 3 0 0 0),(39,.sl 2 (s.tmb.map tmC)),(40,.s (.int .i64 ((s.tmb.map tmC).length:Nat))),(41,.s (.int .i64 (q:Nat)))],[(223,.buf 2 ((s.tmb.take q).map tmC)),(222,.buf 2 (s.usr.map usC)),(3,.box [.s (.int .i64 s.now),.s (.int .i64 s.hor),.sl 4 (s.opn.map seC),.own 222 2 0 s.usr.length,.sl 4 (s.sub.map enC),.own 223 2 0 (s.tmb.take q).length]),(2,.box [.s (.int .i64 0),.s (.int .i64 0),.s (.slice none 0 0),.s (.slice none 0 0),.s (.slice none 0 0),.s (.slice none 0 0)])]⟩) (fun q=>q≤s.tmb.length) (fun q=>s.tmb.length - q) 0 ?_ ?_ ?_)))))))))))
    · exact Nat.zero_le _
    · exact aOg ⟨rfl,rfl,rfl,rfl,rfl,trivial⟩ (fun g=>by rw[List.take_of_length_le (show s.usr.length≤k by omega)]; exact aG7 (by decide))
    ·
     rintro q hC
     refine aC (fun K11 hK11=>(aB (aE aA 1 rfl (aD (hK11 _ (aC (fun K12 hK12=>(aO rfl (fun hc2=>?_) (fun hc2=>?_)))))))))
     ·
      simp only[bs] at hc2
      refine aP (hK12 _ (aC (fun K13 hK13=>(aR (aC (fun K14 hK14=>(aB ?_)))))))
      have hq:q<s.tmb.length:=by omega
      have htl:(s.tmb.take q).length=q:=by rw[List.length_take]; omega
      refine aH rfl (bA rfl rfl kH gS (by first | exact ixm (by omega) | assumption | exact⟨by decide,rfl⟩)) ?_
      refine aE aA 1 rfl (cF hf rfl wC rfl gS rfl rfl rfl rfl (lf rfl) (aD (hK14 _ (aB (aE aA 3 rfl (aM hf rfl (bD mA rfl rfl rfl rfl (l2 rfl)) (bZ hf rfl mA rfl rfl rfl (.inl rfl) (by rw[List.length_map]) rfl (by first | rfl | simp [eB,bV]) (by first | (simp only[maxLen,List.length_map,List.length_append,List.length_cons,List.length_nil]; omega) | (simp [maxLen] <;> omega)) (by first | (simp only[List.length_map,List.length_append,List.length_cons,List.length_nil]; omega) | (simp <;> omega)) ?_)))))))
      refine bM (dY [2,3,39,40,41,49] rfl) (aE aA 1 rfl (aZ hf rfl rfl sY rfl rfl (l1 rfl) (l4 rfl) rfl ?_))
      refine bL ?_
      refine hK13 _ (aB ?_)
      refine aH rfl (bS rfl rfl (by omega) (by omega)) ?_
      refine aE aA 1 rfl (aD ?_)
      exact⟨q+1,by omega,by omega,cJ ⟨rfl,rfl,rfl,rfl,rfl,trivial⟩ (by rw[jK s.tmb tmC q hq,iH s.tmb q hq]; rfl)⟩
     ·
      simp only[bs] at hc2
      refine bF (hK9 _ (aC (fun K15 hK15=>(aB (aH rfl (cD (cs':=[.s (.int .i64 s.now),.s (.int .i64 s.hor),.sl 4 (s.opn.map seC),.own 222 2 0 s.usr.length,.sl 4 (s.sub.map enC),.own 223 2 0 (s.tmb.take q).length]) rfl pH cM rfl rfl rfl) (aZ hf rfl rfl cM rfl rfl (l1 rfl) (l4 rfl) rfl (aD (hK15 _ (aN ?_)))))))))
      refine⟨_,rfl,?_⟩
      show AV.agg [_,_,_,AV.conv _ (.own 222 2 0 s.usr.length),_,AV.conv _ (.own 223 2 0 (s.tmb.take q).length)]=_
      rw[cE (g:=222) rfl (by rw[List.length_map]),cE (g:=223) rfl (by rw[List.length_map]),List.take_of_length_le (by omega)]; rfl
 refine aK 1 #[true,true,true,true,true,true,true,true,true,true,true,true,false] ⟨53,[(1,.adr (aL s)),(2,.ref 2 0 0 0),(3,.ref 3 0 0 0),(18,.agg [.s (.int .i64 s.now),.s (.int .i64 s.hor),.sl 4 (s.opn.map seC),.s (.slice none 0 0),.sl 4 (s.sub.map enC),.s (.slice none 0 0)])],[(3,.box [.s (.int .i64 0),.s (.int .i64 0),.s (.slice none 0 0),.s (.slice none 0 0),.s (.slice none 0 0),.s (.slice none 0 0)]),(2,.box [.s (.int .i64 0),.s (.int .i64 0),.s (.slice none 0 0),.s (.slice none 0 0),.s (.slice none 0 0),.s (.slice none 0 0)])]⟩ ?_ (fun hD1=>?_)
 ·
  refine aG 12 [] (by kernel_rfl) ⟨?_,trivial⟩
  ·
   refine⟨_,rfl,rfl,(ao rfl (aZ hf rfl rfl cM rfl rfl (l1 rfl) (l4 rfl) rfl (aF (ag hD0 rfl rfl rfl))))⟩
 refine aK 2 #[true,true,true,true,true,true,true,true,true,true,true,false,false] ⟨53,[(1,.adr (aL s)),(2,.ref 2 0 0 0),(18,.agg [.s (.int .i64 s.now),.s (.int .i64 s.hor),.sl 4 (s.opn.map seC),.s (.slice none 0 0),.sl 4 (s.sub.map enC),.s (.slice none 0 0)])],[(2,.box [.s (.int .i64 0),.s (.int .i64 0),.s (.slice none 0 0),.s (.slice none 0 0),.s (.slice none 0 0),.s (.slice none 0 0)])]⟩ ?_ (fun hD2=>?_)
 ·
  refine aG 11 [] (by kernel_rfl) ⟨?_,trivial⟩
  ·
   refine⟨_,rfl,rfl,(ao rfl (aX hf rfl rfl rfl bB (aF (ag hD1 rfl rfl rfl))))⟩
 refine aK 2 #[true,true,true,true,true,true,true,true,true,true,false,true,false] ⟨53,[(1,.adr (aL s)),(2,.ref 2 0 0 0),(3,.ref 3 0 0 0),(9,.s (.int .i64 s.now)),(11,.s (.int .i64 s.hor)),(14,.sl 4 (s.opn.map seC)),(17,.sl 4 (s.sub.map enC))],[(3,.box [.s (.int .i64 0),.s (.int .i64 0),.s (.slice none 0 0),.s (.slice none 0 0),.s (.slice none 0 0),.s (.slice none 0 0)]),(2,.box [.s (.int .i64 0),.s (.int .i64 0),.s (.slice none 0 0),.s (.slice none 0 0),.s (.slice none 0 0),.s (.slice none 0 0)])]⟩ ?_ (fun hD3=>?_)
 ·
  refine aG 10 [] (by kernel_rfl) ⟨?_,trivial⟩
  ·
   refine⟨_,rfl,rfl,(ao rfl (aH rfl (cK rfl bB nN (l3 rfl) rfl) (aF (ag hD1 rfl rfl rfl))))⟩
 refine aK 3 #[true,true,true,true,true,true,true,true,true,true,false,false,false] ⟨53,[(1,.adr (aL s)),(2,.ref 2 0 0 0),(9,.s (.int .i64 s.now)),(11,.s (.int .i64 s.hor)),(14,.sl 4 (s.opn.map seC)),(17,.sl 4 (s.sub.map enC))],[(2,.box [.s (.int .i64 0),.s (.int .i64 0),.s (.slice none 0 0),.s (.slice none 0 0),.s (.slice none 0 0),.s (.slice none 0 0)])]⟩ ?_ (fun hD4=>?_)
 ·
  refine aG 10 [11] (by kernel_rfl) ⟨?_,?_,trivial⟩
  ·
   refine⟨_,rfl,rfl,(ao rfl (aH rfl (cK rfl bB nN (l3 rfl) rfl) (aF (ag hD2 rfl rfl rfl))))⟩
  ·
   refine⟨_,rfl,rfl,(ao rfl (aX hf rfl rfl rfl bB (aF (ag hD3 rfl rfl rfl))))⟩
 refine aK 3 #[true,true,true,true,true,true,true,true,true,false,false,true,false] ⟨53,[(1,.adr (aL s)),(2,.ref 2 0 0 0),(3,.ref 3 0 0 0),(9,.s (.int .i64 s.now)),(11,.s (.int .i64 s.hor)),(14,.sl 4 (s.opn.map seC)),(16,.sl 4 (s.sub.map enC))],[(3,.box [.s (.int .i64 0),.s (.int .i64 0),.s (.slice none 0 0),.s (.slice none 0 0),.s (.slice none 0 0),.s (.slice none 0 0)]),(2,.box [.s (.int .i64 0),.s (.int .i64 0),.s (.slice none 0 0),.s (.slice none 0 0),.s (.slice none 0 0),.s (.slice none 0 0)])]⟩ ?_ (fun hD5=>?_)
 ·
  refine aG 9 [] (by kernel_rfl) ⟨?_,trivial⟩
  ·
   refine⟨_,rfl,rfl,(ao rfl (aM hf rfl (aQ rfl rfl lJ rfl (nF s.sub (by omega))) (aF (ag hD3 rfl rfl rfl))))⟩
 refine aK 3 #[true,true,true,false,true,true,true,true,true,true,false,true,false] ⟨53,[(1,.adr (aL s)),(2,.ref 2 0 0 0),(3,.ref 3 0 0 0),(9,.s (.int .i64 s.now)),(10,.adr ((aL s).drop 1)),(14,.sl 4 (s.opn.map seC)),(17,.sl 4 (s.sub.map enC))],[(3,.box [.s (.int .i64 0),.s (.int .i64 0),.s (.slice none 0 0),.s (.slice none 0 0),.s (.slice none 0 0),.s (.slice none 0 0)]),(2,.box [.s (.int .i64 0),.s (.int .i64 0),.s (.slice none 0 0),.s (.slice none 0 0),.s (.slice none 0 0),.s (.slice none 0 0)])]⟩ ?_ (fun hD6=>?_)
 ·
  refine aG 3 [] (by kernel_rfl) ⟨?_,trivial⟩
  ·
   refine⟨_,rfl,rfl,(ao rfl (aE aA 1 rfl (aF (ag hD3 rfl rfl rfl))))⟩
 refine aK 3 #[true,false,true,true,true,true,true,true,true,true,false,true,false] ⟨53,[(1,.adr (aL s)),(2,.ref 2 0 0 0),(3,.ref 3 0 0 0),(8,.adr ((aL s).drop 0)),(11,.s (.int .i64 s.hor)),(14,.sl 4 (s.opn.map seC)),(17,.sl 4 (s.sub.map enC))],[(3,.box [.s (.int .i64 0),.s (.int .i64 0),.s (.slice none 0 0),.s (.slice none 0 0),.s (.slice none 0 0),.s (.slice none 0 0)]),(2,.box [.s (.int .i64 0),.s (.int .i64 0),.s (.slice none 0 0),.s (.slice none 0 0),.s (.slice none 0 0),.s (.slice none 0 0)])]⟩ ?_ (fun hD7=>?_)
 ·
  refine aG 1 [] (by kernel_rfl) ⟨?_,trivial⟩
  ·
   refine⟨_,rfl,rfl,(ao rfl (aE aA 1 rfl (aF (ag hD3 rfl rfl rfl))))⟩
 refine aK 4 #[true,true,true,true,true,true,true,true,true,false,false,false,false] ⟨53,[(1,.adr (aL s)),(2,.ref 2 0 0 0),(9,.s (.int .i64 s.now)),(11,.s (.int .i64 s.hor)),(14,.sl 4 (s.opn.map seC)),(16,.sl 4 (s.sub.map enC))],[(2,.box [.s (.int .i64 0),.s (.int .i64 0),.s (.slice none 0 0),.s (.slice none 0 0),.s (.slice none 0 0),.s (.slice none 0 0)])]⟩ ?_ (fun hD8=>?_)
 ·
  refine aG 9 [11] (by kernel_rfl) ⟨?_,?_,trivial⟩
  ·
   refine⟨_,rfl,rfl,(ao rfl (aM hf rfl (aQ rfl rfl lJ rfl (nF s.sub (by omega))) (aF (ag hD4 rfl rfl rfl))))⟩
  ·
   refine⟨_,rfl,rfl,(ao rfl (aX hf rfl rfl rfl bB (aF (ag hD5 rfl rfl rfl))))⟩
 refine aK 4 #[true,true,true,true,true,true,true,true,false,false,false,true,false] ⟨53,[(1,.adr (aL s)),(2,.ref 2 0 0 0),(3,.ref 3 0 0 0),(9,.s (.int .i64 s.now)),(11,.s (.int .i64 s.hor)),(14,.sl 4 (s.opn.map seC)),(15,.adr ((aL s).drop 4))],[(3,.box [.s (.int .i64 0),.s (.int .i64 0),.s (.slice none 0 0),.s (.slice none 0 0),.s (.slice none 0 0),.s (.slice none 0 0)]),(2,.box [.s (.int .i64 0),.s (.int .i64 0),.s (.slice none 0 0),.s (.slice none 0 0),.s (.slice none 0 0),.s (.slice none 0 0)])]⟩ ?_ (fun hD9=>?_)
 ·
  refine aG 8 [] (by kernel_rfl) ⟨?_,trivial⟩
  ·
   refine⟨_,rfl,rfl,(ao rfl (aE aA 1 rfl (aF (ag hD5 rfl rfl rfl))))⟩
 refine aK 4 #[true,true,true,true,true,true,false,true,true,false,false,true,false] ⟨53,[(1,.adr (aL s)),(2,.ref 2 0 0 0),(3,.ref 3 0 0 0),(9,.s (.int .i64 s.now)),(11,.s (.int .i64 s.hor)),(13,.sl 4 (s.opn.map seC)),(16,.sl 4 (s.sub.map enC))],[(3,.box [.s (.int .i64 0),.s (.int .i64 0),.s (.slice none 0 0),.s (.slice none 0 0),.s (.slice none 0 0),.s (.slice none 0 0)]),(2,.box [.s (.int .i64 0),.s (.int .i64 0),.s (.slice none 0 0),.s (.slice none 0 0),.s (.slice none 0 0),.s (.slice none 0 0)])]⟩ ?_ (fun hD10=>?_)
 ·
  refine aG 6 [] (by kernel_rfl) ⟨?_,trivial⟩
  ·
   refine⟨_,rfl,rfl,(ao rfl (aM hf rfl (aQ rfl rfl fJ rfl (fG s.opn (by omega))) (aF (ag hD5 rfl rfl rfl))))⟩
 refine aK 4 #[true,true,true,false,true,true,true,true,true,true,false,false,false] ⟨53,[(1,.adr (aL s)),(2,.ref 2 0 0 0),(9,.s (.int .i64 s.now)),(10,.adr ((aL s).drop 1)),(14,.sl 4 (s.opn.map seC)),(17,.sl 4 (s.sub.map enC))],[(2,.box [.s (.int .i64 0),.s (.int .i64 0),.s (.slice none 0 0),.s (.slice none 0 0),.s (.slice none 0 0),.s (.slice none 0 0)])]⟩ ?_ (fun hD11=>?_)
 ·
  refine aG 3 [11] (by kernel_rfl) ⟨?_,?_,trivial⟩
  ·
   refine⟨_,rfl,rfl,(ao rfl (aE aA 1 rfl (aF (ag hD4 rfl rfl rfl))))⟩
  ·
   refine⟨_,rfl,rfl,(ao rfl (aX hf rfl rfl rfl bB (aF (ag hD6 rfl rfl rfl))))⟩
 refine aK 4 #[true,true,true,false,true,true,true,true,true,false,false,true,false] ⟨53,[(1,.adr (aL s)),(2,.ref 2 0 0 0),(3,.ref 3 0 0 0),(9,.s (.int .i64 s.now)),(10,.adr ((aL s).drop 1)),(14,.sl 4 (s.opn.map seC)),(16,.sl 4 (s.sub.map enC))],[(3,.box [.s (.int .i64 0),.s (.int .i64 0),.s (.slice none 0 0),.s (.slice none 0 0),.s (.slice none 0 0),.s (.slice none 0 0)]),(2,.box [.s (.int .i64 0),.s (.int .i64 0),.s (.slice none 0 0),.s (.slice none 0 0),.s (.slice none 0 0),.s (.slice none 0 0)])]⟩ ?_ (fun hD12=>?_)
 ·
  refine aG 3 [9] (by kernel_rfl) ⟨?_,?_,trivial⟩
  ·
   refine⟨_,rfl,rfl,(ao rfl (aE aA 1 rfl (aF (ag hD5 rfl rfl rfl))))⟩
  ·
   refine⟨_,rfl,rfl,(ao rfl (aM hf rfl (aQ rfl rfl lJ rfl (nF s.sub (by omega))) (aF (ag hD6 rfl rfl rfl))))⟩
 refine aK 4 #[true,false,true,true,true,true,true,true,true,true,false,false,false] ⟨53,[(1,.adr (aL s)),(2,.ref 2 0 0 0),(8,.adr ((aL s).drop 0)),(11,.s (.int .i64 s.hor)),(14,.sl 4 (s.opn.map seC)),(17,.sl 4 (s.sub.map enC))],[(2,.box [.s (.int .i64 0),.s (.int .i64 0),.s (.slice none 0 0),.s (.slice none 0 0),.s (.slice none 0 0),.s (.slice none 0 0)])]⟩ ?_ (fun hD13=>?_)
 ·
  refine aG 1 [11] (by kernel_rfl) ⟨?_,?_,trivial⟩
  ·
   refine⟨_,rfl,rfl,(ao rfl (aE aA 1 rfl (aF (ag hD4 rfl rfl rfl))))⟩
  ·
   refine⟨_,rfl,rfl,(ao rfl (aX hf rfl rfl rfl bB (aF (ag hD7 rfl rfl rfl))))⟩
 refine aK 4 #[true,false,true,true,true,true,true,true,true,false,false,true,false] ⟨53,[(1,.adr (aL s)),(2,.ref 2 0 0 0),(3,.ref 3 0 0 0),(8,.adr ((aL s).drop 0)),(11,.s (.int .i64 s.hor)),(14,.sl 4 (s.opn.map seC)),(16,.sl 4 (s.sub.map enC))],[(3,.box [.s (.int .i64 0),.s (.int .i64 0),.s (.slice none 0 0),.s (.slice none 0 0),.s (.slice none 0 0),.s (.slice none 0 0)]),(2,.box [.s (.int .i64 0),.s (.int .i64 0),.s (.slice none 0 0),.s (.slice none 0 0),.s (.slice none 0 0),.s (.slice none 0 0)])]⟩ ?_ (fun hD14=>?_)
 ·
  refine aG 1 [9] (by kernel_rfl) ⟨?_,?_,trivial⟩
  ·
   refine⟨_,rfl,rfl,(ao rfl (aE aA 1 rfl (aF (ag hD5 rfl rfl rfl))))⟩
  ·
   refine⟨_,rfl,rfl,(ao rfl (aM hf rfl (aQ rfl rfl lJ rfl (nF s.sub (by omega))) (aF (ag hD7 rfl rfl rfl))))⟩
 refine aK 4 #[true,false,true,false,true,true,true,true,true,true,false,true,false] ⟨53,[(1,.adr (aL s)),(2,.ref 2 0 0 0),(3,.ref 3 0 0 0),(8,.adr ((aL s).drop 0)),(10,.adr ((aL s).drop 1)),(14,.sl 4 (s.opn.map seC)),(17,.sl 4 (s.sub.map enC))],[(3,.box [.s (.int .i64 0),.s (.int .i64 0),.s (.slice none 0 0),.s (.slice none 0 0),.s (.slice none 0 0),.s (.slice none 0 0)]),(2,.box [.s (.int .i64 0),.s (.int .i64 0),.s (.slice none 0 0),.s (.slice none 0 0),.s (.slice none 0 0),.s (.slice none 0 0)])]⟩ ?_ (fun hD15=>?_)
 ·
  refine aG 1 [3] (by kernel_rfl) ⟨?_,?_,trivial⟩
  ·
   refine⟨_,rfl,rfl,(ao rfl (aE aA 1 rfl (aF (ag hD6 rfl rfl rfl))))⟩
  ·
   refine⟨_,rfl,rfl,(ao rfl (aE aA 1 rfl (aF (ag hD7 rfl rfl rfl))))⟩
 refine aK 5 #[true,true,true,true,true,true,true,true,false,false,false,false,false] ⟨53,[(1,.adr (aL s)),(2,.ref 2 0 0 0),(9,.s (.int .i64 s.now)),(11,.s (.int .i64 s.hor)),(14,.sl 4 (s.opn.map seC)),(15,.adr ((aL s).drop 4))],[(2,.box [.s (.int .i64 0),.s (.int .i64 0),.s (.slice none 0 0),.s (.slice none 0 0),.s (.slice none 0 0),.s (.slice none 0 0)])]⟩ ?_ (fun hD16=>?_)
 ·
  refine aG 8 [11] (by kernel_rfl) ⟨?_,?_,trivial⟩
  ·
   refine⟨_,rfl,rfl,(ao rfl (aE aA 1 rfl (aF (ag hD8 rfl rfl rfl))))⟩
  ·
   refine⟨_,rfl,rfl,(ao rfl (aX hf rfl rfl rfl bB (aF (ag hD9 rfl rfl rfl))))⟩
 refine aK 5 #[true,true,true,true,true,true,false,true,true,false,false,false,false] ⟨53,[(1,.adr (aL s)),(2,.ref 2 0 0 0),(9,.s (.int .i64 s.now)),(11,.s (.int .i64 s.hor)),(13,.sl 4 (s.opn.map seC)),(16,.sl 4 (s.sub.map enC))],[(2,.box [.s (.int .i64 0),.s (.int .i64 0),.s (.slice none 0 0),.s (.slice none 0 0),.s (.slice none 0 0),.s (.slice none 0 0)])]⟩ ?_ (fun hD17=>?_)
 ·
  refine aG 6 [11] (by kernel_rfl) ⟨?_,?_,trivial⟩
  ·
   refine⟨_,rfl,rfl,(ao rfl (aM hf rfl (aQ rfl rfl fJ rfl (fG s.opn (by omega))) (aF (ag hD8 rfl rfl rfl))))⟩
  ·
   refine⟨_,rfl,rfl,(ao rfl (aX hf rfl rfl rfl bB (aF (ag hD10 rfl rfl rfl))))⟩
 refine aK 5 #[true,true,true,true,true,true,false,true,false,false,false,true,false] ⟨53,[(1,.adr (aL s)),(2,.ref 2 0 0 0),(3,.ref 3 0 0 0),(9,.s (.int .i64 s.now)),(11,.s (.int .i64 s.hor)),(13,.sl 4 (s.opn.map seC)),(15,.adr ((aL s).drop 4))],[(3,.box [.s (.int .i64 0),.s (.int .i64 0),.s (.slice none 0 0),.s (.slice none 0 0),.s (.slice none 0 0),.s (.slice none 0 0)]),(2,.box [.s (.int .i64 0),.s (.int .i64 0),.s (.slice none 0 0),.s (.slice none 0 0),.s (.slice none 0 0),.s (.slice none 0 0)])]⟩ ?_ (fun hD18=>?_)
 ·
  refine aG 6 [8] (by kernel_rfl) ⟨?_,?_,trivial⟩
  ·
   refine⟨_,rfl,rfl,(ao rfl (aM hf rfl (aQ rfl rfl fJ rfl (fG s.opn (by omega))) (aF (ag hD9 rfl rfl rfl))))⟩
  ·
   refine⟨_,rfl,rfl,(ao rfl (aE aA 1 rfl (aF (ag hD10 rfl rfl rfl))))⟩
 refine aK 5 #[true,true,true,true,true,false,false,true,true,false,false,true,false] ⟨53,[(1,.adr (aL s)),(2,.ref 2 0 0 0),(3,.ref 3 0 0 0),(9,.s (.int .i64 s.now)),(11,.s (.int .i64 s.hor)),(12,.adr ((aL s).drop 2)),(16,.sl 4 (s.sub.map enC))],[(3,.box [.s (.int .i64 0),.s (.int .i64 0),.s (.slice none 0 0),.s (.slice none 0 0),.s (.slice none 0 0),.s (.slice none 0 0)]),(2,.box [.s (.int .i64 0),.s (.int .i64 0),.s (.slice none 0 0),.s (.slice none 0 0),.s (.slice none 0 0),.s (.slice none 0 0)])]⟩ ?_ (fun hD19=>?_)
 ·
  refine aG 5 [] (by kernel_rfl) ⟨?_,trivial⟩
  ·
   refine⟨_,rfl,rfl,(ao rfl (aE aA 1 rfl (aF (ag hD10 rfl rfl rfl))))⟩
 refine aK 5 #[true,true,true,false,true,true,true,true,true,false,false,false,false] ⟨53,[(1,.adr (aL s)),(2,.ref 2 0 0 0),(9,.s (.int .i64 s.now)),(10,.adr ((aL s).drop 1)),(14,.sl 4 (s.opn.map seC)),(16,.sl 4 (s.sub.map enC))],[(2,.box [.s (.int .i64 0),.s (.int .i64 0),.s (.slice none 0 0),.s (.slice none 0 0),.s (.slice none 0 0),.s (.slice none 0 0)])]⟩ ?_ (fun hD20=>?_)
 ·
  refine aG 3 [9,11] (by kernel_rfl) ⟨?_,?_,?_,trivial⟩
  ·
   refine⟨_,rfl,rfl,(ao rfl (aE aA 1 rfl (aF (ag hD8 rfl rfl rfl))))⟩
  ·
   refine⟨_,rfl,rfl,(ao rfl (aM hf rfl (aQ rfl rfl lJ rfl (nF s.sub (by omega))) (aF (ag hD11 rfl rfl rfl))))⟩
  ·
   refine⟨_,rfl,rfl,(ao rfl (aX hf rfl rfl rfl bB (aF (ag hD12 rfl rfl rfl))))⟩
 refine aK 5 #[true,true,true,false,true,true,true,true,false,false,false,true,false] ⟨53,[(1,.adr (aL s)),(2,.ref 2 0 0 0),(3,.ref 3 0 0 0),(9,.s (.int .i64 s.now)),(10,.adr ((aL s).drop 1)),(14,.sl 4 (s.opn.map seC)),(15,.adr ((aL s).drop 4))],[(3,.box [.s (.int .i64 0),.s (.int .i64 0),.s (.slice none 0 0),.s (.slice none 0 0),.s (.slice none 0 0),.s (.slice none 0 0)]),(2,.box [.s (.int .i64 0),.s (.int .i64 0),.s (.slice none 0 0),.s (.slice none 0 0),.s (.slice none 0 0),.s (.slice none 0 0)])]⟩ ?_ (fun hD21=>?_)
 ·
  refine aG 3 [8] (by kernel_rfl) ⟨?_,?_,trivial⟩
  ·
   refine⟨_,rfl,rfl,(ao rfl (aE aA 1 rfl (aF (ag hD9 rfl rfl rfl))))⟩
  ·
   refine⟨_,rfl,rfl,(ao rfl (aE aA 1 rfl (aF (ag hD12 rfl rfl rfl))))⟩
 refine aK 5 #[true,true,true,false,true,true,false,true,true,false,false,true,false] ⟨53,[(1,.adr (aL s)),(2,.ref 2 0 0 0),(3,.ref 3 0 0 0),(9,.s (.int .i64 s.now)),(10,.adr ((aL s).drop 1)),(13,.sl 4 (s.opn.map seC)),(16,.sl 4 (s.sub.map enC))],[(3,.box [.s (.int .i64 0),.s (.int .i64 0),.s (.slice none 0 0),.s (.slice none 0 0),.s (.slice none 0 0),.s (.slice none 0 0)]),(2,.box [.s (.int .i64 0),.s (.int .i64 0),.s (.slice none 0 0),.s (.slice none 0 0),.s (.slice none 0 0),.s (.slice none 0 0)])]⟩ ?_ (fun hD22=>?_)
 ·
  refine aG 3 [6] (by kernel_rfl) ⟨?_,?_,trivial⟩
  ·
   refine⟨_,rfl,rfl,(ao rfl (aE aA 1 rfl (aF (ag hD10 rfl rfl rfl))))⟩
  ·
   refine⟨_,rfl,rfl,(ao rfl (aM hf rfl (aQ rfl rfl fJ rfl (fG s.opn (by omega))) (aF (ag hD12 rfl rfl rfl))))⟩
 refine aK 5 #[true,false,true,true,true,true,true,true,true,false,false,false,false] ⟨53,[(1,.adr (aL s)),(2,.ref 2 0 0 0),(8,.adr ((aL s).drop 0)),(11,.s (.int .i64 s.hor)),(14,.sl 4 (s.opn.map seC)),(16,.sl 4 (s.sub.map enC))],[(2,.box [.s (.int .i64 0),.s (.int .i64 0),.s (.slice none 0 0),.s (.slice none 0 0),.s (.slice none 0 0),.s (.slice none 0 0)])]⟩ ?_ (fun hD23=>?_)
 ·
  refine aG 1 [9,11] (by kernel_rfl) ⟨?_,?_,?_,trivial⟩
  ·
   refine⟨_,rfl,rfl,(ao rfl (aE aA 1 rfl (aF (ag hD8 rfl rfl rfl))))⟩
  ·
   refine⟨_,rfl,rfl,(ao rfl (aM hf rfl (aQ rfl rfl lJ rfl (nF s.sub (by omega))) (aF (ag hD13 rfl rfl rfl))))⟩
  ·
   refine⟨_,rfl,rfl,(ao rfl (aX hf rfl rfl rfl bB (aF (ag hD14 rfl rfl rfl))))⟩
 refine aK 5 #[true,false,true,true,true,true,true,true,false,false,false,true,false] ⟨53,[(1,.adr (aL s)),(2,.ref 2 0 0 0),(3,.ref 3 0 0 0),(8,.adr ((aL s).drop 0)),(11,.s (.int .i64 s.hor)),(14,.sl 4 (s.opn.map seC)),(15,.adr ((aL s).drop 4))],[(3,.box [.s (.int .i64 0),.s (.int .i64 0),.s (.slice none 0 0),.s (.slice none 0 0),.s (.slice none 0 0),.s (.slice none 0 0)]),(2,.box [.s (.int .i64 0),.s (.int .i64 0),.s (.slice none 0 0),.s (.slice none 0 0),.s (.slice none 0 0),.s (.slice none 0 0)])]⟩ ?_ (fun hD24=>?_)
 ·
  refine aG 1 [8] (by kernel_rfl) ⟨?_,?_,trivial⟩
  ·
   refine⟨_,rfl,rfl,(ao rfl (aE aA 1 rfl (aF (ag hD9 rfl rfl rfl))))⟩
  ·
   refine⟨_,rfl,rfl,(ao rfl (aE aA 1 rfl (aF (ag hD14 rfl rfl rfl))))⟩
 refine aK 5 #[true,false,true,true,true,true,false,true,true,false,false,true,false] ⟨53,[(1,.adr (aL s)),(2,.ref 2 0 0 0),(3,.ref 3 0 0 0),(8,.adr ((aL s).drop 0)),(11,.s (.int .i64 s.hor)),(13,.sl 4 (s.opn.map seC)),(16,.sl 4 (s.sub.map enC))],[(3,.box [.s (.int .i64 0),.s (.int .i64 0),.s (.slice none 0 0),.s (.slice none 0 0),.s (.slice none 0 0),.s (.slice none 0 0)]),(2,.box [.s (.int .i64 0),.s (.int .i64 0),.s (.slice none 0 0),.s (.slice none 0 0),.s (.slice none 0 0),.s (.slice none 0 0)])]⟩ ?_ (fun hD25=>?_)
 ·
  refine aG 1 [6] (by kernel_rfl) ⟨?_,?_,trivial⟩
  ·
   refine⟨_,rfl,rfl,(ao rfl (aE aA 1 rfl (aF (ag hD10 rfl rfl rfl))))⟩
  ·
   refine⟨_,rfl,rfl,(ao rfl (aM hf rfl (aQ rfl rfl fJ rfl (fG s.opn (by omega))) (aF (ag hD14 rfl rfl rfl))))⟩
 refine aK 5 #[true,false,true,false,true,true,true,true,true,true,false,false,false] ⟨53,[(1,.adr (aL s)),(2,.ref 2 0 0 0),(8,.adr ((aL s).drop 0)),(10,.adr ((aL s).drop 1)),(14,.sl 4 (s.opn.map seC)),(17,.sl 4 (s.sub.map enC))],[(2,.box [.s (.int .i64 0),.s (.int .i64 0),.s (.slice none 0 0),.s (.slice none 0 0),.s (.slice none 0 0),.s (.slice none 0 0)])]⟩ ?_ (fun hD26=>?_)
 ·
  refine aG 1 [3,11] (by kernel_rfl) ⟨?_,?_,?_,trivial⟩
  ·
   refine⟨_,rfl,rfl,(ao rfl (aE aA 1 rfl (aF (ag hD11 rfl rfl rfl))))⟩
  ·
   refine⟨_,rfl,rfl,(ao rfl (aE aA 1 rfl (aF (ag hD13 rfl rfl rfl))))⟩
  ·
   refine⟨_,rfl,rfl,(ao rfl (aX hf rfl rfl rfl bB (aF (ag hD15 rfl rfl rfl))))⟩
 refine aK 5 #[true,false,true,false,true,true,true,true,true,false,false,true,false] ⟨53,[(1,.adr (aL s)),(2,.ref 2 0 0 0),(3,.ref 3 0 0 0),(8,.adr ((aL s).drop 0)),(10,.adr ((aL s).drop 1)),(14,.sl 4 (s.opn.map seC)),(16,.sl 4 (s.sub.map enC))],[(3,.box [.s (.int .i64 0),.s (.int .i64 0),.s (.slice none 0 0),.s (.slice none 0 0),.s (.slice none 0 0),.s (.slice none 0 0)]),(2,.box [.s (.int .i64 0),.s (.int .i64 0),.s (.slice none 0 0),.s (.slice none 0 0),.s (.slice none 0 0),.s (.slice none 0 0)])]⟩ ?_ (fun hD27=>?_)
 ·
  refine aG 1 [3,9] (by kernel_rfl) ⟨?_,?_,?_,trivial⟩
  ·
   refine⟨_,rfl,rfl,(ao rfl (aE aA 1 rfl (aF (ag hD12 rfl rfl rfl))))⟩
  ·
   refine⟨_,rfl,rfl,(ao rfl (aE aA 1 rfl (aF (ag hD14 rfl rfl rfl))))⟩
  ·
   refine⟨_,rfl,rfl,(ao rfl (aM hf rfl (aQ rfl rfl lJ rfl (nF s.sub (by omega))) (aF (ag hD15 rfl rfl rfl))))⟩
 refine aK 6 #[true,true,true,true,true,true,false,true,false,false,false,false,false] ⟨53,[(1,.adr (aL s)),(2,.ref 2 0 0 0),(9,.s (.int .i64 s.now)),(11,.s (.int .i64 s.hor)),(13,.sl 4 (s.opn.map seC)),(15,.adr ((aL s).drop 4))],[(2,.box [.s (.int .i64 0),.s (.int .i64 0),.s (.slice none 0 0),.s (.slice none 0 0),.s (.slice none 0 0),.s (.slice none 0 0)])]⟩ ?_ (fun hD28=>?_)
 ·
  refine aG 6 [8,11] (by kernel_rfl) ⟨?_,?_,?_,trivial⟩
  ·
   refine⟨_,rfl,rfl,(ao rfl (aM hf rfl (aQ rfl rfl fJ rfl (fG s.opn (by omega))) (aF (ag hD16 rfl rfl rfl))))⟩
  ·
   refine⟨_,rfl,rfl,(ao rfl (aE aA 1 rfl (aF (ag hD17 rfl rfl rfl))))⟩
  ·
   refine⟨_,rfl,rfl,(ao rfl (aX hf rfl rfl rfl bB (aF (ag hD18 rfl rfl rfl))))⟩
 refine aK 6 #[true,true,true,true,true,false,false,true,true,false,false,false,false] ⟨53,[(1,.adr (aL s)),(2,.ref 2 0 0 0),(9,.s (.int .i64 s.now)),(11,.s (.int .i64 s.hor)),(12,.adr ((aL s).drop 2)),(16,.sl 4 (s.sub.map enC))],[(2,.box [.s (.int .i64 0),.s (.int .i64 0),.s (.slice none 0 0),.s (.slice none 0 0),.s (.slice none 0 0),.s (.slice none 0 0)])]⟩ ?_ (fun hD29=>?_)
 ·
  refine aG 5 [11] (by kernel_rfl) ⟨?_,?_,trivial⟩
  ·
   refine⟨_,rfl,rfl,(ao rfl (aE aA 1 rfl (aF (ag hD17 rfl rfl rfl))))⟩
  ·
   refine⟨_,rfl,rfl,(ao rfl (aX hf rfl rfl rfl bB (aF (ag hD19 rfl rfl rfl))))⟩
 refine aK 6 #[true,true,true,true,true,false,false,true,false,false,false,true,false] ⟨53,[(1,.adr (aL s)),(2,.ref 2 0 0 0),(3,.ref 3 0 0 0),(9,.s (.int .i64 s.now)),(11,.s (.int .i64 s.hor)),(12,.adr ((aL s).drop 2)),(15,.adr ((aL s).drop 4))],[(3,.box [.s (.int .i64 0),.s (.int .i64 0),.s (.slice none 0 0),.s (.slice none 0 0),.s (.slice none 0 0),.s (.slice none 0 0)]),(2,.box [.s (.int .i64 0),.s (.int .i64 0),.s (.slice none 0 0),.s (.slice none 0 0),.s (.slice none 0 0),.s (.slice none 0 0)])]⟩ ?_ (fun hD30=>?_)
 ·
  refine aG 5 [8] (by kernel_rfl) ⟨?_,?_,trivial⟩
  ·
   refine⟨_,rfl,rfl,(ao rfl (aE aA 1 rfl (aF (ag hD18 rfl rfl rfl))))⟩
  ·
   refine⟨_,rfl,rfl,(ao rfl (aE aA 1 rfl (aF (ag hD19 rfl rfl rfl))))⟩
 refine aK 6 #[true,true,true,false,true,true,true,true,false,false,false,false,false] ⟨53,[(1,.adr (aL s)),(2,.ref 2 0 0 0),(9,.s (.int .i64 s.now)),(10,.adr ((aL s).drop 1)),(14,.sl 4 (s.opn.map seC)),(15,.adr ((aL s).drop 4))],[(2,.box [.s (.int .i64 0),.s (.int .i64 0),.s (.slice none 0 0),.s (.slice none 0 0),.s (.slice none 0 0),.s (.slice none 0 0)])]⟩ ?_ (fun hD31=>?_)
 ·
  refine aG 3 [8,11] (by kernel_rfl) ⟨?_,?_,?_,trivial⟩
  ·
   refine⟨_,rfl,rfl,(ao rfl (aE aA 1 rfl (aF (ag hD16 rfl rfl rfl))))⟩
  ·
   refine⟨_,rfl,rfl,(ao rfl (aE aA 1 rfl (aF (ag hD20 rfl rfl rfl))))⟩
  ·
   refine⟨_,rfl,rfl,(ao rfl (aX hf rfl rfl rfl bB (aF (ag hD21 rfl rfl rfl))))⟩
 refine aK 6 #[true,true,true,false,true,true,false,true,true,false,false,false,false] ⟨53,[(1,.adr (aL s)),(2,.ref 2 0 0 0),(9,.s (.int .i64 s.now)),(10,.adr ((aL s).drop 1)),(13,.sl 4 (s.opn.map seC)),(16,.sl 4 (s.sub.map enC))],[(2,.box [.s (.int .i64 0),.s (.int .i64 0),.s (.slice none 0 0),.s (.slice none 0 0),.s (.slice none 0 0),.s (.slice none 0 0)])]⟩ ?_ (fun hD32=>?_)
 ·
  refine aG 3 [6,11] (by kernel_rfl) ⟨?_,?_,?_,trivial⟩
  ·
   refine⟨_,rfl,rfl,(ao rfl (aE aA 1 rfl (aF (ag hD17 rfl rfl rfl))))⟩
  ·
   refine⟨_,rfl,rfl,(ao rfl (aM hf rfl (aQ rfl rfl fJ rfl (fG s.opn (by omega))) (aF (ag hD20 rfl rfl rfl))))⟩
  ·
   refine⟨_,rfl,rfl,(ao rfl (aX hf rfl rfl rfl bB (aF (ag hD22 rfl rfl rfl))))⟩
 refine aK 6 #[true,true,true,false,true,true,false,true,false,false,false,true,false] ⟨53,[(1,.adr (aL s)),(2,.ref 2 0 0 0),(3,.ref 3 0 0 0),(9,.s (.int .i64 s.now)),(10,.adr ((aL s).drop 1)),(13,.sl 4 (s.opn.map seC)),(15,.adr ((aL s).drop 4))],[(3,.box [.s (.int .i64 0),.s (.int .i64 0),.s (.slice none 0 0),.s (.slice none 0 0),.s (.slice none 0 0),.s (.slice none 0 0)]),(2,.box [.s (.int .i64 0),.s (.int .i64 0),.s (.slice none 0 0),.s (.slice none 0 0),.s (.slice none 0 0),.s (.slice none 0 0)])]⟩ ?_ (fun hD33=>?_)
 ·
  refine aG 3 [6,8] (by kernel_rfl) ⟨?_,?_,?_,trivial⟩
  ·
   refine⟨_,rfl,rfl,(ao rfl (aE aA 1 rfl (aF (ag hD18 rfl rfl rfl))))⟩
  ·
   refine⟨_,rfl,rfl,(ao rfl (aM hf rfl (aQ rfl rfl fJ rfl (fG s.opn (by omega))) (aF (ag hD21 rfl rfl rfl))))⟩
  ·
   refine⟨_,rfl,rfl,(ao rfl (aE aA 1 rfl (aF (ag hD22 rfl rfl rfl))))⟩
 refine aK 6 #[true,true,true,false,true,false,false,true,true,false,false,true,false] ⟨53,[(1,.adr (aL s)),(2,.ref 2 0 0 0),(3,.ref 3 0 0 0),(9,.s (.int .i64 s.now)),(10,.adr ((aL s).drop 1)),(12,.adr ((aL s).drop 2)),(16,.sl 4 (s.sub.map enC))],[(3,.box [.s (.int .i64 0),.s (.int .i64 0),.s (.slice none 0 0),.s (.slice none 0 0),.s (.slice none 0 0),.s (.slice none 0 0)]),(2,.box [.s (.int .i64 0),.s (.int .i64 0),.s (.slice none 0 0),.s (.slice none 0 0),.s (.slice none 0 0),.s (.slice none 0 0)])]⟩ ?_ (fun hD34=>?_)
 ·
  refine aG 3 [5] (by kernel_rfl) ⟨?_,?_,trivial⟩
  ·
   refine⟨_,rfl,rfl,(ao rfl (aE aA 1 rfl (aF (ag hD19 rfl rfl rfl))))⟩
  ·
   refine⟨_,rfl,rfl,(ao rfl (aE aA 1 rfl (aF (ag hD22 rfl rfl rfl))))⟩
 refine aK 6 #[true,false,true,true,true,true,true,true,false,false,false,false,false] ⟨53,[(1,.adr (aL s)),(2,.ref 2 0 0 0),(8,.adr ((aL s).drop 0)),(11,.s (.int .i64 s.hor)),(14,.sl 4 (s.opn.map seC)),(15,.adr ((aL s).drop 4))],[(2,.box [.s (.int .i64 0),.s (.int .i64 0),.s (.slice none 0 0),.s (.slice none 0 0),.s (.slice none 0 0),.s (.slice none 0 0)])]⟩ ?_ (fun hD35=>?_)
 ·
  refine aG 1 [8,11] (by kernel_rfl) ⟨?_,?_,?_,trivial⟩
  ·
   refine⟨_,rfl,rfl,(ao rfl (aE aA 1 rfl (aF (ag hD16 rfl rfl rfl))))⟩
  ·
   refine⟨_,rfl,rfl,(ao rfl (aE aA 1 rfl (aF (ag hD23 rfl rfl rfl))))⟩
  ·
   refine⟨_,rfl,rfl,(ao rfl (aX hf rfl rfl rfl bB (aF (ag hD24 rfl rfl rfl))))⟩
 refine aK 6 #[true,false,true,true,true,true,false,true,true,false,false,false,false] ⟨53,[(1,.adr (aL s)),(2,.ref 2 0 0 0),(8,.adr ((aL s).drop 0)),(11,.s (.int .i64 s.hor)),(13,.sl 4 (s.opn.map seC)),(16,.sl 4 (s.sub.map enC))],[(2,.box [.s (.int .i64 0),.s (.int .i64 0),.s (.slice none 0 0),.s (.slice none 0 0),.s (.slice none 0 0),.s (.slice none 0 0)])]⟩ ?_ (fun hD36=>?_)
 ·
  refine aG 1 [6,11] (by kernel_rfl) ⟨?_,?_,?_,trivial⟩
  ·
   refine⟨_,rfl,rfl,(ao rfl (aE aA 1 rfl (aF (ag hD17 rfl rfl rfl))))⟩
  ·
   refine⟨_,rfl,rfl,(ao rfl (aM hf rfl (aQ rfl rfl fJ rfl (fG s.opn (by omega))) (aF (ag hD23 rfl rfl rfl))))⟩
  ·
   refine⟨_,rfl,rfl,(ao rfl (aX hf rfl rfl rfl bB (aF (ag hD25 rfl rfl rfl))))⟩
 refine aK 6 #[true,false,true,true,true,true,false,true,false,false,false,true,false] ⟨53,[(1,.adr (aL s)),(2,.ref 2 0 0 0),(3,.ref 3 0 0 0),(8,.adr ((aL s).drop 0)),(11,.s (.int .i64 s.hor)),(13,.sl 4 (s.opn.map seC)),(15,.adr ((aL s).drop 4))],[(3,.box [.s (.int .i64 0),.s (.int .i64 0),.s (.slice none 0 0),.s (.slice none 0 0),.s (.slice none 0 0),.s (.slice none 0 0)]),(2,.box [.s (.int .i64 0),.s (.int .i64 0),.s (.slice none 0 0),.s (.slice none 0 0),.s (.slice none 0 0),.s (.slice none 0 0)])]⟩ ?_ (fun hD37=>?_)
 ·
  refine aG 1 [6,8] (by kernel_rfl) ⟨?_,?_,?_,trivial⟩
  ·
   refine⟨_,rfl,rfl,(ao rfl (aE aA 1 rfl (aF (ag hD18 rfl rfl rfl))))⟩
  ·
   refine⟨_,rfl,rfl,(ao rfl (aM hf rfl (aQ rfl rfl fJ rfl (fG s.opn (by omega))) (aF (ag hD24 rfl rfl rfl))))⟩
  ·
   refine⟨_,rfl,rfl,(ao rfl (aE aA 1 rfl (aF (ag hD25 rfl rfl rfl))))⟩
 refine aK 6 #[true,false,true,true,true,false,false,true,true,false,false,true,false] ⟨53,[(1,.adr (aL s)),(2,.ref 2 0 0 0),(3,.ref 3 0 0 0),(8,.adr ((aL s).drop 0)),(11,.s (.int .i64 s.hor)),(12,.adr ((aL s).drop 2)),(16,.sl 4 (s.sub.map enC))],[(3,.box [.s (.int .i64 0),.s (.int .i64 0),.s (.slice none 0 0),.s (.slice none 0 0),.s (.slice none 0 0),.s (.slice none 0 0)]),(2,.box [.s (.int .i64 0),.s (.int .i64 0),.s (.slice none 0 0),.s (.slice none 0 0),.s (.slice none 0 0),.s (.slice none 0 0)])]⟩ ?_ (fun hD38=>?_)
 ·
  refine aG 1 [5] (by kernel_rfl) ⟨?_,?_,trivial⟩
  ·
   refine⟨_,rfl,rfl,(ao rfl (aE aA 1 rfl (aF (ag hD19 rfl rfl rfl))))⟩
  ·
   refine⟨_,rfl,rfl,(ao rfl (aE aA 1 rfl (aF (ag hD25 rfl rfl rfl))))⟩
 refine aK 6 #[true,false,true,false,true,true,true,true,true,false,false,false,false] ⟨53,[(1,.adr (aL s)),(2,.ref 2 0 0 0),(8,.adr ((aL s).drop 0)),(10,.adr ((aL s).drop 1)),(14,.sl 4 (s.opn.map seC)),(16,.sl 4 (s.sub.map enC))],[(2,.box [.s (.int .i64 0),.s (.int .i64 0),.s (.slice none 0 0),.s (.slice none 0 0),.s (.slice none 0 0),.s (.slice none 0 0)])]⟩ ?_ (fun hD39=>?_)
 ·
  refine aG 1 [3,9,11] (by kernel_rfl) ⟨?_,?_,?_,?_,trivial⟩
  ·
   refine⟨_,rfl,rfl,(ao rfl (aE aA 1 rfl (aF (ag hD20 rfl rfl rfl))))⟩
  ·
   refine⟨_,rfl,rfl,(ao rfl (aE aA 1 rfl (aF (ag hD23 rfl rfl rfl))))⟩
  ·
   refine⟨_,rfl,rfl,(ao rfl (aM hf rfl (aQ rfl rfl lJ rfl (nF s.sub (by omega))) (aF (ag hD26 rfl rfl rfl))))⟩
  ·
   refine⟨_,rfl,rfl,(ao rfl (aX hf rfl rfl rfl bB (aF (ag hD27 rfl rfl rfl))))⟩
 refine aK 6 #[true,false,true,false,true,true,true,true,false,false,false,true,false] ⟨53,[(1,.adr (aL s)),(2,.ref 2 0 0 0),(3,.ref 3 0 0 0),(8,.adr ((aL s).drop 0)),(10,.adr ((aL s).drop 1)),(14,.sl 4 (s.opn.map seC)),(15,.adr ((aL s).drop 4))],[(3,.box [.s (.int .i64 0),.s (.int .i64 0),.s (.slice none 0 0),.s (.slice none 0 0),.s (.slice none 0 0),.s (.slice none 0 0)]),(2,.box [.s (.int .i64 0),.s (.int .i64 0),.s (.slice none 0 0),.s (.slice none 0 0),.s (.slice none 0 0),.s (.slice none 0 0)])]⟩ ?_ (fun hD40=>?_)
 ·
  refine aG 1 [3,8] (by kernel_rfl) ⟨?_,?_,?_,trivial⟩
  ·
   refine⟨_,rfl,rfl,(ao rfl (aE aA 1 rfl (aF (ag hD21 rfl rfl rfl))))⟩
  ·
   refine⟨_,rfl,rfl,(ao rfl (aE aA 1 rfl (aF (ag hD24 rfl rfl rfl))))⟩
  ·
   refine⟨_,rfl,rfl,(ao rfl (aE aA 1 rfl (aF (ag hD27 rfl rfl rfl))))⟩
 refine aK 6 #[true,false,true,false,true,true,false,true,true,false,false,true,false] ⟨53,[(1,.adr (aL s)),(2,.ref 2 0 0 0),(3,.ref 3 0 0 0),(8,.adr ((aL s).drop 0)),(10,.adr ((aL s).drop 1)),(13,.sl 4 (s.opn.map seC)),(16,.sl 4 (s.sub.map enC))],[(3,.box [.s (.int .i64 0),.s (.int .i64 0),.s (.slice none 0 0),.s (.slice none 0 0),.s (.slice none 0 0),.s (.slice none 0 0)]),(2,.box [.s (.int .i64 0),.s (.int .i64 0),.s (.slice none 0 0),.s (.slice none 0 0),.s (.slice none 0 0),.s (.slice none 0 0)])]⟩ ?_ (fun hD41=>?_)
 ·
  refine aG 1 [3,6] (by kernel_rfl) ⟨?_,?_,?_,trivial⟩
  ·
   refine⟨_,rfl,rfl,(ao rfl (aE aA 1 rfl (aF (ag hD22 rfl rfl rfl))))⟩
  ·
   refine⟨_,rfl,rfl,(ao rfl (aE aA 1 rfl (aF (ag hD25 rfl rfl rfl))))⟩
  ·
   refine⟨_,rfl,rfl,(ao rfl (aM hf rfl (aQ rfl rfl fJ rfl (fG s.opn (by omega))) (aF (ag hD27 rfl rfl rfl))))⟩
 refine aK 7 #[true,true,true,true,true,false,false,true,false,false,false,false,false] ⟨53,[(1,.adr (aL s)),(2,.ref 2 0 0 0),(9,.s (.int .i64 s.now)),(11,.s (.int .i64 s.hor)),(12,.adr ((aL s).drop 2)),(15,.adr ((aL s).drop 4))],[(2,.box [.s (.int .i64 0),.s (.int .i64 0),.s (.slice none 0 0),.s (.slice none 0 0),.s (.slice none 0 0),.s (.slice none 0 0)])]⟩ ?_ (fun hD42=>?_)
 ·
  refine aG 5 [8,11] (by kernel_rfl) ⟨?_,?_,?_,trivial⟩
  ·
   refine⟨_,rfl,rfl,(ao rfl (aE aA 1 rfl (aF (ag hD28 rfl rfl rfl))))⟩
  ·
   refine⟨_,rfl,rfl,(ao rfl (aE aA 1 rfl (aF (ag hD29 rfl rfl rfl))))⟩
  ·
   refine⟨_,rfl,rfl,(ao rfl (aX hf rfl rfl rfl bB (aF (ag hD30 rfl rfl rfl))))⟩
 refine aK 7 #[true,true,true,false,true,true,false,true,false,false,false,false,false] ⟨53,[(1,.adr (aL s)),(2,.ref 2 0 0 0),(9,.s (.int .i64 s.now)),(10,.adr ((aL s).drop 1)),(13,.sl 4 (s.opn.map seC)),(15,.adr ((aL s).drop 4))],[(2,.box [.s (.int .i64 0),.s (.int .i64 0),.s (.slice none 0 0),.s (.slice none 0 0),.s (.slice none 0 0),.s (.slice none 0 0)])]⟩ ?_ (fun hD43=>?_)
 ·
  refine aG 3 [6,8,11] (by kernel_rfl) ⟨?_,?_,?_,?_,trivial⟩
  ·
   refine⟨_,rfl,rfl,(ao rfl (aE aA 1 rfl (aF (ag hD28 rfl rfl rfl))))⟩
  ·
   refine⟨_,rfl,rfl,(ao rfl (aM hf rfl (aQ rfl rfl fJ rfl (fG s.opn (by omega))) (aF (ag hD31 rfl rfl rfl))))⟩
  ·
   refine⟨_,rfl,rfl,(ao rfl (aE aA 1 rfl (aF (ag hD32 rfl rfl rfl))))⟩
  ·
   refine⟨_,rfl,rfl,(ao rfl (aX hf rfl rfl rfl bB (aF (ag hD33 rfl rfl rfl))))⟩
 refine aK 7 #[true,true,true,false,true,false,false,true,true,false,false,false,false] ⟨53,[(1,.adr (aL s)),(2,.ref 2 0 0 0),(9,.s (.int .i64 s.now)),(10,.adr ((aL s).drop 1)),(12,.adr ((aL s).drop 2)),(16,.sl 4 (s.sub.map enC))],[(2,.box [.s (.int .i64 0),.s (.int .i64 0),.s (.slice none 0 0),.s (.slice none 0 0),.s (.slice none 0 0),.s (.slice none 0 0)])]⟩ ?_ (fun hD44=>?_)
 ·
  refine aG 3 [5,11] (by kernel_rfl) ⟨?_,?_,?_,trivial⟩
  ·
   refine⟨_,rfl,rfl,(ao rfl (aE aA 1 rfl (aF (ag hD29 rfl rfl rfl))))⟩
  ·
   refine⟨_,rfl,rfl,(ao rfl (aE aA 1 rfl (aF (ag hD32 rfl rfl rfl))))⟩
  ·
   refine⟨_,rfl,rfl,(ao rfl (aX hf rfl rfl rfl bB (aF (ag hD34 rfl rfl rfl))))⟩
 refine aK 7 #[true,true,true,false,true,false,false,true,false,false,false,true,false] ⟨53,[(1,.adr (aL s)),(2,.ref 2 0 0 0),(3,.ref 3 0 0 0),(9,.s (.int .i64 s.now)),(10,.adr ((aL s).drop 1)),(12,.adr ((aL s).drop 2)),(15,.adr ((aL s).drop 4))],[(3,.box [.s (.int .i64 0),.s (.int .i64 0),.s (.slice none 0 0),.s (.slice none 0 0),.s (.slice none 0 0),.s (.slice none 0 0)]),(2,.box [.s (.int .i64 0),.s (.int .i64 0),.s (.slice none 0 0),.s (.slice none 0 0),.s (.slice none 0 0),.s (.slice none 0 0)])]⟩ ?_ (fun hD45=>?_)
 ·
  refine aG 3 [5,8] (by kernel_rfl) ⟨?_,?_,?_,trivial⟩
  ·
   refine⟨_,rfl,rfl,(ao rfl (aE aA 1 rfl (aF (ag hD30 rfl rfl rfl))))⟩
  ·
   refine⟨_,rfl,rfl,(ao rfl (aE aA 1 rfl (aF (ag hD33 rfl rfl rfl))))⟩
  ·
   refine⟨_,rfl,rfl,(ao rfl (aE aA 1 rfl (aF (ag hD34 rfl rfl rfl))))⟩
 refine aK 7 #[true,false,true,true,true,true,false,true,false,false,false,false,false] ⟨53,[(1,.adr (aL s)),(2,.ref 2 0 0 0),(8,.adr ((aL s).drop 0)),(11,.s (.int .i64 s.hor)),(13,.sl 4 (s.opn.map seC)),(15,.adr ((aL s).drop 4))],[(2,.box [.s (.int .i64 0),.s (.int .i64 0),.s (.slice none 0 0),.s (.slice none 0 0),.s (.slice none 0 0),.s (.slice none 0 0)])]⟩ ?_ (fun hD46=>?_)
 ·
  refine aG 1 [6,8,11] (by kernel_rfl) ⟨?_,?_,?_,?_,trivial⟩
  ·
   refine⟨_,rfl,rfl,(ao rfl (aE aA 1 rfl (aF (ag hD28 rfl rfl rfl))))⟩
  ·
   refine⟨_,rfl,rfl,(ao rfl (aM hf rfl (aQ rfl rfl fJ rfl (fG s.opn (by omega))) (aF (ag hD35 rfl rfl rfl))))⟩
  ·
   refine⟨_,rfl,rfl,(ao rfl (aE aA 1 rfl (aF (ag hD36 rfl rfl rfl))))⟩
  ·
   refine⟨_,rfl,rfl,(ao rfl (aX hf rfl rfl rfl bB (aF (ag hD37 rfl rfl rfl))))⟩
 refine aK 7 #[true,false,true,true,true,false,false,true,true,false,false,false,false] ⟨53,[(1,.adr (aL s)),(2,.ref 2 0 0 0),(8,.adr ((aL s).drop 0)),(11,.s (.int .i64 s.hor)),(12,.adr ((aL s).drop 2)),(16,.sl 4 (s.sub.map enC))],[(2,.box [.s (.int .i64 0),.s (.int .i64 0),.s (.slice none 0 0),.s (.slice none 0 0),.s (.slice none 0 0),.s (.slice none 0 0)])]⟩ ?_ (fun hD47=>?_)
 ·
  refine aG 1 [5,11] (by kernel_rfl) ⟨?_,?_,?_,trivial⟩
  ·
   refine⟨_,rfl,rfl,(ao rfl (aE aA 1 rfl (aF (ag hD29 rfl rfl rfl))))⟩
  ·
   refine⟨_,rfl,rfl,(ao rfl (aE aA 1 rfl (aF (ag hD36 rfl rfl rfl))))⟩
  ·
   refine⟨_,rfl,rfl,(ao rfl (aX hf rfl rfl rfl bB (aF (ag hD38 rfl rfl rfl))))⟩
 refine aK 7 #[true,false,true,true,true,false,false,true,false,false,false,true,false] ⟨53,[(1,.adr (aL s)),(2,.ref 2 0 0 0),(3,.ref 3 0 0 0),(8,.adr ((aL s).drop 0)),(11,.s (.int .i64 s.hor)),(12,.adr ((aL s).drop 2)),(15,.adr ((aL s).drop 4))],[(3,.box [.s (.int .i64 0),.s (.int .i64 0),.s (.slice none 0 0),.s (.slice none 0 0),.s (.slice none 0 0),.s (.slice none 0 0)]),(2,.box [.s (.int .i64 0),.s (.int .i64 0),.s (.slice none 0 0),.s (.slice none 0 0),.s (.slice none 0 0),.s (.slice none 0 0)])]⟩ ?_ (fun hD48=>?_)
 ·
  refine aG 1 [5,8] (by kernel_rfl) ⟨?_,?_,?_,trivial⟩
  ·
   refine⟨_,rfl,rfl,(ao rfl (aE aA 1 rfl (aF (ag hD30 rfl rfl rfl))))⟩
  ·
   refine⟨_,rfl,rfl,(ao rfl (aE aA 1 rfl (aF (ag hD37 rfl rfl rfl))))⟩
  ·
   refine⟨_,rfl,rfl,(ao rfl (aE aA 1 rfl (aF (ag hD38 rfl rfl rfl))))⟩
 refine aK 7 #[true,false,true,false,true,true,true,true,false,false,false,false,false] ⟨53,[(1,.adr (aL s)),(2,.ref 2 0 0 0),(8,.adr ((aL s).drop 0)),(10,.adr ((aL s).drop 1)),(14,.sl 4 (s.opn.map seC)),(15,.adr ((aL s).drop 4))],[(2,.box [.s (.int .i64 0),.s (.int .i64 0),.s (.slice none 0 0),.s (.slice none 0 0),.s (.slice none 0 0),.s (.slice none 0 0)])]⟩ ?_ (fun hD49=>?_)
 ·
  refine aG 1 [3,8,11] (by kernel_rfl) ⟨?_,?_,?_,?_,trivial⟩
  ·
   refine⟨_,rfl,rfl,(ao rfl (aE aA 1 rfl (aF (ag hD31 rfl rfl rfl))))⟩
  ·
   refine⟨_,rfl,rfl,(ao rfl (aE aA 1 rfl (aF (ag hD35 rfl rfl rfl))))⟩
  ·
   refine⟨_,rfl,rfl,(ao rfl (aE aA 1 rfl (aF (ag hD39 rfl rfl rfl))))⟩
  ·
   refine⟨_,rfl,rfl,(ao rfl (aX hf rfl rfl rfl bB (aF (ag hD40 rfl rfl rfl))))⟩
 refine aK 7 #[true,false,true,false,true,true,false,true,true,false,false,false,false] ⟨53,[(1,.adr (aL s)),(2,.ref 2 0 0 0),(8,.adr ((aL s).drop 0)),(10,.adr ((aL s).drop 1)),(13,.sl 4 (s.opn.map seC)),(16,.sl 4 (s.sub.map enC))],[(2,.box [.s (.int .i64 0),.s (.int .i64 0),.s (.slice none 0 0),.s (.slice none 0 0),.s (.slice none 0 0),.s (.slice none 0 0)])]⟩ ?_ (fun hD50=>?_)
 ·
  refine aG 1 [3,6,11] (by kernel_rfl) ⟨?_,?_,?_,?_,trivial⟩
  ·
   refine⟨_,rfl,rfl,(ao rfl (aE aA 1 rfl (aF (ag hD32 rfl rfl rfl))))⟩
  ·
   refine⟨_,rfl,rfl,(ao rfl (aE aA 1 rfl (aF (ag hD36 rfl rfl rfl))))⟩
  ·
   refine⟨_,rfl,rfl,(ao rfl (aM hf rfl (aQ rfl rfl fJ rfl (fG s.opn (by omega))) (aF (ag hD39 rfl rfl rfl))))⟩
  ·
   refine⟨_,rfl,rfl,(ao rfl (aX hf rfl rfl rfl bB (aF (ag hD41 rfl rfl rfl))))⟩
 refine aK 7 #[true,false,true,false,true,true,false,true,false,false,false,true,false] ⟨53,[(1,.adr (aL s)),(2,.ref 2 0 0 0),(3,.ref 3 0 0 0),(8,.adr ((aL s).drop 0)),(10,.adr ((aL s).drop 1)),(13,.sl 4 (s.opn.map seC)),(15,.adr ((aL s).drop 4))],[(3,.box [.s (.int .i64 0),.s (.int .i64 0),.s (.slice none 0 0),.s (.slice none 0 0),.s (.slice none 0 0),.s (.slice none 0 0)]),(2,.box [.s (.int .i64 0),.s (.int .i64 0),.s (.slice none 0 0),.s (.slice none 0 0),.s (.slice none 0 0),.s (.slice none 0 0)])]⟩ ?_ (fun hD51=>?_)
 ·
  refine aG 1 [3,6,8] (by kernel_rfl) ⟨?_,?_,?_,?_,trivial⟩
  ·
   refine⟨_,rfl,rfl,(ao rfl (aE aA 1 rfl (aF (ag hD33 rfl rfl rfl))))⟩
  ·
   refine⟨_,rfl,rfl,(ao rfl (aE aA 1 rfl (aF (ag hD37 rfl rfl rfl))))⟩
  ·
   refine⟨_,rfl,rfl,(ao rfl (aM hf rfl (aQ rfl rfl fJ rfl (fG s.opn (by omega))) (aF (ag hD40 rfl rfl rfl))))⟩
  ·
   refine⟨_,rfl,rfl,(ao rfl (aE aA 1 rfl (aF (ag hD41 rfl rfl rfl))))⟩
 refine aK 7 #[true,false,true,false,true,false,false,true,true,false,false,true,false] ⟨53,[(1,.adr (aL s)),(2,.ref 2 0 0 0),(3,.ref 3 0 0 0),(8,.adr ((aL s).drop 0)),(10,.adr ((aL s).drop 1)),(12,.adr ((aL s).drop 2)),(16,.sl 4 (s.sub.map enC))],[(3,.box [.s (.int .i64 0),.s (.int .i64 0),.s (.slice none 0 0),.s (.slice none 0 0),.s (.slice none 0 0),.s (.slice none 0 0)]),(2,.box [.s (.int .i64 0),.s (.int .i64 0),.s (.slice none 0 0),.s (.slice none 0 0),.s (.slice none 0 0),.s (.slice none 0 0)])]⟩ ?_ (fun hD52=>?_)
 ·
  refine aG 1 [3,5] (by kernel_rfl) ⟨?_,?_,?_,trivial⟩
  ·
   refine⟨_,rfl,rfl,(ao rfl (aE aA 1 rfl (aF (ag hD34 rfl rfl rfl))))⟩
  ·
   refine⟨_,rfl,rfl,(ao rfl (aE aA 1 rfl (aF (ag hD38 rfl rfl rfl))))⟩
  ·
   refine⟨_,rfl,rfl,(ao rfl (aE aA 1 rfl (aF (ag hD41 rfl rfl rfl))))⟩
 refine aK 8 #[true,true,true,false,true,false,false,true,false,false,false,false,false] ⟨53,[(1,.adr (aL s)),(2,.ref 2 0 0 0),(9,.s (.int .i64 s.now)),(10,.adr ((aL s).drop 1)),(12,.adr ((aL s).drop 2)),(15,.adr ((aL s).drop 4))],[(2,.box [.s (.int .i64 0),.s (.int .i64 0),.s (.slice none 0 0),.s (.slice none 0 0),.s (.slice none 0 0),.s (.slice none 0 0)])]⟩ ?_ (fun hD53=>?_)
 ·
  refine aG 3 [5,8,11] (by kernel_rfl) ⟨?_,?_,?_,?_,trivial⟩
  ·
   refine⟨_,rfl,rfl,(ao rfl (aE aA 1 rfl (aF (ag hD42 rfl rfl rfl))))⟩
  ·
   refine⟨_,rfl,rfl,(ao rfl (aE aA 1 rfl (aF (ag hD43 rfl rfl rfl))))⟩
  ·
   refine⟨_,rfl,rfl,(ao rfl (aE aA 1 rfl (aF (ag hD44 rfl rfl rfl))))⟩
  ·
   refine⟨_,rfl,rfl,(ao rfl (aX hf rfl rfl rfl bB (aF (ag hD45 rfl rfl rfl))))⟩
 refine aK 8 #[true,false,true,true,true,false,false,true,false,false,false,false,false] ⟨53,[(1,.adr (aL s)),(2,.ref 2 0 0 0),(8,.adr ((aL s).drop 0)),(11,.s (.int .i64 s.hor)),(12,.adr ((aL s).drop 2)),(15,.adr ((aL s).drop 4))],[(2,.box [.s (.int .i64 0),.s (.int .i64 0),.s (.slice none 0 0),.s (.slice none 0 0),.s (.slice none 0 0),.s (.slice none 0 0)])]⟩ ?_ (fun hD54=>?_)
 ·
  refine aG 1 [5,8,11] (by kernel_rfl) ⟨?_,?_,?_,?_,trivial⟩
  ·
   refine⟨_,rfl,rfl,(ao rfl (aE aA 1 rfl (aF (ag hD42 rfl rfl rfl))))⟩
  ·
   refine⟨_,rfl,rfl,(ao rfl (aE aA 1 rfl (aF (ag hD46 rfl rfl rfl))))⟩
  ·
   refine⟨_,rfl,rfl,(ao rfl (aE aA 1 rfl (aF (ag hD47 rfl rfl rfl))))⟩
  ·
   refine⟨_,rfl,rfl,(ao rfl (aX hf rfl rfl rfl bB (aF (ag hD48 rfl rfl rfl))))⟩
 refine aK 8 #[true,false,true,false,true,true,false,true,false,false,false,false,false] ⟨53,[(1,.adr (aL s)),(2,.ref 2 0 0 0),(8,.adr ((aL s).drop 0)),(10,.adr ((aL s).drop 1)),(13,.sl 4 (s.opn.map seC)),(15,.adr ((aL s).drop 4))],[(2,.box [.s (.int .i64 0),.s (.int .i64 0),.s (.slice none 0 0),.s (.slice none 0 0),.s (.slice none 0 0),.s (.slice none 0 0)])]⟩ ?_ (fun hD55=>?_)
 ·
  refine aG 1 [3,6,8,11] (by kernel_rfl) ⟨?_,?_,?_,?_,?_,trivial⟩
  ·
   refine⟨_,rfl,rfl,(ao rfl (aE aA 1 rfl (aF (ag hD43 rfl rfl rfl))))⟩
  ·
   refine⟨_,rfl,rfl,(ao rfl (aE aA 1 rfl (aF (ag hD46 rfl rfl rfl))))⟩
  ·
   refine⟨_,rfl,rfl,(ao rfl (aM hf rfl (aQ rfl rfl fJ rfl (fG s.opn (by omega))) (aF (ag hD49 rfl rfl rfl))))⟩
  ·
   refine⟨_,rfl,rfl,(ao rfl (aE aA 1 rfl (aF (ag hD50 rfl rfl rfl))))⟩
  ·
   refine⟨_,rfl,rfl,(ao rfl (aX hf rfl rfl rfl bB (aF (ag hD51 rfl rfl rfl))))⟩
 refine aK 8 #[true,false,true,false,true,false,false,true,true,false,false,false,false] ⟨53,[(1,.adr (aL s)),(2,.ref 2 0 0 0),(8,.adr ((aL s).drop 0)),(10,.adr ((aL s).drop 1)),(12,.adr ((aL s).drop 2)),(16,.sl 4 (s.sub.map enC))],[(2,.box [.s (.int .i64 0),.s (.int .i64 0),.s (.slice none 0 0),.s (.slice none 0 0),.s (.slice none 0 0),.s (.slice none 0 0)])]⟩ ?_ (fun hD56=>?_)
 ·
  refine aG 1 [3,5,11] (by kernel_rfl) ⟨?_,?_,?_,?_,trivial⟩
  ·
   refine⟨_,rfl,rfl,(ao rfl (aE aA 1 rfl (aF (ag hD44 rfl rfl rfl))))⟩
  ·
   refine⟨_,rfl,rfl,(ao rfl (aE aA 1 rfl (aF (ag hD47 rfl rfl rfl))))⟩
  ·
   refine⟨_,rfl,rfl,(ao rfl (aE aA 1 rfl (aF (ag hD50 rfl rfl rfl))))⟩
  ·
   refine⟨_,rfl,rfl,(ao rfl (aX hf rfl rfl rfl bB (aF (ag hD52 rfl rfl rfl))))⟩
 refine aK 8 #[true,false,true,false,true,false,false,true,false,false,false,true,false] ⟨53,[(1,.adr (aL s)),(2,.ref 2 0 0 0),(3,.ref 3 0 0 0),(8,.adr ((aL s).drop 0)),(10,.adr ((aL s).drop 1)),(12,.adr ((aL s).drop 2)),(15,.adr ((aL s).drop 4))],[(3,.box [.s (.int .i64 0),.s (.int .i64 0),.s (.slice none 0 0),.s (.slice none 0 0),.s (.slice none 0 0),.s (.slice none 0 0)]),(2,.box [.s (.int .i64 0),.s (.int .i64 0),.s (.slice none 0 0),.s (.slice none 0 0),.s (.slice none 0 0),.s (.slice none 0 0)])]⟩ ?_ (fun hD57=>?_)
 ·
  refine aG 1 [3,5,8] (by kernel_rfl) ⟨?_,?_,?_,?_,trivial⟩
  ·
   refine⟨_,rfl,rfl,(ao rfl (aE aA 1 rfl (aF (ag hD45 rfl rfl rfl))))⟩
  ·
   refine⟨_,rfl,rfl,(ao rfl (aE aA 1 rfl (aF (ag hD48 rfl rfl rfl))))⟩
  ·
   refine⟨_,rfl,rfl,(ao rfl (aE aA 1 rfl (aF (ag hD51 rfl rfl rfl))))⟩
  ·
   refine⟨_,rfl,rfl,(ao rfl (aE aA 1 rfl (aF (ag hD52 rfl rfl rfl))))⟩
 refine gQ (lF (sl':=[(1,.adr (aL s)),(2,.ref 2 0 0 0),(8,.adr ((aL s).drop 0)),(10,.adr ((aL s).drop 1)),(12,.adr ((aL s).drop 2)),(15,.adr ((aL s).drop 4))]) (m':=[(2,.box [.s (.int .i64 0),.s (.int .i64 0),.s (.slice none 0 0),.s (.slice none 0 0),.s (.slice none 0 0),.s (.slice none 0 0)])]) rfl rfl rfl) (aG 1 [3,5,8,11] (by kernel_rfl) ⟨?_,?_,?_,?_,?_,trivial⟩)
 ·
  refine⟨_,rfl,rfl,(ao rfl (aE aA 1 rfl (aF (ag hD53 rfl rfl rfl))))⟩
 ·
  refine⟨_,rfl,rfl,(ao rfl (aE aA 1 rfl (aF (ag hD54 rfl rfl rfl))))⟩
 ·
  refine⟨_,rfl,rfl,(ao rfl (aE aA 1 rfl (aF (ag hD55 rfl rfl rfl))))⟩
 ·
  refine⟨_,rfl,rfl,(ao rfl (aE aA 1 rfl (aF (ag hD56 rfl rfl rfl))))⟩
 ·
  refine⟨_,rfl,rfl,(ao rfl (aX hf rfl rfl rfl bB (aF (ag hD57 rfl rfl rfl))))⟩
theorem aRp (s:Sta) (hz:SzS 140737488353280 s) :Den Tryz.prog 20 [.agg (aL s)]  (·=.agg (aL s)):=by
 have z1:=hz.o
 have z2:=hz.u
 have z3:=hz.b
 have z4:=hz.t
 have hlm:(s.usr.map usC).length=s.usr.length:=List.length_map _
 have hlt:(s.tmb.map tmC).length=s.tmb.length:=List.length_map _
 refine aY Tryz.func20 rfl (Nat.le_of_ble_eq_true rfl) (fun w0 A hf=>(aC (fun K1 hK1=>(aB (aM hf rfl (cT rfl rfl (lf rfl)) (aX hf rfl rfl rfl cG (aD (hK1 _ (aC (fun K2 hK2=>(dJ bN ?_)))))))))))
 refine cA (listed':=#[true,false,false,false,false,false,false,false,false,false,false,false,false]) 0 rfl (by kernel_rfl) (by kernel_rfl) (by kernel_rfl) rfl (fun _ _ h=>h) (iG rfl aL2 cI rfl) ?_
 refine cA (listed':=#[true,false,true,false,false,false,false,false,false,false,false,false,false]) 2 rfl (by kernel_rfl) (by kernel_rfl) (by kernel_rfl) rfl (fun _ _ h=>h) (iG rfl aL1 cI rfl) ?_
 refine cA (listed':=#[true,false,true,false,true,false,false,false,false,false,false,false,false]) 4 rfl (by kernel_rfl) (by kernel_rfl) (by kernel_rfl) rfl (fun _ _ h=>h) (iG rfl vB mQ rfl) ?_
 refine cA (listed':=#[true,false,true,false,true,false,false,true,false,false,false,false,false]) 7 rfl (by kernel_rfl) (by kernel_rfl) (by kernel_rfl) rfl (fun _ _ h=>h) (iG rfl vA oD rfl) ?_
 refine aK 0 #[true,true,true,true,true,true,true,true,true,true,true,true,true] ⟨53,[(1,.adr (aL s)),(2,.ref 2 0 0 0),(3,.ref 3 0 0 0)],[(3,.box [.s (.int .i64 s.now),.s (.int .i64 s.hor),.sl 4 (s.opn.map seC),.s (.slice none 0 0),.sl 4 (s.sub.map enC),.s (.slice none 0 0)]),(2,.box [.s (.int .i64 0),.s (.int .i64 0),.s (.slice none 0 0),.s (.slice none 0 0),.s (.slice none 0 0),.s (.slice none 0 0)])]⟩ ?_ (fun hD0=>?_)
 ·
  refine dB (by kernel_rfl) ?_
  refine hK2 _ (aC (fun K3 hK3=>(aC (fun K4 hK4=>(aB (rS hf 3 223 2 5 rfl rfl rfl rfl ?_))))))
  refine rS hf 3 222 2 3 rfl rfl rfl rfl ?_
  refine aE aA 4 rfl (aD (hK4 _ (aR (bY (ι:=Nat) (fun k=>⟨53,[(1,.adr (aL s)),(2,.ref 2 0 0 0),(3,.ref 3 0 0 0),(20,.sl 2 (s.usr.map usC)),(21,.s (.int .i64 ((s.usr.map usC).length:Nat))),(22,.s (.int .i64 (k:Nat)))],[(222,.buf 2 ((s.usr.take k).map usC)),(223,.buf 2 []),(3,.box [.s (.int .i64 s.now),.s (.int .i64 s.hor),.sl 4 (s.opn.map seC),.own 222 2 0 (s.usr.take k).length,.sl 4 (s.sub.map enC),.own 223 2 0 0]),(2,.box [.s (.int .i64 0),.s (.int .i64 0),.s (.slice none 0 0),.s (.slice none 0 0),.s (.slice none 0 0),.s (.slice none 0 0)])]⟩) (fun k=>k≤s.usr.length) (fun k=>s.usr.length - k) 0 ?_ ?_ ?_))))
  · exact Nat.zero_le _
  · exact cJ ⟨rfl,rfl,rfl,rfl,rfl,rfl,trivial⟩ rfl
  ·
   rintro k hC
   refine aC (fun K5 hK5=>(aB (aE aA 1 rfl (aD (hK5 _ (aC (fun K6 hK6=>(aO rfl (fun hc1=>?_) (fun hc1=>?_)))))))))
   ·
    simp only[bs] at hc1
    refine aP (hK6 _ (aC (fun K7 hK7=>(aR (aC (fun K8 hK8=>(aB ?_)))))))
    have hk:k<s.usr.length:=by omega
    have htl:(s.usr.take k).length=k:=by rw[List.length_take]; omega
    refine aH rfl (bA rfl rfl fB dX (by first | exact ixm (by omega) | assumption | exact⟨by decide,rfl⟩)) ?_
    refine aE aA 1 rfl (cF hf rfl oN rfl dX rfl rfl rfl rfl (lf rfl) (aD (hK8 _ (iS hf (L:=#[true,true,true,true,true,true,true,true,true,false,false,false]) 9 3 bN (by kernel_rfl) rfl (by kernel_rfl) rfl ?_))))
    refine bG aA 6 rfl (cC [(31,_)] rfl rfl ⟨⟨rfl,rfl⟩,trivial⟩ rfl (aQ rfl rfl aP2 rfl (aRo s.usr[k].2 (by have:=hz.y _ (List.getElem_mem hk); omega))) ?_)
    refine bX [(29,_),(32,_)] rfl rfl ⟨⟨rfl,rfl⟩,⟨rfl,rfl⟩,trivial⟩ rfl (cK rfl rB sW (l3 rfl) rfl) (cC [(33,_)] rfl rfl ⟨⟨rfl,rfl⟩,trivial⟩ rfl (bD eO rfl rfl rfl rfl (l2 rfl)) (uR [1,2,3,20,21,22,27,34] rfl rfl rfl ?_))
    refine aG 9 [] (by kernel_rfl) ⟨?_,trivial⟩
    ·
     refine⟨_,rfl,rfl,(ao rfl (bZ hf rfl eO rfl rfl rfl (.inl rfl) (by rw[List.length_map]) rfl (by first | rfl | simp [eB,bV]) (by first | (simp only[maxLen,List.length_map,List.length_append,List.length_cons,List.length_nil]; omega) | (simp [maxLen] <;> omega)) (by first | (simp only[List.length_map,List.length_append,List.length_cons,List.length_nil]; omega) | (simp <;> omega)) ?_))⟩
     refine bM (dY [1,2,3,20,21,22,35] rfl) (aF (aG 10 [] (by kernel_rfl) ⟨?_,trivial⟩))
     ·
      refine⟨_,rfl,rfl,(ao rfl (aE aA 1 rfl (aF (aG 11 [] (by kernel_rfl) ⟨?_,trivial⟩))))⟩
      ·
       refine⟨_,rfl,rfl,(ao rfl (aZ hf rfl rfl zK rfl rfl (l1 rfl) (l4 rfl) rfl (aF (dB (by kernel_rfl) ?_))))⟩
       refine hK7 _ (aB ?_)
       refine aH rfl (bS rfl rfl (by omega) (by omega)) ?_
       refine aE aA 1 rfl (aD ?_)
       exact⟨k+1,by omega,by omega,cJ ⟨rfl,rfl,rfl,rfl,rfl,rfl,trivial⟩ (by rw[jK s.usr usC k hk,iH s.usr k hk]; rfl)⟩
   ·
    simp only[bs] at hc1
    refine bF (hK3 _ (aC (fun K9 hK9=>(aC (fun K10 hK10=>(aB (aE aA 4 rfl (aD (hK10 _ (aR (bY (ι:=Nat) (fun q=>⟨53,[(2,.ref 2 0 0 0),(3,.ref 3 0 0 0),(39,.sl 2 (s.tmb.map tmC)),(40,.s (.int .i64 ((s.tmb.map tmC).length:Nat))),(41,.s (.int .i64 (q:Nat)))],[(223,.buf 2 ((s.tmb.take q).map tmC)),(222,.buf 2 (s.usr.map usC)),(3,.box [.s (.int .i64 s.now),.s (.int .i64 s.hor),.sl 4 (s.opn.map seC),.own 222 2 0 s.usr.length,.sl 4 (s.sub.map enC),.own 223 2 0 (s.tmb.take q).length]),(2,.box [.s (.int .i64 0),.s (.int .i64 0),.s (.slice none 0 0),.s (.slice none 0 0),.s (.slice none 0 0),.s (.slice none 0 0)])]⟩) (fun q=>q≤s.tmb.length) (fun q=>s.tmb.length - q) 0 ?_ ?_ ?_)))))))))))
    · exact Nat.zero_le _
    · exact aOg ⟨rfl,rfl,rfl,rfl,rfl,trivial⟩ (fun g=>by rw[List.take_of_length_le (show s.usr.length≤k by omega)]; exact aG7 (by decide))
    ·
     rintro q hC
     refine aC (fun K11 hK11=>(aB (aE aA 1 rfl (aD (hK11 _ (aC (fun K12 hK12=>(aO rfl (fun hc2=>?_) (fun hc2=>?_)))))))))
     ·
      simp only[bs] at hc2
      refine aP (hK12 _ (aC (fun K13 hK13=>(aR (aC (fun K14 hK14=>(aB ?_)))))))
      have hq:q<s.tmb.length:=by omega
      have htl:(s.tmb.take q).length=q:=by rw[List.length_take]; omega
      refine aH rfl (bA rfl rfl iZ fT (by first | exact ixm (by omega) | assumption | exact⟨by decide,rfl⟩)) ?_
      refine aE aA 1 rfl (cF hf rfl wB rfl fT rfl rfl rfl rfl (lf rfl) (aD (hK14 _ (aB (aE aA 3 rfl (aM hf rfl (bD iO rfl rfl rfl rfl (l2 rfl)) (bZ hf rfl iO rfl rfl rfl (.inl rfl) (by rw[List.length_map]) rfl (by first | rfl | simp [eB,bV]) (by first | (simp only[maxLen,List.length_map,List.length_append,List.length_cons,List.length_nil]; omega) | (simp [maxLen] <;> omega)) (by first | (simp only[List.length_map,List.length_append,List.length_cons,List.length_nil]; omega) | (simp <;> omega)) ?_)))))))
      refine bM (dY [2,3,39,40,41,49] rfl) (aE aA 1 rfl (aZ hf rfl rfl aFo rfl rfl (l1 rfl) (l4 rfl) rfl ?_))
      refine bL ?_
      refine hK13 _ (aB ?_)
      refine aH rfl (bS rfl rfl (by omega) (by omega)) ?_
      refine aE aA 1 rfl (aD ?_)
      exact⟨q+1,by omega,by omega,cJ ⟨rfl,rfl,rfl,rfl,rfl,trivial⟩ (by rw[jK s.tmb tmC q hq,iH s.tmb q hq]; rfl)⟩
     ·
      simp only[bs] at hc2
      refine bF (hK9 _ (aC (fun K15 hK15=>(aB (aH rfl (cD (cs':=[.s (.int .i64 s.now),.s (.int .i64 s.hor),.sl 4 (s.opn.map seC),.own 222 2 0 s.usr.length,.sl 4 (s.sub.map enC),.own 223 2 0 (s.tmb.take q).length]) rfl gA cQ rfl rfl rfl) (aZ hf rfl rfl cQ rfl rfl (l1 rfl) (l4 rfl) rfl (aD (hK15 _ (aN ?_)))))))))
      refine⟨_,rfl,?_⟩
      show AV.agg [_,_,_,AV.conv _ (.own 222 2 0 s.usr.length),_,AV.conv _ (.own 223 2 0 (s.tmb.take q).length)]=_
      rw[cE (g:=222) rfl (by rw[List.length_map]),cE (g:=223) rfl (by rw[List.length_map]),List.take_of_length_le (by omega)]; rfl
 refine aK 1 #[true,true,true,true,true,true,true,true,true,true,true,true,false] ⟨53,[(1,.adr (aL s)),(2,.ref 2 0 0 0),(3,.ref 3 0 0 0),(18,.agg [.s (.int .i64 s.now),.s (.int .i64 s.hor),.sl 4 (s.opn.map seC),.s (.slice none 0 0),.sl 4 (s.sub.map enC),.s (.slice none 0 0)])],[(3,.box [.s (.int .i64 0),.s (.int .i64 0),.s (.slice none 0 0),.s (.slice none 0 0),.s (.slice none 0 0),.s (.slice none 0 0)]),(2,.box [.s (.int .i64 0),.s (.int .i64 0),.s (.slice none 0 0),.s (.slice none 0 0),.s (.slice none 0 0),.s (.slice none 0 0)])]⟩ ?_ (fun hD1=>?_)
 ·
  refine aG 12 [] (by kernel_rfl) ⟨?_,trivial⟩
  ·
   refine⟨_,rfl,rfl,(ao rfl (aZ hf rfl rfl cQ rfl rfl (l1 rfl) (l4 rfl) rfl (aF (ag hD0 rfl rfl rfl))))⟩
 refine aK 2 #[true,true,true,true,true,true,true,true,true,true,true,false,false] ⟨53,[(1,.adr (aL s)),(2,.ref 2 0 0 0),(18,.agg [.s (.int .i64 s.now),.s (.int .i64 s.hor),.sl 4 (s.opn.map seC),.s (.slice none 0 0),.sl 4 (s.sub.map enC),.s (.slice none 0 0)])],[(2,.box [.s (.int .i64 0),.s (.int .i64 0),.s (.slice none 0 0),.s (.slice none 0 0),.s (.slice none 0 0),.s (.slice none 0 0)])]⟩ ?_ (fun hD2=>?_)
 ·
  refine aG 11 [] (by kernel_rfl) ⟨?_,trivial⟩
  ·
   refine⟨_,rfl,rfl,(ao rfl (aX hf rfl rfl rfl cG (aF (ag hD1 rfl rfl rfl))))⟩
 refine aK 2 #[true,true,true,true,true,true,true,true,true,true,false,true,false] ⟨53,[(1,.adr (aL s)),(2,.ref 2 0 0 0),(3,.ref 3 0 0 0),(9,.s (.int .i64 s.now)),(11,.s (.int .i64 s.hor)),(14,.sl 4 (s.opn.map seC)),(17,.sl 4 (s.sub.map enC))],[(3,.box [.s (.int .i64 0),.s (.int .i64 0),.s (.slice none 0 0),.s (.slice none 0 0),.s (.slice none 0 0),.s (.slice none 0 0)]),(2,.box [.s (.int .i64 0),.s (.int .i64 0),.s (.slice none 0 0),.s (.slice none 0 0),.s (.slice none 0 0),.s (.slice none 0 0)])]⟩ ?_ (fun hD3=>?_)
 ·
  refine aG 10 [] (by kernel_rfl) ⟨?_,trivial⟩
  ·
   refine⟨_,rfl,rfl,(ao rfl (aH rfl (cK rfl cG jP (l3 rfl) rfl) (aF (ag hD1 rfl rfl rfl))))⟩
 refine aK 3 #[true,true,true,true,true,true,true,true,true,true,false,false,false] ⟨53,[(1,.adr (aL s)),(2,.ref 2 0 0 0),(9,.s (.int .i64 s.now)),(11,.s (.int .i64 s.hor)),(14,.sl 4 (s.opn.map seC)),(17,.sl 4 (s.sub.map enC))],[(2,.box [.s (.int .i64 0),.s (.int .i64 0),.s (.slice none 0 0),.s (.slice none 0 0),.s (.slice none 0 0),.s (.slice none 0 0)])]⟩ ?_ (fun hD4=>?_)
 ·
  refine aG 10 [11] (by kernel_rfl) ⟨?_,?_,trivial⟩
  ·
   refine⟨_,rfl,rfl,(ao rfl (aH rfl (cK rfl cG jP (l3 rfl) rfl) (aF (ag hD2 rfl rfl rfl))))⟩
  ·
   refine⟨_,rfl,rfl,(ao rfl (aX hf rfl rfl rfl cG (aF (ag hD3 rfl rfl rfl))))⟩
 refine aK 3 #[true,true,true,true,true,true,true,true,true,false,false,true,false] ⟨53,[(1,.adr (aL s)),(2,.ref 2 0 0 0),(3,.ref 3 0 0 0),(9,.s (.int .i64 s.now)),(11,.s (.int .i64 s.hor)),(14,.sl 4 (s.opn.map seC)),(16,.sl 4 (s.sub.map enC))],[(3,.box [.s (.int .i64 0),.s (.int .i64 0),.s (.slice none 0 0),.s (.slice none 0 0),.s (.slice none 0 0),.s (.slice none 0 0)]),(2,.box [.s (.int .i64 0),.s (.int .i64 0),.s (.slice none 0 0),.s (.slice none 0 0),.s (.slice none 0 0),.s (.slice none 0 0)])]⟩ ?_ (fun hD5=>?_)
 ·
  refine aG 9 [] (by kernel_rfl) ⟨?_,trivial⟩
  ·
   refine⟨_,rfl,rfl,(ao rfl (aM hf rfl (aQ rfl rfl lI rfl (nE s.sub (by omega))) (aF (ag hD3 rfl rfl rfl))))⟩
 refine aK 3 #[true,true,true,false,true,true,true,true,true,true,false,true,false] ⟨53,[(1,.adr (aL s)),(2,.ref 2 0 0 0),(3,.ref 3 0 0 0),(9,.s (.int .i64 s.now)),(10,.adr ((aL s).drop 1)),(14,.sl 4 (s.opn.map seC)),(17,.sl 4 (s.sub.map enC))],[(3,.box [.s (.int .i64 0),.s (.int .i64 0),.s (.slice none 0 0),.s (.slice none 0 0),.s (.slice none 0 0),.s (.slice none 0 0)]),(2,.box [.s (.int .i64 0),.s (.int .i64 0),.s (.slice none 0 0),.s (.slice none 0 0),.s (.slice none 0 0),.s (.slice none 0 0)])]⟩ ?_ (fun hD6=>?_)
 ·
  refine aG 3 [] (by kernel_rfl) ⟨?_,trivial⟩
  ·
   refine⟨_,rfl,rfl,(ao rfl (aE aA 1 rfl (aF (ag hD3 rfl rfl rfl))))⟩
 refine aK 3 #[true,false,true,true,true,true,true,true,true,true,false,true,false] ⟨53,[(1,.adr (aL s)),(2,.ref 2 0 0 0),(3,.ref 3 0 0 0),(8,.adr ((aL s).drop 0)),(11,.s (.int .i64 s.hor)),(14,.sl 4 (s.opn.map seC)),(17,.sl 4 (s.sub.map enC))],[(3,.box [.s (.int .i64 0),.s (.int .i64 0),.s (.slice none 0 0),.s (.slice none 0 0),.s (.slice none 0 0),.s (.slice none 0 0)]),(2,.box [.s (.int .i64 0),.s (.int .i64 0),.s (.slice none 0 0),.s (.slice none 0 0),.s (.slice none 0 0),.s (.slice none 0 0)])]⟩ ?_ (fun hD7=>?_)
 ·
  refine aG 1 [] (by kernel_rfl) ⟨?_,trivial⟩
  ·
   refine⟨_,rfl,rfl,(ao rfl (aE aA 1 rfl (aF (ag hD3 rfl rfl rfl))))⟩
 refine aK 4 #[true,true,true,true,true,true,true,true,true,false,false,false,false] ⟨53,[(1,.adr (aL s)),(2,.ref 2 0 0 0),(9,.s (.int .i64 s.now)),(11,.s (.int .i64 s.hor)),(14,.sl 4 (s.opn.map seC)),(16,.sl 4 (s.sub.map enC))],[(2,.box [.s (.int .i64 0),.s (.int .i64 0),.s (.slice none 0 0),.s (.slice none 0 0),.s (.slice none 0 0),.s (.slice none 0 0)])]⟩ ?_ (fun hD8=>?_)
 ·
  refine aG 9 [11] (by kernel_rfl) ⟨?_,?_,trivial⟩
  ·
   refine⟨_,rfl,rfl,(ao rfl (aM hf rfl (aQ rfl rfl lI rfl (nE s.sub (by omega))) (aF (ag hD4 rfl rfl rfl))))⟩
  ·
   refine⟨_,rfl,rfl,(ao rfl (aX hf rfl rfl rfl cG (aF (ag hD5 rfl rfl rfl))))⟩
 refine aK 4 #[true,true,true,true,true,true,true,true,false,false,false,true,false] ⟨53,[(1,.adr (aL s)),(2,.ref 2 0 0 0),(3,.ref 3 0 0 0),(9,.s (.int .i64 s.now)),(11,.s (.int .i64 s.hor)),(14,.sl 4 (s.opn.map seC)),(15,.adr ((aL s).drop 4))],[(3,.box [.s (.int .i64 0),.s (.int .i64 0),.s (.slice none 0 0),.s (.slice none 0 0),.s (.slice none 0 0),.s (.slice none 0 0)]),(2,.box [.s (.int .i64 0),.s (.int .i64 0),.s (.slice none 0 0),.s (.slice none 0 0),.s (.slice none 0 0),.s (.slice none 0 0)])]⟩ ?_ (fun hD9=>?_)
 ·
  refine aG 8 [] (by kernel_rfl) ⟨?_,trivial⟩
  ·
   refine⟨_,rfl,rfl,(ao rfl (aE aA 1 rfl (aF (ag hD5 rfl rfl rfl))))⟩
 refine aK 4 #[true,true,true,true,true,true,false,true,true,false,false,true,false] ⟨53,[(1,.adr (aL s)),(2,.ref 2 0 0 0),(3,.ref 3 0 0 0),(9,.s (.int .i64 s.now)),(11,.s (.int .i64 s.hor)),(13,.sl 4 (s.opn.map seC)),(16,.sl 4 (s.sub.map enC))],[(3,.box [.s (.int .i64 0),.s (.int .i64 0),.s (.slice none 0 0),.s (.slice none 0 0),.s (.slice none 0 0),.s (.slice none 0 0)]),(2,.box [.s (.int .i64 0),.s (.int .i64 0),.s (.slice none 0 0),.s (.slice none 0 0),.s (.slice none 0 0),.s (.slice none 0 0)])]⟩ ?_ (fun hD10=>?_)
 ·
  refine aG 6 [] (by kernel_rfl) ⟨?_,trivial⟩
  ·
   refine⟨_,rfl,rfl,(ao rfl (aM hf rfl (aQ rfl rfl fI rfl (fF s.opn (by omega))) (aF (ag hD5 rfl rfl rfl))))⟩
 refine aK 4 #[true,true,true,false,true,true,true,true,true,true,false,false,false] ⟨53,[(1,.adr (aL s)),(2,.ref 2 0 0 0),(9,.s (.int .i64 s.now)),(10,.adr ((aL s).drop 1)),(14,.sl 4 (s.opn.map seC)),(17,.sl 4 (s.sub.map enC))],[(2,.box [.s (.int .i64 0),.s (.int .i64 0),.s (.slice none 0 0),.s (.slice none 0 0),.s (.slice none 0 0),.s (.slice none 0 0)])]⟩ ?_ (fun hD11=>?_)
 ·
  refine aG 3 [11] (by kernel_rfl) ⟨?_,?_,trivial⟩
  ·
   refine⟨_,rfl,rfl,(ao rfl (aE aA 1 rfl (aF (ag hD4 rfl rfl rfl))))⟩
  ·
   refine⟨_,rfl,rfl,(ao rfl (aX hf rfl rfl rfl cG (aF (ag hD6 rfl rfl rfl))))⟩
 refine aK 4 #[true,true,true,false,true,true,true,true,true,false,false,true,false] ⟨53,[(1,.adr (aL s)),(2,.ref 2 0 0 0),(3,.ref 3 0 0 0),(9,.s (.int .i64 s.now)),(10,.adr ((aL s).drop 1)),(14,.sl 4 (s.opn.map seC)),(16,.sl 4 (s.sub.map enC))],[(3,.box [.s (.int .i64 0),.s (.int .i64 0),.s (.slice none 0 0),.s (.slice none 0 0),.s (.slice none 0 0),.s (.slice none 0 0)]),(2,.box [.s (.int .i64 0),.s (.int .i64 0),.s (.slice none 0 0),.s (.slice none 0 0),.s (.slice none 0 0),.s (.slice none 0 0)])]⟩ ?_ (fun hD12=>?_)
 ·
  refine aG 3 [9] (by kernel_rfl) ⟨?_,?_,trivial⟩
  ·
   refine⟨_,rfl,rfl,(ao rfl (aE aA 1 rfl (aF (ag hD5 rfl rfl rfl))))⟩
  ·
   refine⟨_,rfl,rfl,(ao rfl (aM hf rfl (aQ rfl rfl lI rfl (nE s.sub (by omega))) (aF (ag hD6 rfl rfl rfl))))⟩
 refine aK 4 #[true,false,true,true,true,true,true,true,true,true,false,false,false] ⟨53,[(1,.adr (aL s)),(2,.ref 2 0 0 0),(8,.adr ((aL s).drop 0)),(11,.s (.int .i64 s.hor)),(14,.sl 4 (s.opn.map seC)),(17,.sl 4 (s.sub.map enC))],[(2,.box [.s (.int .i64 0),.s (.int .i64 0),.s (.slice none 0 0),.s (.slice none 0 0),.s (.slice none 0 0),.s (.slice none 0 0)])]⟩ ?_ (fun hD13=>?_)
 ·
  refine aG 1 [11] (by kernel_rfl) ⟨?_,?_,trivial⟩
  ·
   refine⟨_,rfl,rfl,(ao rfl (aE aA 1 rfl (aF (ag hD4 rfl rfl rfl))))⟩
  ·
   refine⟨_,rfl,rfl,(ao rfl (aX hf rfl rfl rfl cG (aF (ag hD7 rfl rfl rfl))))⟩
 refine aK 4 #[true,false,true,true,true,true,true,true,true,false,false,true,false] ⟨53,[(1,.adr (aL s)),(2,.ref 2 0 0 0),(3,.ref 3 0 0 0),(8,.adr ((aL s).drop 0)),(11,.s (.int .i64 s.hor)),(14,.sl 4 (s.opn.map seC)),(16,.sl 4 (s.sub.map enC))],[(3,.box [.s (.int .i64 0),.s (.int .i64 0),.s (.slice none 0 0),.s (.slice none 0 0),.s (.slice none 0 0),.s (.slice none 0 0)]),(2,.box [.s (.int .i64 0),.s (.int .i64 0),.s (.slice none 0 0),.s (.slice none 0 0),.s (.slice none 0 0),.s (.slice none 0 0)])]⟩ ?_ (fun hD14=>?_)
 ·
  refine aG 1 [9] (by kernel_rfl) ⟨?_,?_,trivial⟩
  ·
   refine⟨_,rfl,rfl,(ao rfl (aE aA 1 rfl (aF (ag hD5 rfl rfl rfl))))⟩
  ·
   refine⟨_,rfl,rfl,(ao rfl (aM hf rfl (aQ rfl rfl lI rfl (nE s.sub (by omega))) (aF (ag hD7 rfl rfl rfl))))⟩
 refine aK 4 #[true,false,true,false,true,true,true,true,true,true,false,true,false] ⟨53,[(1,.adr (aL s)),(2,.ref 2 0 0 0),(3,.ref 3 0 0 0),(8,.adr ((aL s).drop 0)),(10,.adr ((aL s).drop 1)),(14,.sl 4 (s.opn.map seC)),(17,.sl 4 (s.sub.map enC))],[(3,.box [.s (.int .i64 0),.s (.int .i64 0),.s (.slice none 0 0),.s (.slice none 0 0),.s (.slice none 0 0),.s (.slice none 0 0)]),(2,.box [.s (.int .i64 0),.s (.int .i64 0),.s (.slice none 0 0),.s (.slice none 0 0),.s (.slice none 0 0),.s (.slice none 0 0)])]⟩ ?_ (fun hD15=>?_)
 ·
  refine aG 1 [3] (by kernel_rfl) ⟨?_,?_,trivial⟩
  ·
   refine⟨_,rfl,rfl,(ao rfl (aE aA 1 rfl (aF (ag hD6 rfl rfl rfl))))⟩
  ·
   refine⟨_,rfl,rfl,(ao rfl (aE aA 1 rfl (aF (ag hD7 rfl rfl rfl))))⟩
 refine aK 5 #[true,true,true,true,true,true,true,true,false,false,false,false,false] ⟨53,[(1,.adr (aL s)),(2,.ref 2 0 0 0),(9,.s (.int .i64 s.now)),(11,.s (.int .i64 s.hor)),(14,.sl 4 (s.opn.map seC)),(15,.adr ((aL s).drop 4))],[(2,.box [.s (.int .i64 0),.s (.int .i64 0),.s (.slice none 0 0),.s (.slice none 0 0),.s (.slice none 0 0),.s (.slice none 0 0)])]⟩ ?_ (fun hD16=>?_)
 ·
  refine aG 8 [11] (by kernel_rfl) ⟨?_,?_,trivial⟩
  ·
   refine⟨_,rfl,rfl,(ao rfl (aE aA 1 rfl (aF (ag hD8 rfl rfl rfl))))⟩
  ·
   refine⟨_,rfl,rfl,(ao rfl (aX hf rfl rfl rfl cG (aF (ag hD9 rfl rfl rfl))))⟩
 refine aK 5 #[true,true,true,true,true,true,false,true,true,false,false,false,false] ⟨53,[(1,.adr (aL s)),(2,.ref 2 0 0 0),(9,.s (.int .i64 s.now)),(11,.s (.int .i64 s.hor)),(13,.sl 4 (s.opn.map seC)),(16,.sl 4 (s.sub.map enC))],[(2,.box [.s (.int .i64 0),.s (.int .i64 0),.s (.slice none 0 0),.s (.slice none 0 0),.s (.slice none 0 0),.s (.slice none 0 0)])]⟩ ?_ (fun hD17=>?_)
 ·
  refine aG 6 [11] (by kernel_rfl) ⟨?_,?_,trivial⟩
  ·
   refine⟨_,rfl,rfl,(ao rfl (aM hf rfl (aQ rfl rfl fI rfl (fF s.opn (by omega))) (aF (ag hD8 rfl rfl rfl))))⟩
  ·
   refine⟨_,rfl,rfl,(ao rfl (aX hf rfl rfl rfl cG (aF (ag hD10 rfl rfl rfl))))⟩
 refine aK 5 #[true,true,true,true,true,true,false,true,false,false,false,true,false] ⟨53,[(1,.adr (aL s)),(2,.ref 2 0 0 0),(3,.ref 3 0 0 0),(9,.s (.int .i64 s.now)),(11,.s (.int .i64 s.hor)),(13,.sl 4 (s.opn.map seC)),(15,.adr ((aL s).drop 4))],[(3,.box [.s (.int .i64 0),.s (.int .i64 0),.s (.slice none 0 0),.s (.slice none 0 0),.s (.slice none 0 0),.s (.slice none 0 0)]),(2,.box [.s (.int .i64 0),.s (.int .i64 0),.s (.slice none 0 0),.s (.slice none 0 0),.s (.slice none 0 0),.s (.slice none 0 0)])]⟩ ?_ (fun hD18=>?_)
 ·
  refine aG 6 [8] (by kernel_rfl) ⟨?_,?_,trivial⟩
  ·
   refine⟨_,rfl,rfl,(ao rfl (aM hf rfl (aQ rfl rfl fI rfl (fF s.opn (by omega))) (aF (ag hD9 rfl rfl rfl))))⟩
  ·
   refine⟨_,rfl,rfl,(ao rfl (aE aA 1 rfl (aF (ag hD10 rfl rfl rfl))))⟩
 refine aK 5 #[true,true,true,true,true,false,false,true,true,false,false,true,false] ⟨53,[(1,.adr (aL s)),(2,.ref 2 0 0 0),(3,.ref 3 0 0 0),(9,.s (.int .i64 s.now)),(11,.s (.int .i64 s.hor)),(12,.adr ((aL s).drop 2)),(16,.sl 4 (s.sub.map enC))],[(3,.box [.s (.int .i64 0),.s (.int .i64 0),.s (.slice none 0 0),.s (.slice none 0 0),.s (.slice none 0 0),.s (.slice none 0 0)]),(2,.box [.s (.int .i64 0),.s (.int .i64 0),.s (.slice none 0 0),.s (.slice none 0 0),.s (.slice none 0 0),.s (.slice none 0 0)])]⟩ ?_ (fun hD19=>?_)
 ·
  refine aG 5 [] (by kernel_rfl) ⟨?_,trivial⟩
  ·
   refine⟨_,rfl,rfl,(ao rfl (aE aA 1 rfl (aF (ag hD10 rfl rfl rfl))))⟩
 refine aK 5 #[true,true,true,false,true,true,true,true,true,false,false,false,false] ⟨53,[(1,.adr (aL s)),(2,.ref 2 0 0 0),(9,.s (.int .i64 s.now)),(10,.adr ((aL s).drop 1)),(14,.sl 4 (s.opn.map seC)),(16,.sl 4 (s.sub.map enC))],[(2,.box [.s (.int .i64 0),.s (.int .i64 0),.s (.slice none 0 0),.s (.slice none 0 0),.s (.slice none 0 0),.s (.slice none 0 0)])]⟩ ?_ (fun hD20=>?_)
 ·
  refine aG 3 [9,11] (by kernel_rfl) ⟨?_,?_,?_,trivial⟩
  ·
   refine⟨_,rfl,rfl,(ao rfl (aE aA 1 rfl (aF (ag hD8 rfl rfl rfl))))⟩
  ·
   refine⟨_,rfl,rfl,(ao rfl (aM hf rfl (aQ rfl rfl lI rfl (nE s.sub (by omega))) (aF (ag hD11 rfl rfl rfl))))⟩
  ·
   refine⟨_,rfl,rfl,(ao rfl (aX hf rfl rfl rfl cG (aF (ag hD12 rfl rfl rfl))))⟩
 refine aK 5 #[true,true,true,false,true,true,true,true,false,false,false,true,false] ⟨53,[(1,.adr (aL s)),(2,.ref 2 0 0 0),(3,.ref 3 0 0 0),(9,.s (.int .i64 s.now)),(10,.adr ((aL s).drop 1)),(14,.sl 4 (s.opn.map seC)),(15,.adr ((aL s).drop 4))],[(3,.box [.s (.int .i64 0),.s (.int .i64 0),.s (.slice none 0 0),.s (.slice none 0 0),.s (.slice none 0 0),.s (.slice none 0 0)]),(2,.box [.s (.int .i64 0),.s (.int .i64 0),.s (.slice none 0 0),.s (.slice none 0 0),.s (.slice none 0 0),.s (.slice none 0 0)])]⟩ ?_ (fun hD21=>?_)
 ·
  refine aG 3 [8] (by kernel_rfl) ⟨?_,?_,trivial⟩
  ·
   refine⟨_,rfl,rfl,(ao rfl (aE aA 1 rfl (aF (ag hD9 rfl rfl rfl))))⟩
  ·
   refine⟨_,rfl,rfl,(ao rfl (aE aA 1 rfl (aF (ag hD12 rfl rfl rfl))))⟩
 refine aK 5 #[true,true,true,false,true,true,false,true,true,false,false,true,false] ⟨53,[(1,.adr (aL s)),(2,.ref 2 0 0 0),(3,.ref 3 0 0 0),(9,.s (.int .i64 s.now)),(10,.adr ((aL s).drop 1)),(13,.sl 4 (s.opn.map seC)),(16,.sl 4 (s.sub.map enC))],[(3,.box [.s (.int .i64 0),.s (.int .i64 0),.s (.slice none 0 0),.s (.slice none 0 0),.s (.slice none 0 0),.s (.slice none 0 0)]),(2,.box [.s (.int .i64 0),.s (.int .i64 0),.s (.slice none 0 0),.s (.slice none 0 0),.s (.slice none 0 0),.s (.slice none 0 0)])]⟩ ?_ (fun hD22=>?_)
 ·
  refine aG 3 [6] (by kernel_rfl) ⟨?_,?_,trivial⟩
  ·
   refine⟨_,rfl,rfl,(ao rfl (aE aA 1 rfl (aF (ag hD10 rfl rfl rfl))))⟩
  ·
   refine⟨_,rfl,rfl,(ao rfl (aM hf rfl (aQ rfl rfl fI rfl (fF s.opn (by omega))) (aF (ag hD12 rfl rfl rfl))))⟩
 refine aK 5 #[true,false,true,true,true,true,true,true,true,false,false,false,false] ⟨53,[(1,.adr (aL s)),(2,.ref 2 0 0 0),(8,.adr ((aL s).drop 0)),(11,.s (.int .i64 s.hor)),(14,.sl 4 (s.opn.map seC)),(16,.sl 4 (s.sub.map enC))],[(2,.box [.s (.int .i64 0),.s (.int .i64 0),.s (.slice none 0 0),.s (.slice none 0 0),.s (.slice none 0 0),.s (.slice none 0 0)])]⟩ ?_ (fun hD23=>?_)
 ·
  refine aG 1 [9,11] (by kernel_rfl) ⟨?_,?_,?_,trivial⟩
  ·
   refine⟨_,rfl,rfl,(ao rfl (aE aA 1 rfl (aF (ag hD8 rfl rfl rfl))))⟩
  ·
   refine⟨_,rfl,rfl,(ao rfl (aM hf rfl (aQ rfl rfl lI rfl (nE s.sub (by omega))) (aF (ag hD13 rfl rfl rfl))))⟩
  ·
   refine⟨_,rfl,rfl,(ao rfl (aX hf rfl rfl rfl cG (aF (ag hD14 rfl rfl rfl))))⟩
 refine aK 5 #[true,false,true,true,true,true,true,true,false,false,false,true,false] ⟨53,[(1,.adr (aL s)),(2,.ref 2 0 0 0),(3,.ref 3 0 0 0),(8,.adr ((aL s).drop 0)),(11,.s (.int .i64 s.hor)),(14,.sl 4 (s.opn.map seC)),(15,.adr ((aL s).drop 4))],[(3,.box [.s (.int .i64 0),.s (.int .i64 0),.s (.slice none 0 0),.s (.slice none 0 0),.s (.slice none 0 0),.s (.slice none 0 0)]),(2,.box [.s (.int .i64 0),.s (.int .i64 0),.s (.slice none 0 0),.s (.slice none 0 0),.s (.slice none 0 0),.s (.slice none 0 0)])]⟩ ?_ (fun hD24=>?_)
 ·
  refine aG 1 [8] (by kernel_rfl) ⟨?_,?_,trivial⟩
  ·
   refine⟨_,rfl,rfl,(ao rfl (aE aA 1 rfl (aF (ag hD9 rfl rfl rfl))))⟩
  ·
   refine⟨_,rfl,rfl,(ao rfl (aE aA 1 rfl (aF (ag hD14 rfl rfl rfl))))⟩
 refine aK 5 #[true,false,true,true,true,true,false,true,true,false,false,true,false] ⟨53,[(1,.adr (aL s)),(2,.ref 2 0 0 0),(3,.ref 3 0 0 0),(8,.adr ((aL s).drop 0)),(11,.s (.int .i64 s.hor)),(13,.sl 4 (s.opn.map seC)),(16,.sl 4 (s.sub.map enC))],[(3,.box [.s (.int .i64 0),.s (.int .i64 0),.s (.slice none 0 0),.s (.slice none 0 0),.s (.slice none 0 0),.s (.slice none 0 0)]),(2,.box [.s (.int .i64 0),.s (.int .i64 0),.s (.slice none 0 0),.s (.slice none 0 0),.s (.slice none 0 0),.s (.slice none 0 0)])]⟩ ?_ (fun hD25=>?_)
 ·
  refine aG 1 [6] (by kernel_rfl) ⟨?_,?_,trivial⟩
  ·
   refine⟨_,rfl,rfl,(ao rfl (aE aA 1 rfl (aF (ag hD10 rfl rfl rfl))))⟩
  ·
   refine⟨_,rfl,rfl,(ao rfl (aM hf rfl (aQ rfl rfl fI rfl (fF s.opn (by omega))) (aF (ag hD14 rfl rfl rfl))))⟩
 refine aK 5 #[true,false,true,false,true,true,true,true,true,true,false,false,false] ⟨53,[(1,.adr (aL s)),(2,.ref 2 0 0 0),(8,.adr ((aL s).drop 0)),(10,.adr ((aL s).drop 1)),(14,.sl 4 (s.opn.map seC)),(17,.sl 4 (s.sub.map enC))],[(2,.box [.s (.int .i64 0),.s (.int .i64 0),.s (.slice none 0 0),.s (.slice none 0 0),.s (.slice none 0 0),.s (.slice none 0 0)])]⟩ ?_ (fun hD26=>?_)
 ·
  refine aG 1 [3,11] (by kernel_rfl) ⟨?_,?_,?_,trivial⟩
  ·
   refine⟨_,rfl,rfl,(ao rfl (aE aA 1 rfl (aF (ag hD11 rfl rfl rfl))))⟩
  ·
   refine⟨_,rfl,rfl,(ao rfl (aE aA 1 rfl (aF (ag hD13 rfl rfl rfl))))⟩
  ·
   refine⟨_,rfl,rfl,(ao rfl (aX hf rfl rfl rfl cG (aF (ag hD15 rfl rfl rfl))))⟩
 refine aK 5 #[true,false,true,false,true,true,true,true,true,false,false,true,false] ⟨53,[(1,.adr (aL s)),(2,.ref 2 0 0 0),(3,.ref 3 0 0 0),(8,.adr ((aL s).drop 0)),(10,.adr ((aL s).drop 1)),(14,.sl 4 (s.opn.map seC)),(16,.sl 4 (s.sub.map enC))],[(3,.box [.s (.int .i64 0),.s (.int .i64 0),.s (.slice none 0 0),.s (.slice none 0 0),.s (.slice none 0 0),.s (.slice none 0 0)]),(2,.box [.s (.int .i64 0),.s (.int .i64 0),.s (.slice none 0 0),.s (.slice none 0 0),.s (.slice none 0 0),.s (.slice none 0 0)])]⟩ ?_ (fun hD27=>?_)
 ·
  refine aG 1 [3,9] (by kernel_rfl) ⟨?_,?_,?_,trivial⟩
  ·
   refine⟨_,rfl,rfl,(ao rfl (aE aA 1 rfl (aF (ag hD12 rfl rfl rfl))))⟩
  ·
   refine⟨_,rfl,rfl,(ao rfl (aE aA 1 rfl (aF (ag hD14 rfl rfl rfl))))⟩
  ·
   refine⟨_,rfl,rfl,(ao rfl (aM hf rfl (aQ rfl rfl lI rfl (nE s.sub (by omega))) (aF (ag hD15 rfl rfl rfl))))⟩
 refine aK 6 #[true,true,true,true,true,true,false,true,false,false,false,false,false] ⟨53,[(1,.adr (aL s)),(2,.ref 2 0 0 0),(9,.s (.int .i64 s.now)),(11,.s (.int .i64 s.hor)),(13,.sl 4 (s.opn.map seC)),(15,.adr ((aL s).drop 4))],[(2,.box [.s (.int .i64 0),.s (.int .i64 0),.s (.slice none 0 0),.s (.slice none 0 0),.s (.slice none 0 0),.s (.slice none 0 0)])]⟩ ?_ (fun hD28=>?_)
 ·
  refine aG 6 [8,11] (by kernel_rfl) ⟨?_,?_,?_,trivial⟩
  ·
   refine⟨_,rfl,rfl,(ao rfl (aM hf rfl (aQ rfl rfl fI rfl (fF s.opn (by omega))) (aF (ag hD16 rfl rfl rfl))))⟩
  ·
   refine⟨_,rfl,rfl,(ao rfl (aE aA 1 rfl (aF (ag hD17 rfl rfl rfl))))⟩
  ·
   refine⟨_,rfl,rfl,(ao rfl (aX hf rfl rfl rfl cG (aF (ag hD18 rfl rfl rfl))))⟩
 refine aK 6 #[true,true,true,true,true,false,false,true,true,false,false,false,false] ⟨53,[(1,.adr (aL s)),(2,.ref 2 0 0 0),(9,.s (.int .i64 s.now)),(11,.s (.int .i64 s.hor)),(12,.adr ((aL s).drop 2)),(16,.sl 4 (s.sub.map enC))],[(2,.box [.s (.int .i64 0),.s (.int .i64 0),.s (.slice none 0 0),.s (.slice none 0 0),.s (.slice none 0 0),.s (.slice none 0 0)])]⟩ ?_ (fun hD29=>?_)
 ·
  refine aG 5 [11] (by kernel_rfl) ⟨?_,?_,trivial⟩
  ·
   refine⟨_,rfl,rfl,(ao rfl (aE aA 1 rfl (aF (ag hD17 rfl rfl rfl))))⟩
  ·
   refine⟨_,rfl,rfl,(ao rfl (aX hf rfl rfl rfl cG (aF (ag hD19 rfl rfl rfl))))⟩
 refine aK 6 #[true,true,true,true,true,false,false,true,false,false,false,true,false] ⟨53,[(1,.adr (aL s)),(2,.ref 2 0 0 0),(3,.ref 3 0 0 0),(9,.s (.int .i64 s.now)),(11,.s (.int .i64 s.hor)),(12,.adr ((aL s).drop 2)),(15,.adr ((aL s).drop 4))],[(3,.box [.s (.int .i64 0),.s (.int .i64 0),.s (.slice none 0 0),.s (.slice none 0 0),.s (.slice none 0 0),.s (.slice none 0 0)]),(2,.box [.s (.int .i64 0),.s (.int .i64 0),.s (.slice none 0 0),.s (.slice none 0 0),.s (.slice none 0 0),.s (.slice none 0 0)])]⟩ ?_ (fun hD30=>?_)
 ·
  refine aG 5 [8] (by kernel_rfl) ⟨?_,?_,trivial⟩
  ·
   refine⟨_,rfl,rfl,(ao rfl (aE aA 1 rfl (aF (ag hD18 rfl rfl rfl))))⟩
  ·
   refine⟨_,rfl,rfl,(ao rfl (aE aA 1 rfl (aF (ag hD19 rfl rfl rfl))))⟩
 refine aK 6 #[true,true,true,false,true,true,true,true,false,false,false,false,false] ⟨53,[(1,.adr (aL s)),(2,.ref 2 0 0 0),(9,.s (.int .i64 s.now)),(10,.adr ((aL s).drop 1)),(14,.sl 4 (s.opn.map seC)),(15,.adr ((aL s).drop 4))],[(2,.box [.s (.int .i64 0),.s (.int .i64 0),.s (.slice none 0 0),.s (.slice none 0 0),.s (.slice none 0 0),.s (.slice none 0 0)])]⟩ ?_ (fun hD31=>?_)
 ·
  refine aG 3 [8,11] (by kernel_rfl) ⟨?_,?_,?_,trivial⟩
  ·
   refine⟨_,rfl,rfl,(ao rfl (aE aA 1 rfl (aF (ag hD16 rfl rfl rfl))))⟩
  ·
   refine⟨_,rfl,rfl,(ao rfl (aE aA 1 rfl (aF (ag hD20 rfl rfl rfl))))⟩
  ·
   refine⟨_,rfl,rfl,(ao rfl (aX hf rfl rfl rfl cG (aF (ag hD21 rfl rfl rfl))))⟩
 refine aK 6 #[true,true,true,false,true,true,false,true,true,false,false,false,false] ⟨53,[(1,.adr (aL s)),(2,.ref 2 0 0 0),(9,.s (.int .i64 s.now)),(10,.adr ((aL s).drop 1)),(13,.sl 4 (s.opn.map seC)),(16,.sl 4 (s.sub.map enC))],[(2,.box [.s (.int .i64 0),.s (.int .i64 0),.s (.slice none 0 0),.s (.slice none 0 0),.s (.slice none 0 0),.s (.slice none 0 0)])]⟩ ?_ (fun hD32=>?_)
 ·
  refine aG 3 [6,11] (by kernel_rfl) ⟨?_,?_,?_,trivial⟩
  ·
   refine⟨_,rfl,rfl,(ao rfl (aE aA 1 rfl (aF (ag hD17 rfl rfl rfl))))⟩
  ·
   refine⟨_,rfl,rfl,(ao rfl (aM hf rfl (aQ rfl rfl fI rfl (fF s.opn (by omega))) (aF (ag hD20 rfl rfl rfl))))⟩
  ·
   refine⟨_,rfl,rfl,(ao rfl (aX hf rfl rfl rfl cG (aF (ag hD22 rfl rfl rfl))))⟩
 refine aK 6 #[true,true,true,false,true,true,false,true,false,false,false,true,false] ⟨53,[(1,.adr (aL s)),(2,.ref 2 0 0 0),(3,.ref 3 0 0 0),(9,.s (.int .i64 s.now)),(10,.adr ((aL s).drop 1)),(13,.sl 4 (s.opn.map seC)),(15,.adr ((aL s).drop 4))],[(3,.box [.s (.int .i64 0),.s (.int .i64 0),.s (.slice none 0 0),.s (.slice none 0 0),.s (.slice none 0 0),.s (.slice none 0 0)]),(2,.box [.s (.int .i64 0),.s (.int .i64 0),.s (.slice none 0 0),.s (.slice none 0 0),.s (.slice none 0 0),.s (.slice none 0 0)])]⟩ ?_ (fun hD33=>?_)
 ·
  refine aG 3 [6,8] (by kernel_rfl) ⟨?_,?_,?_,trivial⟩
  ·
   refine⟨_,rfl,rfl,(ao rfl (aE aA 1 rfl (aF (ag hD18 rfl rfl rfl))))⟩
  ·
   refine⟨_,rfl,rfl,(ao rfl (aM hf rfl (aQ rfl rfl fI rfl (fF s.opn (by omega))) (aF (ag hD21 rfl rfl rfl))))⟩
  ·
   refine⟨_,rfl,rfl,(ao rfl (aE aA 1 rfl (aF (ag hD22 rfl rfl rfl))))⟩
 refine aK 6 #[true,true,true,false,true,false,false,true,true,false,false,true,false] ⟨53,[(1,.adr (aL s)),(2,.ref 2 0 0 0),(3,.ref 3 0 0 0),(9,.s (.int .i64 s.now)),(10,.adr ((aL s).drop 1)),(12,.adr ((aL s).drop 2)),(16,.sl 4 (s.sub.map enC))],[(3,.box [.s (.int .i64 0),.s (.int .i64 0),.s (.slice none 0 0),.s (.slice none 0 0),.s (.slice none 0 0),.s (.slice none 0 0)]),(2,.box [.s (.int .i64 0),.s (.int .i64 0),.s (.slice none 0 0),.s (.slice none 0 0),.s (.slice none 0 0),.s (.slice none 0 0)])]⟩ ?_ (fun hD34=>?_)
 ·
  refine aG 3 [5] (by kernel_rfl) ⟨?_,?_,trivial⟩
  ·
   refine⟨_,rfl,rfl,(ao rfl (aE aA 1 rfl (aF (ag hD19 rfl rfl rfl))))⟩
  ·
   refine⟨_,rfl,rfl,(ao rfl (aE aA 1 rfl (aF (ag hD22 rfl rfl rfl))))⟩
 refine aK 6 #[true,false,true,true,true,true,true,true,false,false,false,false,false] ⟨53,[(1,.adr (aL s)),(2,.ref 2 0 0 0),(8,.adr ((aL s).drop 0)),(11,.s (.int .i64 s.hor)),(14,.sl 4 (s.opn.map seC)),(15,.adr ((aL s).drop 4))],[(2,.box [.s (.int .i64 0),.s (.int .i64 0),.s (.slice none 0 0),.s (.slice none 0 0),.s (.slice none 0 0),.s (.slice none 0 0)])]⟩ ?_ (fun hD35=>?_)
 ·
  refine aG 1 [8,11] (by kernel_rfl) ⟨?_,?_,?_,trivial⟩
  ·
   refine⟨_,rfl,rfl,(ao rfl (aE aA 1 rfl (aF (ag hD16 rfl rfl rfl))))⟩
  ·
   refine⟨_,rfl,rfl,(ao rfl (aE aA 1 rfl (aF (ag hD23 rfl rfl rfl))))⟩
  ·
   refine⟨_,rfl,rfl,(ao rfl (aX hf rfl rfl rfl cG (aF (ag hD24 rfl rfl rfl))))⟩
 refine aK 6 #[true,false,true,true,true,true,false,true,true,false,false,false,false] ⟨53,[(1,.adr (aL s)),(2,.ref 2 0 0 0),(8,.adr ((aL s).drop 0)),(11,.s (.int .i64 s.hor)),(13,.sl 4 (s.opn.map seC)),(16,.sl 4 (s.sub.map enC))],[(2,.box [.s (.int .i64 0),.s (.int .i64 0),.s (.slice none 0 0),.s (.slice none 0 0),.s (.slice none 0 0),.s (.slice none 0 0)])]⟩ ?_ (fun hD36=>?_)
 ·
  refine aG 1 [6,11] (by kernel_rfl) ⟨?_,?_,?_,trivial⟩
  ·
   refine⟨_,rfl,rfl,(ao rfl (aE aA 1 rfl (aF (ag hD17 rfl rfl rfl))))⟩
  ·
   refine⟨_,rfl,rfl,(ao rfl (aM hf rfl (aQ rfl rfl fI rfl (fF s.opn (by omega))) (aF (ag hD23 rfl rfl rfl))))⟩
  ·
   refine⟨_,rfl,rfl,(ao rfl (aX hf rfl rfl rfl cG (aF (ag hD25 rfl rfl rfl))))⟩
 refine aK 6 #[true,false,true,true,true,true,false,true,false,false,false,true,false] ⟨53,[(1,.adr (aL s)),(2,.ref 2 0 0 0),(3,.ref 3 0 0 0),(8,.adr ((aL s).drop 0)),(11,.s (.int .i64 s.hor)),(13,.sl 4 (s.opn.map seC)),(15,.adr ((aL s).drop 4))],[(3,.box [.s (.int .i64 0),.s (.int .i64 0),.s (.slice none 0 0),.s (.slice none 0 0),.s (.slice none 0 0),.s (.slice none 0 0)]),(2,.box [.s (.int .i64 0),.s (.int .i64 0),.s (.slice none 0 0),.s (.slice none 0 0),.s (.slice none 0 0),.s (.slice none 0 0)])]⟩ ?_ (fun hD37=>?_)
 ·
  refine aG 1 [6,8] (by kernel_rfl) ⟨?_,?_,?_,trivial⟩
  ·
   refine⟨_,rfl,rfl,(ao rfl (aE aA 1 rfl (aF (ag hD18 rfl rfl rfl))))⟩
  ·
   refine⟨_,rfl,rfl,(ao rfl (aM hf rfl (aQ rfl rfl fI rfl (fF s.opn (by omega))) (aF (ag hD24 rfl rfl rfl))))⟩
  ·
   refine⟨_,rfl,rfl,(ao rfl (aE aA 1 rfl (aF (ag hD25 rfl rfl rfl))))⟩
 refine aK 6 #[true,false,true,true,true,false,false,true,true,false,false,true,false] ⟨53,[(1,.adr (aL s)),(2,.ref 2 0 0 0),(3,.ref 3 0 0 0),(8,.adr ((aL s).drop 0)),(11,.s (.int .i64 s.hor)),(12,.adr ((aL s).drop 2)),(16,.sl 4 (s.sub.map enC))],[(3,.box [.s (.int .i64 0),.s (.int .i64 0),.s (.slice none 0 0),.s (.slice none 0 0),.s (.slice none 0 0),.s (.slice none 0 0)]),(2,.box [.s (.int .i64 0),.s (.int .i64 0),.s (.slice none 0 0),.s (.slice none 0 0),.s (.slice none 0 0),.s (.slice none 0 0)])]⟩ ?_ (fun hD38=>?_)
 ·
  refine aG 1 [5] (by kernel_rfl) ⟨?_,?_,trivial⟩
  ·
   refine⟨_,rfl,rfl,(ao rfl (aE aA 1 rfl (aF (ag hD19 rfl rfl rfl))))⟩
  ·
   refine⟨_,rfl,rfl,(ao rfl (aE aA 1 rfl (aF (ag hD25 rfl rfl rfl))))⟩
 refine aK 6 #[true,false,true,false,true,true,true,true,true,false,false,false,false] ⟨53,[(1,.adr (aL s)),(2,.ref 2 0 0 0),(8,.adr ((aL s).drop 0)),(10,.adr ((aL s).drop 1)),(14,.sl 4 (s.opn.map seC)),(16,.sl 4 (s.sub.map enC))],[(2,.box [.s (.int .i64 0),.s (.int .i64 0),.s (.slice none 0 0),.s (.slice none 0 0),.s (.slice none 0 0),.s (.slice none 0 0)])]⟩ ?_ (fun hD39=>?_)
 ·
  refine aG 1 [3,9,11] (by kernel_rfl) ⟨?_,?_,?_,?_,trivial⟩
  ·
   refine⟨_,rfl,rfl,(ao rfl (aE aA 1 rfl (aF (ag hD20 rfl rfl rfl))))⟩
  ·
   refine⟨_,rfl,rfl,(ao rfl (aE aA 1 rfl (aF (ag hD23 rfl rfl rfl))))⟩
  ·
   refine⟨_,rfl,rfl,(ao rfl (aM hf rfl (aQ rfl rfl lI rfl (nE s.sub (by omega))) (aF (ag hD26 rfl rfl rfl))))⟩
  ·
   refine⟨_,rfl,rfl,(ao rfl (aX hf rfl rfl rfl cG (aF (ag hD27 rfl rfl rfl))))⟩
 refine aK 6 #[true,false,true,false,true,true,true,true,false,false,false,true,false] ⟨53,[(1,.adr (aL s)),(2,.ref 2 0 0 0),(3,.ref 3 0 0 0),(8,.adr ((aL s).drop 0)),(10,.adr ((aL s).drop 1)),(14,.sl 4 (s.opn.map seC)),(15,.adr ((aL s).drop 4))],[(3,.box [.s (.int .i64 0),.s (.int .i64 0),.s (.slice none 0 0),.s (.slice none 0 0),.s (.slice none 0 0),.s (.slice none 0 0)]),(2,.box [.s (.int .i64 0),.s (.int .i64 0),.s (.slice none 0 0),.s (.slice none 0 0),.s (.slice none 0 0),.s (.slice none 0 0)])]⟩ ?_ (fun hD40=>?_)
 ·
  refine aG 1 [3,8] (by kernel_rfl) ⟨?_,?_,?_,trivial⟩
  ·
   refine⟨_,rfl,rfl,(ao rfl (aE aA 1 rfl (aF (ag hD21 rfl rfl rfl))))⟩
  ·
   refine⟨_,rfl,rfl,(ao rfl (aE aA 1 rfl (aF (ag hD24 rfl rfl rfl))))⟩
  ·
   refine⟨_,rfl,rfl,(ao rfl (aE aA 1 rfl (aF (ag hD27 rfl rfl rfl))))⟩
 refine aK 6 #[true,false,true,false,true,true,false,true,true,false,false,true,false] ⟨53,[(1,.adr (aL s)),(2,.ref 2 0 0 0),(3,.ref 3 0 0 0),(8,.adr ((aL s).drop 0)),(10,.adr ((aL s).drop 1)),(13,.sl 4 (s.opn.map seC)),(16,.sl 4 (s.sub.map enC))],[(3,.box [.s (.int .i64 0),.s (.int .i64 0),.s (.slice none 0 0),.s (.slice none 0 0),.s (.slice none 0 0),.s (.slice none 0 0)]),(2,.box [.s (.int .i64 0),.s (.int .i64 0),.s (.slice none 0 0),.s (.slice none 0 0),.s (.slice none 0 0),.s (.slice none 0 0)])]⟩ ?_ (fun hD41=>?_)
 ·
  refine aG 1 [3,6] (by kernel_rfl) ⟨?_,?_,?_,trivial⟩
  ·
   refine⟨_,rfl,rfl,(ao rfl (aE aA 1 rfl (aF (ag hD22 rfl rfl rfl))))⟩
  ·
   refine⟨_,rfl,rfl,(ao rfl (aE aA 1 rfl (aF (ag hD25 rfl rfl rfl))))⟩
  ·
   refine⟨_,rfl,rfl,(ao rfl (aM hf rfl (aQ rfl rfl fI rfl (fF s.opn (by omega))) (aF (ag hD27 rfl rfl rfl))))⟩
 refine aK 7 #[true,true,true,true,true,false,false,true,false,false,false,false,false] ⟨53,[(1,.adr (aL s)),(2,.ref 2 0 0 0),(9,.s (.int .i64 s.now)),(11,.s (.int .i64 s.hor)),(12,.adr ((aL s).drop 2)),(15,.adr ((aL s).drop 4))],[(2,.box [.s (.int .i64 0),.s (.int .i64 0),.s (.slice none 0 0),.s (.slice none 0 0),.s (.slice none 0 0),.s (.slice none 0 0)])]⟩ ?_ (fun hD42=>?_)
 ·
  refine aG 5 [8,11] (by kernel_rfl) ⟨?_,?_,?_,trivial⟩
  ·
   refine⟨_,rfl,rfl,(ao rfl (aE aA 1 rfl (aF (ag hD28 rfl rfl rfl))))⟩
  ·
   refine⟨_,rfl,rfl,(ao rfl (aE aA 1 rfl (aF (ag hD29 rfl rfl rfl))))⟩
  ·
   refine⟨_,rfl,rfl,(ao rfl (aX hf rfl rfl rfl cG (aF (ag hD30 rfl rfl rfl))))⟩
 refine aK 7 #[true,true,true,false,true,true,false,true,false,false,false,false,false] ⟨53,[(1,.adr (aL s)),(2,.ref 2 0 0 0),(9,.s (.int .i64 s.now)),(10,.adr ((aL s).drop 1)),(13,.sl 4 (s.opn.map seC)),(15,.adr ((aL s).drop 4))],[(2,.box [.s (.int .i64 0),.s (.int .i64 0),.s (.slice none 0 0),.s (.slice none 0 0),.s (.slice none 0 0),.s (.slice none 0 0)])]⟩ ?_ (fun hD43=>?_)
 ·
  refine aG 3 [6,8,11] (by kernel_rfl) ⟨?_,?_,?_,?_,trivial⟩
  ·
   refine⟨_,rfl,rfl,(ao rfl (aE aA 1 rfl (aF (ag hD28 rfl rfl rfl))))⟩
  ·
   refine⟨_,rfl,rfl,(ao rfl (aM hf rfl (aQ rfl rfl fI rfl (fF s.opn (by omega))) (aF (ag hD31 rfl rfl rfl))))⟩
  ·
   refine⟨_,rfl,rfl,(ao rfl (aE aA 1 rfl (aF (ag hD32 rfl rfl rfl))))⟩
  ·
   refine⟨_,rfl,rfl,(ao rfl (aX hf rfl rfl rfl cG (aF (ag hD33 rfl rfl rfl))))⟩
 refine aK 7 #[true,true,true,false,true,false,false,true,true,false,false,false,false] ⟨53,[(1,.adr (aL s)),(2,.ref 2 0 0 0),(9,.s (.int .i64 s.now)),(10,.adr ((aL s).drop 1)),(12,.adr ((aL s).drop 2)),(16,.sl 4 (s.sub.map enC))],[(2,.box [.s (.int .i64 0),.s (.int .i64 0),.s (.slice none 0 0),.s (.slice none 0 0),.s (.slice none 0 0),.s (.slice none 0 0)])]⟩ ?_ (fun hD44=>?_)
 ·
  refine aG 3 [5,11] (by kernel_rfl) ⟨?_,?_,?_,trivial⟩
  ·
   refine⟨_,rfl,rfl,(ao rfl (aE aA 1 rfl (aF (ag hD29 rfl rfl rfl))))⟩
  ·
   refine⟨_,rfl,rfl,(ao rfl (aE aA 1 rfl (aF (ag hD32 rfl rfl rfl))))⟩
  ·
   refine⟨_,rfl,rfl,(ao rfl (aX hf rfl rfl rfl cG (aF (ag hD34 rfl rfl rfl))))⟩
 refine aK 7 #[true,true,true,false,true,false,false,true,false,false,false,true,false] ⟨53,[(1,.adr (aL s)),(2,.ref 2 0 0 0),(3,.ref 3 0 0 0),(9,.s (.int .i64 s.now)),(10,.adr ((aL s).drop 1)),(12,.adr ((aL s).drop 2)),(15,.adr ((aL s).drop 4))],[(3,.box [.s (.int .i64 0),.s (.int .i64 0),.s (.slice none 0 0),.s (.slice none 0 0),.s (.slice none 0 0),.s (.slice none 0 0)]),(2,.box [.s (.int .i64 0),.s (.int .i64 0),.s (.slice none 0 0),.s (.slice none 0 0),.s (.slice none 0 0),.s (.slice none 0 0)])]⟩ ?_ (fun hD45=>?_)
 ·
  refine aG 3 [5,8] (by kernel_rfl) ⟨?_,?_,?_,trivial⟩
  ·
   refine⟨_,rfl,rfl,(ao rfl (aE aA 1 rfl (aF (ag hD30 rfl rfl rfl))))⟩
  ·
   refine⟨_,rfl,rfl,(ao rfl (aE aA 1 rfl (aF (ag hD33 rfl rfl rfl))))⟩
  ·
   refine⟨_,rfl,rfl,(ao rfl (aE aA 1 rfl (aF (ag hD34 rfl rfl rfl))))⟩
 refine aK 7 #[true,false,true,true,true,true,false,true,false,false,false,false,false] ⟨53,[(1,.adr (aL s)),(2,.ref 2 0 0 0),(8,.adr ((aL s).drop 0)),(11,.s (.int .i64 s.hor)),(13,.sl 4 (s.opn.map seC)),(15,.adr ((aL s).drop 4))],[(2,.box [.s (.int .i64 0),.s (.int .i64 0),.s (.slice none 0 0),.s (.slice none 0 0),.s (.slice none 0 0),.s (.slice none 0 0)])]⟩ ?_ (fun hD46=>?_)
 ·
  refine aG 1 [6,8,11] (by kernel_rfl) ⟨?_,?_,?_,?_,trivial⟩
  ·
   refine⟨_,rfl,rfl,(ao rfl (aE aA 1 rfl (aF (ag hD28 rfl rfl rfl))))⟩
  ·
   refine⟨_,rfl,rfl,(ao rfl (aM hf rfl (aQ rfl rfl fI rfl (fF s.opn (by omega))) (aF (ag hD35 rfl rfl rfl))))⟩
  ·
   refine⟨_,rfl,rfl,(ao rfl (aE aA 1 rfl (aF (ag hD36 rfl rfl rfl))))⟩
  ·
   refine⟨_,rfl,rfl,(ao rfl (aX hf rfl rfl rfl cG (aF (ag hD37 rfl rfl rfl))))⟩
 refine aK 7 #[true,false,true,true,true,false,false,true,true,false,false,false,false] ⟨53,[(1,.adr (aL s)),(2,.ref 2 0 0 0),(8,.adr ((aL s).drop 0)),(11,.s (.int .i64 s.hor)),(12,.adr ((aL s).drop 2)),(16,.sl 4 (s.sub.map enC))],[(2,.box [.s (.int .i64 0),.s (.int .i64 0),.s (.slice none 0 0),.s (.slice none 0 0),.s (.slice none 0 0),.s (.slice none 0 0)])]⟩ ?_ (fun hD47=>?_)
 ·
  refine aG 1 [5,11] (by kernel_rfl) ⟨?_,?_,?_,trivial⟩
  ·
   refine⟨_,rfl,rfl,(ao rfl (aE aA 1 rfl (aF (ag hD29 rfl rfl rfl))))⟩
  ·
   refine⟨_,rfl,rfl,(ao rfl (aE aA 1 rfl (aF (ag hD36 rfl rfl rfl))))⟩
  ·
   refine⟨_,rfl,rfl,(ao rfl (aX hf rfl rfl rfl cG (aF (ag hD38 rfl rfl rfl))))⟩
 refine aK 7 #[true,false,true,true,true,false,false,true,false,false,false,true,false] ⟨53,[(1,.adr (aL s)),(2,.ref 2 0 0 0),(3,.ref 3 0 0 0),(8,.adr ((aL s).drop 0)),(11,.s (.int .i64 s.hor)),(12,.adr ((aL s).drop 2)),(15,.adr ((aL s).drop 4))],[(3,.box [.s (.int .i64 0),.s (.int .i64 0),.s (.slice none 0 0),.s (.slice none 0 0),.s (.slice none 0 0),.s (.slice none 0 0)]),(2,.box [.s (.int .i64 0),.s (.int .i64 0),.s (.slice none 0 0),.s (.slice none 0 0),.s (.slice none 0 0),.s (.slice none 0 0)])]⟩ ?_ (fun hD48=>?_)
 ·
  refine aG 1 [5,8] (by kernel_rfl) ⟨?_,?_,?_,trivial⟩
  ·
   refine⟨_,rfl,rfl,(ao rfl (aE aA 1 rfl (aF (ag hD30 rfl rfl rfl))))⟩
  ·
   refine⟨_,rfl,rfl,(ao rfl (aE aA 1 rfl (aF (ag hD37 rfl rfl rfl))))⟩
  ·
   refine⟨_,rfl,rfl,(ao rfl (aE aA 1 rfl (aF (ag hD38 rfl rfl rfl))))⟩
 refine aK 7 #[true,false,true,false,true,true,true,true,false,false,false,false,false] ⟨53,[(1,.adr (aL s)),(2,.ref 2 0 0 0),(8,.adr ((aL s).drop 0)),(10,.adr ((aL s).drop 1)),(14,.sl 4 (s.opn.map seC)),(15,.adr ((aL s).drop 4))],[(2,.box [.s (.int .i64 0),.s (.int .i64 0),.s (.slice none 0 0),.s (.slice none 0 0),.s (.slice none 0 0),.s (.slice none 0 0)])]⟩ ?_ (fun hD49=>?_)
 ·
  refine aG 1 [3,8,11] (by kernel_rfl) ⟨?_,?_,?_,?_,trivial⟩
  ·
   refine⟨_,rfl,rfl,(ao rfl (aE aA 1 rfl (aF (ag hD31 rfl rfl rfl))))⟩
  ·
   refine⟨_,rfl,rfl,(ao rfl (aE aA 1 rfl (aF (ag hD35 rfl rfl rfl))))⟩
  ·
   refine⟨_,rfl,rfl,(ao rfl (aE aA 1 rfl (aF (ag hD39 rfl rfl rfl))))⟩
  ·
   refine⟨_,rfl,rfl,(ao rfl (aX hf rfl rfl rfl cG (aF (ag hD40 rfl rfl rfl))))⟩
 refine aK 7 #[true,false,true,false,true,true,false,true,true,false,false,false,false] ⟨53,[(1,.adr (aL s)),(2,.ref 2 0 0 0),(8,.adr ((aL s).drop 0)),(10,.adr ((aL s).drop 1)),(13,.sl 4 (s.opn.map seC)),(16,.sl 4 (s.sub.map enC))],[(2,.box [.s (.int .i64 0),.s (.int .i64 0),.s (.slice none 0 0),.s (.slice none 0 0),.s (.slice none 0 0),.s (.slice none 0 0)])]⟩ ?_ (fun hD50=>?_)
 ·
  refine aG 1 [3,6,11] (by kernel_rfl) ⟨?_,?_,?_,?_,trivial⟩
  ·
   refine⟨_,rfl,rfl,(ao rfl (aE aA 1 rfl (aF (ag hD32 rfl rfl rfl))))⟩
  ·
   refine⟨_,rfl,rfl,(ao rfl (aE aA 1 rfl (aF (ag hD36 rfl rfl rfl))))⟩
  ·
   refine⟨_,rfl,rfl,(ao rfl (aM hf rfl (aQ rfl rfl fI rfl (fF s.opn (by omega))) (aF (ag hD39 rfl rfl rfl))))⟩
  ·
   refine⟨_,rfl,rfl,(ao rfl (aX hf rfl rfl rfl cG (aF (ag hD41 rfl rfl rfl))))⟩
 refine aK 7 #[true,false,true,false,true,true,false,true,false,false,false,true,false] ⟨53,[(1,.adr (aL s)),(2,.ref 2 0 0 0),(3,.ref 3 0 0 0),(8,.adr ((aL s).drop 0)),(10,.adr ((aL s).drop 1)),(13,.sl 4 (s.opn.map seC)),(15,.adr ((aL s).drop 4))],[(3,.box [.s (.int .i64 0),.s (.int .i64 0),.s (.slice none 0 0),.s (.slice none 0 0),.s (.slice none 0 0),.s (.slice none 0 0)]),(2,.box [.s (.int .i64 0),.s (.int .i64 0),.s (.slice none 0 0),.s (.slice none 0 0),.s (.slice none 0 0),.s (.slice none 0 0)])]⟩ ?_ (fun hD51=>?_)
 ·
  refine aG 1 [3,6,8] (by kernel_rfl) ⟨?_,?_,?_,?_,trivial⟩
  ·
   refine⟨_,rfl,rfl,(ao rfl (aE aA 1 rfl (aF (ag hD33 rfl rfl rfl))))⟩
  ·
   refine⟨_,rfl,rfl,(ao rfl (aE aA 1 rfl (aF (ag hD37 rfl rfl rfl))))⟩
  ·
   refine⟨_,rfl,rfl,(ao rfl (aM hf rfl (aQ rfl rfl fI rfl (fF s.opn (by omega))) (aF (ag hD40 rfl rfl rfl))))⟩
  ·
   refine⟨_,rfl,rfl,(ao rfl (aE aA 1 rfl (aF (ag hD41 rfl rfl rfl))))⟩
 refine aK 7 #[true,false,true,false,true,false,false,true,true,false,false,true,false] ⟨53,[(1,.adr (aL s)),(2,.ref 2 0 0 0),(3,.ref 3 0 0 0),(8,.adr ((aL s).drop 0)),(10,.adr ((aL s).drop 1)),(12,.adr ((aL s).drop 2)),(16,.sl 4 (s.sub.map enC))],[(3,.box [.s (.int .i64 0),.s (.int .i64 0),.s (.slice none 0 0),.s (.slice none 0 0),.s (.slice none 0 0),.s (.slice none 0 0)]),(2,.box [.s (.int .i64 0),.s (.int .i64 0),.s (.slice none 0 0),.s (.slice none 0 0),.s (.slice none 0 0),.s (.slice none 0 0)])]⟩ ?_ (fun hD52=>?_)
 ·
  refine aG 1 [3,5] (by kernel_rfl) ⟨?_,?_,?_,trivial⟩
  ·
   refine⟨_,rfl,rfl,(ao rfl (aE aA 1 rfl (aF (ag hD34 rfl rfl rfl))))⟩
  ·
   refine⟨_,rfl,rfl,(ao rfl (aE aA 1 rfl (aF (ag hD38 rfl rfl rfl))))⟩
  ·
   refine⟨_,rfl,rfl,(ao rfl (aE aA 1 rfl (aF (ag hD41 rfl rfl rfl))))⟩
 refine aK 8 #[true,true,true,false,true,false,false,true,false,false,false,false,false] ⟨53,[(1,.adr (aL s)),(2,.ref 2 0 0 0),(9,.s (.int .i64 s.now)),(10,.adr ((aL s).drop 1)),(12,.adr ((aL s).drop 2)),(15,.adr ((aL s).drop 4))],[(2,.box [.s (.int .i64 0),.s (.int .i64 0),.s (.slice none 0 0),.s (.slice none 0 0),.s (.slice none 0 0),.s (.slice none 0 0)])]⟩ ?_ (fun hD53=>?_)
 ·
  refine aG 3 [5,8,11] (by kernel_rfl) ⟨?_,?_,?_,?_,trivial⟩
  ·
   refine⟨_,rfl,rfl,(ao rfl (aE aA 1 rfl (aF (ag hD42 rfl rfl rfl))))⟩
  ·
   refine⟨_,rfl,rfl,(ao rfl (aE aA 1 rfl (aF (ag hD43 rfl rfl rfl))))⟩
  ·
   refine⟨_,rfl,rfl,(ao rfl (aE aA 1 rfl (aF (ag hD44 rfl rfl rfl))))⟩
  ·
   refine⟨_,rfl,rfl,(ao rfl (aX hf rfl rfl rfl cG (aF (ag hD45 rfl rfl rfl))))⟩
 refine aK 8 #[true,false,true,true,true,false,false,true,false,false,false,false,false] ⟨53,[(1,.adr (aL s)),(2,.ref 2 0 0 0),(8,.adr ((aL s).drop 0)),(11,.s (.int .i64 s.hor)),(12,.adr ((aL s).drop 2)),(15,.adr ((aL s).drop 4))],[(2,.box [.s (.int .i64 0),.s (.int .i64 0),.s (.slice none 0 0),.s (.slice none 0 0),.s (.slice none 0 0),.s (.slice none 0 0)])]⟩ ?_ (fun hD54=>?_)
 ·
  refine aG 1 [5,8,11] (by kernel_rfl) ⟨?_,?_,?_,?_,trivial⟩
  ·
   refine⟨_,rfl,rfl,(ao rfl (aE aA 1 rfl (aF (ag hD42 rfl rfl rfl))))⟩
  ·
   refine⟨_,rfl,rfl,(ao rfl (aE aA 1 rfl (aF (ag hD46 rfl rfl rfl))))⟩
  ·
   refine⟨_,rfl,rfl,(ao rfl (aE aA 1 rfl (aF (ag hD47 rfl rfl rfl))))⟩
  ·
   refine⟨_,rfl,rfl,(ao rfl (aX hf rfl rfl rfl cG (aF (ag hD48 rfl rfl rfl))))⟩
 refine aK 8 #[true,false,true,false,true,true,false,true,false,false,false,false,false] ⟨53,[(1,.adr (aL s)),(2,.ref 2 0 0 0),(8,.adr ((aL s).drop 0)),(10,.adr ((aL s).drop 1)),(13,.sl 4 (s.opn.map seC)),(15,.adr ((aL s).drop 4))],[(2,.box [.s (.int .i64 0),.s (.int .i64 0),.s (.slice none 0 0),.s (.slice none 0 0),.s (.slice none 0 0),.s (.slice none 0 0)])]⟩ ?_ (fun hD55=>?_)
 ·
  refine aG 1 [3,6,8,11] (by kernel_rfl) ⟨?_,?_,?_,?_,?_,trivial⟩
  ·
   refine⟨_,rfl,rfl,(ao rfl (aE aA 1 rfl (aF (ag hD43 rfl rfl rfl))))⟩
  ·
   refine⟨_,rfl,rfl,(ao rfl (aE aA 1 rfl (aF (ag hD46 rfl rfl rfl))))⟩
  ·
   refine⟨_,rfl,rfl,(ao rfl (aM hf rfl (aQ rfl rfl fI rfl (fF s.opn (by omega))) (aF (ag hD49 rfl rfl rfl))))⟩
  ·
   refine⟨_,rfl,rfl,(ao rfl (aE aA 1 rfl (aF (ag hD50 rfl rfl rfl))))⟩
  ·
   refine⟨_,rfl,rfl,(ao rfl (aX hf rfl rfl rfl cG (aF (ag hD51 rfl rfl rfl))))⟩
 refine aK 8 #[true,false,true,false,true,false,false,true,true,false,false,false,false] ⟨53,[(1,.adr (aL s)),(2,.ref 2 0 0 0),(8,.adr ((aL s).drop 0)),(10,.adr ((aL s).drop 1)),(12,.adr ((aL s).drop 2)),(16,.sl 4 (s.sub.map enC))],[(2,.box [.s (.int .i64 0),.s (.int .i64 0),.s (.slice none 0 0),.s (.slice none 0 0),.s (.slice none 0 0),.s (.slice none 0 0)])]⟩ ?_ (fun hD56=>?_)
 ·
  refine aG 1 [3,5,11] (by kernel_rfl) ⟨?_,?_,?_,?_,trivial⟩
  ·
   refine⟨_,rfl,rfl,(ao rfl (aE aA 1 rfl (aF (ag hD44 rfl rfl rfl))))⟩
  ·
   refine⟨_,rfl,rfl,(ao rfl (aE aA 1 rfl (aF (ag hD47 rfl rfl rfl))))⟩
  ·
   refine⟨_,rfl,rfl,(ao rfl (aE aA 1 rfl (aF (ag hD50 rfl rfl rfl))))⟩
  ·
   refine⟨_,rfl,rfl,(ao rfl (aX hf rfl rfl rfl cG (aF (ag hD52 rfl rfl rfl))))⟩
 refine aK 8 #[true,false,true,false,true,false,false,true,false,false,false,true,false] ⟨53,[(1,.adr (aL s)),(2,.ref 2 0 0 0),(3,.ref 3 0 0 0),(8,.adr ((aL s).drop 0)),(10,.adr ((aL s).drop 1)),(12,.adr ((aL s).drop 2)),(15,.adr ((aL s).drop 4))],[(3,.box [.s (.int .i64 0),.s (.int .i64 0),.s (.slice none 0 0),.s (.slice none 0 0),.s (.slice none 0 0),.s (.slice none 0 0)]),(2,.box [.s (.int .i64 0),.s (.int .i64 0),.s (.slice none 0 0),.s (.slice none 0 0),.s (.slice none 0 0),.s (.slice none 0 0)])]⟩ ?_ (fun hD57=>?_)
 ·
  refine aG 1 [3,5,8] (by kernel_rfl) ⟨?_,?_,?_,?_,trivial⟩
  ·
   refine⟨_,rfl,rfl,(ao rfl (aE aA 1 rfl (aF (ag hD45 rfl rfl rfl))))⟩
  ·
   refine⟨_,rfl,rfl,(ao rfl (aE aA 1 rfl (aF (ag hD48 rfl rfl rfl))))⟩
  ·
   refine⟨_,rfl,rfl,(ao rfl (aE aA 1 rfl (aF (ag hD51 rfl rfl rfl))))⟩
  ·
   refine⟨_,rfl,rfl,(ao rfl (aE aA 1 rfl (aF (ag hD52 rfl rfl rfl))))⟩
 refine gQ (lF (sl':=[(1,.adr (aL s)),(2,.ref 2 0 0 0),(8,.adr ((aL s).drop 0)),(10,.adr ((aL s).drop 1)),(12,.adr ((aL s).drop 2)),(15,.adr ((aL s).drop 4))]) (m':=[(2,.box [.s (.int .i64 0),.s (.int .i64 0),.s (.slice none 0 0),.s (.slice none 0 0),.s (.slice none 0 0),.s (.slice none 0 0)])]) rfl rfl rfl) (aG 1 [3,5,8,11] (by kernel_rfl) ⟨?_,?_,?_,?_,?_,trivial⟩)
 ·
  refine⟨_,rfl,rfl,(ao rfl (aE aA 1 rfl (aF (ag hD53 rfl rfl rfl))))⟩
 ·
  refine⟨_,rfl,rfl,(ao rfl (aE aA 1 rfl (aF (ag hD54 rfl rfl rfl))))⟩
 ·
  refine⟨_,rfl,rfl,(ao rfl (aE aA 1 rfl (aF (ag hD55 rfl rfl rfl))))⟩
 ·
  refine⟨_,rfl,rfl,(ao rfl (aE aA 1 rfl (aF (ag hD56 rfl rfl rfl))))⟩
 ·
  refine⟨_,rfl,rfl,(ao rfl (aX hf rfl rfl rfl cG (aF (ag hD57 rfl rfl rfl))))⟩
theorem aEg (s:Sta) (hz:SzS 140737488353280 s) :Den Tryz.prog 11 [.agg (aL s)]  (·=.s (.int .i64 (manyI s))):=by
 refine aY Tryz.func11 rfl (Nat.le_of_ble_eq_true rfl) (fun w0 A hf=>(aC (fun K1 hK1=>(aB (aM hf rfl (cT rfl rfl (lf rfl)) (aE aA 1 rfl (aD (hK1 _ (aC (fun K2 hK2=>(dM hf bN (by kernel_rfl) rfl (bG aA 1 rfl (cC [(3,_)] rfl rfl ⟨⟨rfl,rfl⟩,trivial⟩ rfl (aQ rfl rfl aPz rfl (aDz s hz)) (bG aA 3 rfl (bX [(4,_),(7,_)] rfl rfl ⟨⟨rfl,rfl⟩,⟨rfl,rfl⟩,trivial⟩ rfl (dD rfl rfl rfl) ?_)))))))))))))))
 refine bG aA 1 rfl (dQ [2] rfl rfl rfl (hK2 _ (aN ?_)))
 refine⟨_,rfl,?_⟩
 simp only[manyI,List.length_map]; rfl
end Go.Proofs.YtijnkglkchhomaaGreat
set_option linter.unusedVariables false
set_option linter.unusedSimpArgs false
namespace Go.Proofs.YtijnkglkchhomaaGreat
open Go Go.Abs
theorem aN3 (a b:Sta) (ha:SzS 140737488355328 a) (hb:SzS 140737488355328 b) :Den Tryz.prog 34 [.agg (aL a),.agg (aL b)]  (·=.s (.bool (decide (a=b)))):=by
 have a1:=ha.o
 have a2:=ha.u
 have a3:=ha.b
 have a4:=ha.t
 have b1:=hb.o
 have b2:=hb.u
 have b3:=hb.b
 have b4:=hb.t
 refine aY Tryz.func34 rfl (Nat.le_of_ble_eq_true rfl) (fun w0 A hf=>(aC (fun K1 hK1=>(aB (aM hf rfl (cT rfl rfl (lf rfl)) (aM hf rfl (cT rfl rfl (lf rfl)) (aE aA 1 rfl (aD (hK1 _ (aC (fun K2 hK2=>(aB (aE aA 4 rfl (aM hf rfl (aQ rfl rfl aPi rfl (aC6 a.usr b.usr (by omega) (by omega) (fun x hx=>by have:=ha.y x hx; omega) (fun x hx=>by have:=hb.y x hx; omega))) ?_))))))))))))))
 refine aE aA 1 rfl (aD (hK2 _ (aC (fun K3 hK3=>(aB (aE aA 4 rfl (aH rfl (aA7 rfl aHj aFp cI (l3 rfl) rfl) (aE aA 4 rfl (aH rfl (aA7 rfl aHj aFp cI (l3 rfl) rfl) (aH rfl (jJ rfl rfl aSp rfl) (aE aA 1 rfl (aD (hK3 _ ?_)))))))))))))
 refine aC (fun K4 hK4=>(aB (aE aA 2 rfl (bC rfl rfl rfl (fun hg1=>?_) (fun hg1=>?_)))))
 ·
  simp only[bs] at hg1
  refine aH rfl (fD rfl) (aE aA 2 rfl (bC rfl rfl rfl (fun hg2=>?_) (fun hg2=>?_)))
  ·
   simp only[bs] at hg2
   refine aH rfl (bQ rfl vB mQ rfl) ?_
   refine aE aA 3 rfl (bP rfl rfl rfl (aM hf rfl (aQ rfl rfl aPf rfl (aN4 a.opn b.opn (by omega) (by omega))) (aE aA 2 rfl (bC rfl rfl rfl (fun hg3=>?_) (fun hg3=>?_)))))
   ·
    simp only[bs] at hg3
    refine aH rfl (bQ rfl vA oD rfl) ?_
    refine aE aA 3 rfl (bP rfl rfl rfl (aM hf rfl (aQ rfl rfl aPe rfl (aRc a.sub b.sub (by omega) (by omega))) (aE aA 2 rfl (bC rfl rfl rfl (fun hg4=>?_) (fun hg4=>?_)))))
    ·
     simp only[bs] at hg4
     refine aH rfl (bQ rfl aBl sY rfl) ?_
     refine aE aA 3 rfl (bP rfl rfl rfl (aM hf rfl (aQ rfl rfl aPd rfl (aN0 a.tmb b.tmb (by omega) (by omega))) (aE aA 2 rfl (aD (hK4 _ (aN ?_))))))
     refine⟨_,rfl,?_⟩
     refine aS ?_
     rw[Bool.eq_iff_iff]
     simp only[nR]
     simp_all
    ·
     simp only[bs] at hg4
     refine aE aA 6 rfl (aD (hK4 _ (aN ?_)))
     refine⟨_,rfl,?_⟩
     refine aS ?_
     rw[Bool.eq_iff_iff]
     simp only[nR]
     simp_all
   ·
    simp only[bs] at hg3
    refine aE aA 13 rfl (aD (hK4 _ (aN ?_)))
    refine⟨_,rfl,?_⟩
    refine aS ?_
    rw[Bool.eq_iff_iff]
    simp only[nR]
    simp_all
  ·
   simp only[bs] at hg2
   refine aE aA 20 rfl (aD (hK4 _ (aN ?_)))
   refine⟨_,rfl,?_⟩
   refine aS ?_
   rw[Bool.eq_iff_iff]
   simp only[nR]
   simp_all
 ·
  simp only[bs] at hg1
  refine aE aA 23 rfl (aD (hK4 _ (aN ?_)))
  refine⟨_,rfl,?_⟩
  refine aS ?_
  rw[Bool.eq_iff_iff]
  simp only[nR]
  simp_all
end Go.Proofs.YtijnkglkchhomaaGreat
set_option linter.unusedVariables false
set_option linter.unusedSimpArgs false
namespace Go.Proofs.YtijnkglkchhomaaGreat
open Go Go.Abs
end Go.Proofs.YtijnkglkchhomaaGreat
set_option linter.unusedVariables false
set_option linter.unusedSimpArgs false
namespace Go.Proofs.YtijnkglkchhomaaGreat
open Go Go.Abs
end Go.Proofs.YtijnkglkchhomaaGreat
set_option linter.unusedVariables false
set_option linter.unusedSimpArgs false
namespace Go.Proofs.YtijnkglkchhomaaGreat
open Go Go.Abs
theorem aCc (l:List Se) (hl:l.length≤9223372036854775807) (ht:∀ e∈l,TS e.1.2) :Den Tryz.prog 46 [.sl 4 (l.map seC)]  (·=.s (.bool (kW l))):=by
 refine aY Tryz.func46 rfl (Nat.le_of_ble_eq_true rfl) (fun w0 A hf=>(aC (fun K1 hK1=>(aB (aE aA 1 rfl (aD (hK1 _ (aC (fun K2 hK2=>(aC (fun K3 hK3=>(aB (aE aA 3 rfl (aD (hK3 _ (aO rfl (fun hc1=>?_) (fun hc1=>?_)))))))))))))))))
 ·
  simp only[bs] at hc1
  refine aC (fun K4 hK4=>(aB (aE aA 1 rfl (aD (hK4 _ (aN ?_))))))
  refine⟨_,rfl,?_⟩
  refine aS ?_
  rw[kW,show decide (l.length≤16)=false from by simp only[decide_eq_false_iff_not]; omega,Bool.and_false]
 ·
  simp only[bs] at hc1
  refine aP (hK2 _ (aC (fun K5 hK5=>(aC (fun K6 hK6=>(aB (aE aA 1 rfl (aD (hK6 _ (aR (bY (ι:=Nat) (fun k=>⟨65,[(0,.sl 4 (l.map seC)),(3,.s (.int .i64 (k:Nat)))],[]⟩) (fun k=>k≤l.length∧pO jM mE none l=pO jM mE (kO l k) (l.drop k)) (fun k=>l.length - k) 0 ?_ ?_ ?_)))))))))))
  · exact⟨Nat.zero_le _,rfl⟩
  · exact cW rfl
  ·
   rintro k hC
   obtain ⟨h1,h2⟩:=hC
   refine aC (fun K7 hK7=>(aC (fun K8 hK8=>(aB (aE aA 4 rfl (aD (hK8 _ (aO rfl (fun hc2=>?_) (fun hc2=>?_)))))))))
   ·
    simp only[bs] at hc2
    refine aP (hK7 _ (aC (fun K9 hK9=>(aR (aC (fun K10 hK10=>(aB (aE aA 2 rfl ?_))))))))
    refine aH rfl (bA rfl rfl fS eH (by first | exact ixm (by omega) | assumption | exact⟨by decide,rfl⟩)) ?_
    refine aE aA 1 rfl (cF hf rfl oB rfl eH rfl rfl rfl rfl (lf rfl) (aD (hK10 _ (aC (fun K11 hK11=>(aC (fun K12 hK12=>(aB (aE aA 2 rfl (aM hf rfl (aQ rfl rfl gV rfl (Nm.refRight_den _ (ht _ (List.getElem_mem _)))) (aE aA 2 rfl (bC rfl rfl rfl (fun hg3=>?_) (fun hg3=>?_)))))))))))))
    ·
     simp only[bs] at hg3
     refine aH rfl (bQ rfl aBi cI rfl) ?_
     refine aE aA 4 rfl (bC rfl rfl rfl (fun hg4=>?_) (fun hg4=>?_))
     ·
      simp only[bs] at hg4
      refine aH rfl (bQ rfl aBi cI rfl) ?_
      refine aE aA 4 rfl (bC rfl rfl rfl (fun hg5=>?_) (fun hg5=>?_))
      ·
       simp only[bs] at hg5
       refine aH rfl (bQ rfl aBh cI rfl) ?_
       refine aE aA 4 rfl (bC rfl rfl rfl (fun hg6=>?_) (fun hg6=>?_))
       ·
        simp only[bs] at hg6
        refine aH rfl (bQ rfl aBh cI rfl) ?_
        refine aE aA 4 rfl (bC rfl rfl rfl (fun hg7=>?_) (fun hg7=>?_))
        ·
         simp only[bs] at hg7
         refine aH rfl (bQ rfl aBg cI rfl) ?_
         refine aE aA 4 rfl (bC rfl rfl rfl (fun hg8=>?_) (fun hg8=>?_))
         ·
          simp only[bs] at hg8
          refine aH rfl (bQ rfl aBg cI rfl) ?_
          refine aE aA 3 rfl (aD (hK12 _ (aO rfl (fun hc9=>?_) (fun hc9=>?_))))
          ·
           simp only[bs] at hc9
           refine aC (fun K13 hK13=>(aB (aE aA 1 rfl (aD (hK13 _ (aN ?_))))))
           refine⟨_,rfl,?_⟩
           refine aS ?_
           first | (rw[kW,kF h2 (by omega) (show jM l[k]=false from by
            unfold jM
            rw[Bool.eq_false_iff]
            simp only[ne_eq,Bool.and_eq_true,decide_eq_true_eq]
            rintro ⟨q1,⟨⟨q2,q3⟩,⟨q4,q5⟩⟩,q6,q7⟩
            first | omega | (simp_all; done) | (simp_all; omega))]; rfl) | (rw[kW,kV h2 (by omega) (by omega) (show mE _ _=false from by simp only[mE,decide_eq_false_iff_not]; omega)]; rfl)
          ·
           simp only[bs] at hc9
           refine aP (hK11 _ (aC (fun K14 hK14=>(dM hf bN (by kernel_rfl) rfl (bG aA 3 rfl (gP 54 true rfl (fun hg10=>?_) (fun hg10=>?_)))))))
           ·
            simp only[bs] at hg10
            refine bG aA 2 rfl ?_
            refine bX [(56,_)] rfl rfl ⟨⟨rfl,rfl⟩,trivial⟩ rfl (gF rfl rfl (by omega) (by omega)) ?_
            refine bX [(55,_),(57,_)] rfl rfl ⟨⟨rfl,rfl⟩,⟨rfl,rfl⟩,trivial⟩ rfl (bA rfl rfl fS eH (mS (k:=k - 1) (by omega) (by omega))) (bG aA 6 rfl (dQ [0,3,64] rfl rfl rfl (hK14 _ (aO rfl (fun hc11=>?_) (fun hc11=>?_)))))
            ·
             simp only[bs] at hc11
             refine aC (fun K15 hK15=>(aB (aE aA 1 rfl (aD (hK15 _ (aN ?_))))))
             refine⟨_,rfl,?_⟩
             refine aS ?_
             first | (rw[kW,kF h2 (by omega) (show jM l[k]=false from by
              unfold jM
              rw[Bool.eq_false_iff]
              simp only[ne_eq,Bool.and_eq_true,decide_eq_true_eq]
              rintro ⟨q1,⟨⟨q2,q3⟩,⟨q4,q5⟩⟩,q6,q7⟩
              first | omega | (simp_all; done) | (simp_all; omega))]; rfl) | (rw[kW,kV h2 (by omega) (by omega) (show mE _ _=false from by simp only[mE,decide_eq_false_iff_not]; omega)]; rfl)
            ·
             simp only[bs] at hc11
             refine aP (hK9 _ (aB (aE aA 1 rfl ?_)))
             refine aH rfl (bS rfl rfl (by omega) (by omega)) ?_
             refine aE aA 1 rfl (aD ?_)
             exact⟨k+1,⟨by omega,oY h2 (by omega) (show jM l[k]=true from by
              unfold jM
              simp only[Bool.and_eq_true,decide_eq_true_eq]
              exact⟨by first | assumption | (simp_all; done),⟨⟨by omega,by omega⟩,by omega,by omega⟩,by omega,by omega⟩) (fun h0=>by simp only[mE,decide_eq_true_eq]; omega)⟩,by omega,cW rfl⟩
           ·
            simp only[bs] at hg10
            refine bG aA 10 rfl (dQ [0,3,64] rfl rfl rfl (hK14 _ (bJ rfl (aP (hK9 _ (aB (aE aA 1 rfl ?_)))))))
            refine aH rfl (bS rfl rfl (by omega) (by omega)) ?_
            refine aE aA 1 rfl (aD ?_)
            exact⟨k+1,⟨by omega,oY h2 (by omega) (show jM l[k]=true from by
             unfold jM
             simp only[Bool.and_eq_true,decide_eq_true_eq]
             exact⟨by first | assumption | (simp_all; done),⟨⟨by omega,by omega⟩,by omega,by omega⟩,by omega,by omega⟩) (fun h0=>by simp only[mE,decide_eq_true_eq]; omega)⟩,by omega,cW rfl⟩
         ·
          simp only[bs] at hg8
          refine aE aA 3 rfl (aD (hK12 _ (bW rfl (aC (fun K16 hK16=>(aB (aE aA 1 rfl (aD (hK16 _ (aN ?_))))))))))
          refine⟨_,rfl,?_⟩
          refine aS ?_
          first | (rw[kW,kF h2 (by omega) (show jM l[k]=false from by
           unfold jM
           rw[Bool.eq_false_iff]
           simp only[ne_eq,Bool.and_eq_true,decide_eq_true_eq]
           rintro ⟨q1,⟨⟨q2,q3⟩,⟨q4,q5⟩⟩,q6,q7⟩
           first | omega | (simp_all; done) | (simp_all; omega))]; rfl) | (rw[kW,kV h2 (by omega) (by omega) (show mE _ _=false from by simp only[mE,decide_eq_false_iff_not]; omega)]; rfl)
        ·
         simp only[bs] at hg7
         refine aE aA 8 rfl (aD (hK12 _ (bW rfl (aC (fun K17 hK17=>(aB (aE aA 1 rfl (aD (hK17 _ (aN ?_))))))))))
         refine⟨_,rfl,?_⟩
         refine aS ?_
         first | (rw[kW,kF h2 (by omega) (show jM l[k]=false from by
          unfold jM
          rw[Bool.eq_false_iff]
          simp only[ne_eq,Bool.and_eq_true,decide_eq_true_eq]
          rintro ⟨q1,⟨⟨q2,q3⟩,⟨q4,q5⟩⟩,q6,q7⟩
          first | omega | (simp_all; done) | (simp_all; omega))]; rfl) | (rw[kW,kV h2 (by omega) (by omega) (show mE _ _=false from by simp only[mE,decide_eq_false_iff_not]; omega)]; rfl)
       ·
        simp only[bs] at hg6
        refine aE aA 13 rfl (aD (hK12 _ (bW rfl (aC (fun K18 hK18=>(aB (aE aA 1 rfl (aD (hK18 _ (aN ?_))))))))))
        refine⟨_,rfl,?_⟩
        refine aS ?_
        first | (rw[kW,kF h2 (by omega) (show jM l[k]=false from by
         unfold jM
         rw[Bool.eq_false_iff]
         simp only[ne_eq,Bool.and_eq_true,decide_eq_true_eq]
         rintro ⟨q1,⟨⟨q2,q3⟩,⟨q4,q5⟩⟩,q6,q7⟩
         first | omega | (simp_all; done) | (simp_all; omega))]; rfl) | (rw[kW,kV h2 (by omega) (by omega) (show mE _ _=false from by simp only[mE,decide_eq_false_iff_not]; omega)]; rfl)
      ·
       simp only[bs] at hg5
       refine aE aA 18 rfl (aD (hK12 _ (bW rfl (aC (fun K19 hK19=>(aB (aE aA 1 rfl (aD (hK19 _ (aN ?_))))))))))
       refine⟨_,rfl,?_⟩
       refine aS ?_
       first | (rw[kW,kF h2 (by omega) (show jM l[k]=false from by
        unfold jM
        rw[Bool.eq_false_iff]
        simp only[ne_eq,Bool.and_eq_true,decide_eq_true_eq]
        rintro ⟨q1,⟨⟨q2,q3⟩,⟨q4,q5⟩⟩,q6,q7⟩
        first | omega | (simp_all; done) | (simp_all; omega))]; rfl) | (rw[kW,kV h2 (by omega) (by omega) (show mE _ _=false from by simp only[mE,decide_eq_false_iff_not]; omega)]; rfl)
     ·
      simp only[bs] at hg4
      refine aE aA 23 rfl (aD (hK12 _ (bW rfl (aC (fun K20 hK20=>(aB (aE aA 1 rfl (aD (hK20 _ (aN ?_))))))))))
      refine⟨_,rfl,?_⟩
      refine aS ?_
      first | (rw[kW,kF h2 (by omega) (show jM l[k]=false from by
       unfold jM
       rw[Bool.eq_false_iff]
       simp only[ne_eq,Bool.and_eq_true,decide_eq_true_eq]
       rintro ⟨q1,⟨⟨q2,q3⟩,⟨q4,q5⟩⟩,q6,q7⟩
       first | omega | (simp_all; done) | (simp_all; omega))]; rfl) | (rw[kW,kV h2 (by omega) (by omega) (show mE _ _=false from by simp only[mE,decide_eq_false_iff_not]; omega)]; rfl)
    ·
     simp only[bs] at hg3
     refine aE aA 28 rfl (aD (hK12 _ (bW rfl (aC (fun K21 hK21=>(aB (aE aA 1 rfl (aD (hK21 _ (aN ?_))))))))))
     refine⟨_,rfl,?_⟩
     refine aS ?_
     first | (rw[kW,kF h2 (by omega) (show jM l[k]=false from by
      unfold jM
      rw[Bool.eq_false_iff]
      simp only[ne_eq,Bool.and_eq_true,decide_eq_true_eq]
      rintro ⟨q1,⟨⟨q2,q3⟩,⟨q4,q5⟩⟩,q6,q7⟩
      first | omega | (simp_all; done) | (simp_all; omega))]; rfl) | (rw[kW,kV h2 (by omega) (by omega) (show mE _ _=false from by simp only[mE,decide_eq_false_iff_not]; omega)]; rfl)
   ·
    simp only[bs] at hc2
    refine bF (hK5 _ (aC (fun K22 hK22=>(aB (aE aA 1 rfl (aD (hK22 _ (aN ?_))))))))
    refine⟨_,rfl,?_⟩
    refine aS ?_
    rw[kW,aDq h2 (by omega),show decide (l.length≤16)=true from by simp only[decide_eq_true_eq]; omega]; rfl
end Go.Proofs.YtijnkglkchhomaaGreat
set_option linter.unusedVariables false
set_option linter.unusedSimpArgs false
namespace Go.Proofs.YtijnkglkchhomaaGreat
open Go Go.Abs
end Go.Proofs.YtijnkglkchhomaaGreat
set_option linter.unusedVariables false
set_option linter.unusedSimpArgs false
namespace Go.Proofs.YtijnkglkchhomaaGreat
open Go Go.Abs
end Go.Proofs.YtijnkglkchhomaaGreat
set_option linter.unusedVariables false
set_option linter.unusedSimpArgs false
namespace Go.Proofs.YtijnkglkchhomaaGreat
open Go Go.Abs
end Go.Proofs.YtijnkglkchhomaaGreat
set_option linter.unusedVariables false
set_option linter.unusedSimpArgs false
namespace Go.Proofs.YtijnkglkchhomaaGreat
open Go Go.Abs
theorem aDv (s:Sta) (x:Us) (hx:x.2.length≤9223372036854775807) (ho:s.opn.length≤9223372036854775807) :Den Tryz.prog 48 [.sl 4 (x.2.map stC),.s (.int .i64 s.now),.sl 4 (s.opn.map seC)]  (·=.s (.bool (aCe s x))):=by
 refine aY Tryz.func48 rfl (Nat.le_of_ble_eq_true rfl) (fun w0 A hf=>(aC (fun K1 hK1=>(aB (aE aA 1 rfl (aD (hK1 _ (aC (fun K2 hK2=>(aC (fun K3 hK3=>(aB (aE aA 1 rfl (aD (hK3 _ (aR ?_))))))))))))))))
 refine bY (ι:=Nat) (fun k=>⟨80,[(0,.sl 4 (x.2.map stC)),(1,.s (.int .i64 s.now)),(2,.sl 4 (s.opn.map seC)),(7,.s (.int .i64 (k:Nat)))],[]⟩) (fun k=>k≤x.2.length∧∀ (j:Nat) (hj:j<x.2.length),j<k→lA s x.2[j]=true) (fun k=>x.2.length - k) 0 ?_ ?_ ?_
 · exact⟨Nat.zero_le _,by omega⟩
 · exact cW rfl
 ·
  rintro k hC
  obtain ⟨h1,h2⟩:=hC
  refine aC (fun K4 hK4=>(aC (fun K5 hK5=>(aB (aE aA 4 rfl (aD (hK5 _ (cH rfl rfl (fun hc1=>?_) (fun hc1=>?_)))))))))
  ·
   simp only[bs] at hc1
   refine aP (hK4 _ (aC (fun K6 hK6=>(aR (aC (fun K7 hK7=>(aB ?_)))))))
   have hk:k<x.2.length:=by omega
   refine aE aA 2 rfl ?_
   refine aH rfl (bA rfl rfl lL eL (by first | exact ixm (by omega) | assumption | exact⟨by decide,rfl⟩)) ?_
   refine aE aA 1 rfl (cF hf rfl iN rfl eL rfl rfl rfl rfl (lf rfl) (aD (hK7 _ (aC (fun K8 hK8=>(aC (fun K9 hK9=>(aB (aE aA 1 rfl (aD (hK9 _ (aR (bY (ι:=Nat) (fun i=>⟨80,[(0,.sl 4 (x.2.map stC)),(1,.s (.int .i64 s.now)),(2,.sl 4 (s.opn.map seC)),(7,.s (.int .i64 (k:Nat))),(8,.adr (stC x.2[k])),(9,.s (.int .i64 (i:Nat)))],[]⟩) (fun i=>i≤s.opn.length∧∀ (j:Nat) (hj:j<s.opn.length),j<i→¬ (s.opn[j].1.1=x.2[k].2.1∧s.opn[j].2.2<x.2[k].1.2)) (fun i=>s.opn.length - i) 0 ?_ ?_ ?_)))))))))))))
   · exact⟨Nat.zero_le _,by omega⟩
   · exact cW rfl
   ·
    rintro i hC
    obtain ⟨h3,h4⟩:=hC
    refine aC (fun K10 hK10=>(aC (fun K11 hK11=>(aB (aE aA 4 rfl (aD (hK11 _ (cH rfl rfl (fun hc2=>?_) (fun hc2=>?_)))))))))
    ·
     simp only[bs] at hc2
     refine aP (hK10 _ (aC (fun K12 hK12=>(aR (aC (fun K13 hK13=>(dM hf bN (by kernel_rfl) rfl ?_)))))))
     have hi:i<s.opn.length:=by omega
     refine bG aA 2 rfl ?_
     refine bX [(26,_),(27,_)] rfl rfl ⟨⟨rfl,rfl⟩,⟨rfl,rfl⟩,trivial⟩ rfl (bA rfl rfl fS eH (by first | exact ixm (by omega) | assumption | exact⟨by decide,rfl⟩)) ?_
     refine bG aA 6 rfl (gP 34 true rfl (fun hg3=>?_) (fun hg3=>?_))
     ·
      simp only[bs] at hg3
      refine bG aA 4 rfl ?_
      refine bX [(37,_),(38,_)] rfl rfl ⟨⟨rfl,rfl⟩,⟨rfl,rfl⟩,trivial⟩ rfl (bA rfl rfl fS eH (by first | exact ixm (by omega) | assumption | exact⟨by decide,rfl⟩)) ?_
      refine bG aA 4 rfl (dQ [0,1,2,7,8,9,43] rfl rfl rfl (hK13 _ (cH rfl rfl (fun hc4=>?_) (fun hc4=>?_))))
      ·
       simp only[bs] at hc4
       refine aC (fun K14 hK14=>(aB (aE aA 1 rfl (aD (hK14 _ (aN ?_))))))
       refine⟨_,rfl,?_⟩
       refine aS ?_
       exact qM hk (aTu hi (by first | assumption | omega) (by first | assumption | omega))
      ·
       simp only[bs] at hc4
       refine aP (hK12 _ (aB (aE aA 1 rfl ?_)))
       refine aH rfl (bS rfl rfl (by omega) (by omega)) ?_
       refine aE aA 1 rfl (aD ?_)
       exact⟨i+1,⟨by omega,nA h4 (by omega) (by omega)⟩,by omega,cW rfl⟩
     ·
      simp only[bs] at hg3
      refine bG aA 9 rfl (dQ [0,1,2,7,8,9,43] rfl rfl rfl (hK13 _ (bJ rfl (aP (hK12 _ (aB (aE aA 1 rfl ?_)))))))
      refine aH rfl (bS rfl rfl (by omega) (by omega)) ?_
      refine aE aA 1 rfl (aD ?_)
      exact⟨i+1,⟨by omega,nA h4 (by omega) (by omega)⟩,by omega,cW rfl⟩
    ·
     simp only[bs] at hc2
     refine bF (hK8 _ (aC (fun K15 hK15=>(aB (aE aA 4 rfl (bC rfl rfl rfl (fun hg6=>?_) (fun hg6=>?_)))))))
     ·
      simp only[bs] at hg6
      refine aH rfl (bQ rfl aI5 cI rfl) ?_
      refine aE aA 5 rfl (bC rfl rfl rfl (fun hg7=>?_) (fun hg7=>?_))
      ·
       simp only[bs] at hg7
       refine aH rfl (bQ rfl zJ cI rfl) ?_
       refine aE aA 4 rfl (bC rfl rfl rfl (fun hg8=>?_) (fun hg8=>?_))
       ·
        simp only[bs] at hg8
        refine aH rfl (bQ rfl zJ cI rfl) ?_
        refine aE aA 4 rfl (bC rfl rfl rfl (fun hg9=>?_) (fun hg9=>?_))
        ·
         simp only[bs] at hg9
         refine aH rfl (bQ rfl zI cI rfl) ?_
         refine aE aA 4 rfl (bC rfl rfl rfl (fun hg10=>?_) (fun hg10=>?_))
         ·
          simp only[bs] at hg10
          refine aH rfl (bQ rfl zI cI rfl) ?_
          refine aE aA 3 rfl (aD (hK15 _ (cH rfl rfl (fun hc11=>?_) (fun hc11=>?_))))
          ·
           simp only[bs] at hc11
           refine aC (fun K16 hK16=>(aB (aE aA 1 rfl (aD (hK16 _ (aN ?_))))))
           refine⟨_,rfl,?_⟩
           refine aS ?_
           exact qM hk (sM (by omega))
          ·
           simp only[bs] at hc11
           refine aP (hK6 _ (aB (aE aA 1 rfl ?_)))
           refine aH rfl (bS rfl rfl (by omega) (by omega)) ?_
           refine aE aA 1 rfl (aD ?_)
           exact⟨k+1,⟨by omega,nA h2 (by omega) (aRq (by omega) h4 (by refine⟨?_,?_,?_,?_,?_,?_⟩ <;> omega))⟩,by omega,cW rfl⟩
         ·
          simp only[bs] at hg10
          refine aE aA 3 rfl (aD (hK15 _ (bW rfl (aC (fun K17 hK17=>(aB (aE aA 1 rfl (aD (hK17 _ (aN ?_))))))))))
          refine⟨_,rfl,?_⟩
          refine aS ?_
          exact qM hk (sM (by omega))
        ·
         simp only[bs] at hg9
         refine aE aA 8 rfl (aD (hK15 _ (bW rfl (aC (fun K18 hK18=>(aB (aE aA 1 rfl (aD (hK18 _ (aN ?_))))))))))
         refine⟨_,rfl,?_⟩
         refine aS ?_
         exact qM hk (sM (by omega))
       ·
        simp only[bs] at hg8
        refine aE aA 13 rfl (aD (hK15 _ (bW rfl (aC (fun K19 hK19=>(aB (aE aA 1 rfl (aD (hK19 _ (aN ?_))))))))))
        refine⟨_,rfl,?_⟩
        refine aS ?_
        exact qM hk (sM (by omega))
      ·
       simp only[bs] at hg7
       refine aE aA 18 rfl (aD (hK15 _ (bW rfl (aC (fun K20 hK20=>(aB (aE aA 1 rfl (aD (hK20 _ (aN ?_))))))))))
       refine⟨_,rfl,?_⟩
       refine aS ?_
       exact qM hk (sM (by omega))
     ·
      simp only[bs] at hg6
      refine aE aA 24 rfl (aD (hK15 _ (bW rfl (aC (fun K21 hK21=>(aB (aE aA 1 rfl (aD (hK21 _ (aN ?_))))))))))
      refine⟨_,rfl,?_⟩
      refine aS ?_
      exact qM hk (sM (by omega))
  ·
   simp only[bs] at hc1
   refine bF (hK2 _ (aC (fun K22 hK22=>(aB (aE aA 4 rfl (bC rfl rfl rfl (fun hg17=>?_) (fun hg17=>?_)))))))
   ·
    simp only[bs] at hg17
    refine aH rfl (fD rfl) (bP rfl rfl rfl (aM hf rfl (aQ rfl rfl aPa rfl (aDx x.2 hx)) (aE aA 2 rfl (aD (hK22 _ (aN ?_))))))
    refine⟨_,rfl,?_⟩
    refine aS ?_
    exact aKe (by omega) h2 (by simp_all)
   ·
    simp only[bs] at hg17
    refine aE aA 3 rfl (aD (hK22 _ (aN ?_)))
    refine⟨_,rfl,?_⟩
    refine aS ?_
    exact aKe (by omega) h2 (by simp_all)
end Go.Proofs.YtijnkglkchhomaaGreat
set_option linter.unusedVariables false
set_option linter.unusedSimpArgs false
namespace Go.Proofs.YtijnkglkchhomaaGreat
open Go Go.Abs
theorem aDy (s:Sta) (h1:s.opn.length≤9223372036854775807) (h2:s.usr.length≤9223372036854775807) (h3:s.sub.length≤9223372036854775807) (h4:s.tmb.length≤9223372036854775807) (h5:∀ x∈s.usr,x.2.length≤9223372036854775807) (t1:∀ e∈s.opn,TS e.1.2) (t2:∀ x∈s.usr,TS x.1) (t3:∀ e∈s.sub,TS e.1.1∧TS e.1.2) (t4:∀ x∈s.tmb,TS x.1) :Den Tryz.prog 12 [.agg (aL s)]  (·=.s (.bool (qF s))):=by
 refine aY Tryz.func12 rfl (Nat.le_of_ble_eq_true rfl) (fun w0 A hf=>(aC (fun K1 hK1=>(aB (aM hf rfl (cT rfl rfl (lf rfl)) (aE aA 1 rfl (aD (hK1 _ (aC (fun K2 hK2=>(aC (fun K3 hK3=>(aB (aE aA 4 rfl (bC rfl rfl rfl (fun hg1=>?_) (fun hg1=>?_))))))))))))))))
 ·
  simp only[bs] at hg1
  refine aH rfl (bQ rfl aBn cI rfl) ?_
  refine aE aA 4 rfl (bC rfl rfl rfl (fun hg2=>?_) (fun hg2=>?_))
  ·
   simp only[bs] at hg2
   refine aH rfl (bQ rfl rV cI rfl) ?_
   refine aE aA 4 rfl (bC rfl rfl rfl (fun hg3=>?_) (fun hg3=>?_))
   ·
    simp only[bs] at hg3
    refine aH rfl (bQ rfl rV cI rfl) ?_
    refine aE aA 4 rfl (bC rfl rfl rfl (fun hg4=>?_) (fun hg4=>?_))
    ·
     simp only[bs] at hg4
     refine aH rfl (bQ rfl aBm tA rfl) ?_
     refine aE aA 1 rfl (bP rfl rfl rfl (aM hf rfl (aQ rfl rfl aPy rfl (aCc s.opn (by omega) t1)) (aE aA 3 rfl (bC rfl rfl rfl (fun hg5=>?_) (fun hg5=>?_)))))
     ·
      simp only[bs] at hg5
      refine aH rfl (bQ rfl vC sZ rfl) ?_
      refine aE aA 1 rfl (bP rfl rfl rfl (aM hf rfl (aQ rfl rfl aPx rfl (aF0 s.sub h3 t3)) (aE aA 2 rfl (aD (hK3 _ (cH rfl rfl (fun hc6=>?_) (fun hc6=>?_)))))))
      ·
       simp only[bs] at hc6
       refine aC (fun K4 hK4=>(aB (aE aA 1 rfl (aD (hK4 _ (aN ?_))))))
       refine⟨_,rfl,?_⟩
       refine aS ?_
       refine fQ fun h=>?_
       have n0:=h.n0
       have n1:=h.n1
       have n2:=h.h0
       have n3:=h.h1
       have n4:=h.opn
       have n5:=h.sub
       (simp_all; done)
      ·
       simp only[bs] at hc6
       refine aP (hK2 _ (aC (fun K5 hK5=>(aC (fun K6 hK6=>(aB (aE aA 1 rfl (aD (hK6 _ (aR (bY (ι:=Nat) (fun k1=>⟨178,[(1,.adr (aL s)),(3,.s (.int .i64 (k1:Nat)))],[]⟩) (fun k1=>k1≤s.opn.length∧∀ (j:Nat) (hj:j<s.opn.length),j<k1→s.opn[j].2.2≤s.now) (fun k1=>s.opn.length - k1) 0 ?_ ?_ ?_)))))))))))
       · exact⟨Nat.zero_le _,by omega⟩
       · exact cW rfl
       ·
        rintro k1 hC
        obtain ⟨a1,a2⟩:=hC
        refine aC (fun K7 hK7=>(aC (fun K8 hK8=>(aB (aE aA 5 rfl (aD (hK8 _ (cH rfl rfl (fun hc7=>?_) (fun hc7=>?_)))))))))
        ·
         simp only[bs] at hc7
         refine aP (hK7 _ (aC (fun K9 hK9=>(aR (aC (fun K10 hK10=>(dM hf bN (by kernel_rfl) rfl ?_)))))))
         have q1:k1<s.opn.length:=by omega
         refine bG aA 3 rfl ?_
         refine bX [(48,_),(49,_)] rfl rfl ⟨⟨rfl,rfl⟩,⟨rfl,rfl⟩,trivial⟩ rfl (bA rfl rfl fS eH (by first | exact ixm (by omega) | assumption | exact⟨by decide,rfl⟩)) ?_
         refine bG aA 5 rfl (dQ [1,3,55] rfl rfl rfl (hK10 _ (cH rfl rfl (fun hc8=>?_) (fun hc8=>?_))))
         ·
          simp only[bs] at hc8
          refine aC (fun K11 hK11=>(aB (aE aA 1 rfl (aD (hK11 _ (aN ?_))))))
          refine⟨_,rfl,?_⟩
          refine aS ?_
          refine fQ fun h=>?_
          have:=h.late _ (List.getElem_mem q1)
          omega
         ·
          simp only[bs] at hc8
          refine aP (hK9 _ (aB (aE aA 1 rfl ?_)))
          refine aH rfl (bS rfl rfl (by omega) (by omega)) ?_
          refine aE aA 1 rfl (aD ?_)
          exact⟨k1+1,⟨by omega,nA a2 (by omega) (by omega)⟩,by omega,cW rfl⟩
        ·
         simp only[bs] at hc7
         refine bF (hK5 _ (aC (fun K12 hK12=>(aC (fun K13 hK13=>(aB (aE aA 1 rfl (aD (hK13 _ (aR (bY (ι:=Nat) (fun k2=>⟨178,[(1,.adr (aL s)),(4,.s (.int .i64 (k2:Nat)))],[]⟩) (fun k2=>k2≤s.usr.length∧RisUp cZ (fun x=>aCe s x=true) s.usr k2) (fun k2=>s.usr.length - k2) 0 ?_ ?_ ?_)))))))))))
         · exact⟨Nat.zero_le _,RisUp.zero⟩
         · exact cW rfl
         ·
          rintro k2 hC
          obtain ⟨b1,b2⟩:=hC
          refine aC (fun K14 hK14=>(aC (fun K15 hK15=>(aB (aE aA 5 rfl (aD (hK15 _ (cH rfl rfl (fun hc9=>?_) (fun hc9=>?_)))))))))
          ·
           simp only[bs] at hc9
           refine aP (hK14 _ (aC (fun K16 hK16=>(aR (aC (fun K17 hK17=>(aB ?_)))))))
           have q2:k2<s.usr.length:=by omega
           refine aE aA 3 rfl ?_
           refine aH rfl (bA rfl rfl eJ eG (by first | exact ixm (by omega) | assumption | exact⟨by decide,rfl⟩)) ?_
           refine aE aA 1 rfl (cF hf rfl rB rfl eG rfl rfl rfl rfl (lf rfl) (aD (hK17 _ (aC (fun K18 hK18=>(dM hf bN (by kernel_rfl) rfl (bG aA 2 rfl (cC [(69,_)] rfl rfl ⟨⟨rfl,rfl⟩,trivial⟩ rfl (aQ rfl rfl gV rfl (Nm.refRight_den _ (t2 _ (List.getElem_mem _)))) (bG aA 2 rfl (gP 72 false rfl (fun hg10=>?_) (fun hg10=>?_)))))))))))
           ·
            simp only[bs] at hg10
            refine bG aA 6 rfl (cC [(74,_),(76,_),(78,_)] rfl rfl ⟨⟨rfl,rfl⟩,⟨rfl,rfl⟩,⟨rfl,rfl⟩,trivial⟩ rfl (aQ rfl rfl aPw rfl (aDv s s.usr[k2] (h5 _ (List.getElem_mem q2)) h1)) (bG aA 3 rfl (gP 82 false rfl (fun hg11=>?_) (fun hg11=>?_))))
            ·
             simp only[bs] at hg11
             refine bG aA 3 rfl (gP 85 true rfl (fun hg12=>?_) (fun hg12=>?_))
             ·
              simp only[bs] at hg12
              refine bG aA 3 rfl ?_
              refine bX [(88,_)] rfl rfl ⟨⟨rfl,rfl⟩,trivial⟩ rfl (gF rfl rfl (by omega) (by omega)) ?_
              refine bX [(87,_),(89,_)] rfl rfl ⟨⟨rfl,rfl⟩,⟨rfl,rfl⟩,trivial⟩ rfl (bA rfl rfl eJ eG (mS (k:=k2 - 1) (by omega) (by omega))) (bG aA 4 rfl (cC [(92,_),(94,_)] rfl rfl ⟨⟨rfl,rfl⟩,⟨rfl,rfl⟩,trivial⟩ rfl (aQ rfl rfl oP rfl (Nm.refCmp_den _ _ (t2 _ (List.getElem_mem _)) (t2 _ (List.getElem_mem _)))) (bG aA 3 rfl (dQ [1,4,98] rfl rfl rfl (hK18 _ (cH rfl rfl (fun hc13=>?_) (fun hc13=>?_)))))))
              ·
               simp only[bs] at hc13
               refine aC (fun K19 hK19=>(aB (aE aA 1 rfl (aD (hK19 _ (aN ?_))))))
               refine⟨_,rfl,?_⟩
               refine aS ?_
               refine fQ fun h=>?_
               have e1:=h.unm _ (List.getElem_mem q2)
               have e2:=h.uok _ (List.getElem_mem q2)
               (have e3:=aQg h.usr (k:=k2) (by omega) q2; simp only[cZ] at e3; omega)
              ·
               simp only[bs] at hc13
               refine aP (hK16 _ (aB (aE aA 1 rfl ?_)))
               refine aH rfl (bS rfl rfl (by omega) (by omega)) ?_
               refine aE aA 1 rfl (aD ?_)
               exact⟨k2+1,⟨by omega,b2.next (by omega) (by first | assumption | (simp_all; done)) (by first | assumption | (simp_all; done)) (fun h0=>by first | omega | (show eA (s.usr[k2 - 1]).1 (s.usr[k2]).1<0; omega))⟩,by omega,cW rfl⟩
             ·
              simp only[bs] at hg12
              refine bG aA 13 rfl (dQ [1,4,98] rfl rfl rfl (hK18 _ (bJ rfl (aP (hK16 _ (aB (aE aA 1 rfl ?_)))))))
              refine aH rfl (bS rfl rfl (by omega) (by omega)) ?_
              refine aE aA 1 rfl (aD ?_)
              exact⟨k2+1,⟨by omega,b2.next (by omega) (by first | assumption | (simp_all; done)) (by first | assumption | (simp_all; done)) (fun h0=>by first | omega | (show eA (s.usr[k2 - 1]).1 (s.usr[k2]).1<0; omega))⟩,by omega,cW rfl⟩
            ·
             simp only[bs] at hg11
             refine bG aA 3 rfl (cL rfl rfl ?_)
             refine cL rfl rfl ?_
             refine cL rfl rfl ?_
             refine cL rfl rfl ?_
             refine cL rfl rfl ?_
             refine cL rfl rfl ?_
             refine cL rfl rfl ?_
             refine cL rfl rfl ?_
             refine cL rfl rfl ?_
             refine cL rfl rfl ?_
             refine cL rfl rfl ?_
             refine bG aA 2 rfl (dQ [1,4,98] rfl rfl rfl (hK18 _ (bW rfl (aC (fun K20 hK20=>(aB (aE aA 1 rfl (aD (hK20 _ (aN ?_))))))))))
             refine⟨_,rfl,?_⟩
             refine aS ?_
             refine fQ fun h=>?_
             have e1:=h.unm _ (List.getElem_mem q2)
             have e2:=h.uok _ (List.getElem_mem q2)
             (simp_all; done)
           ·
            simp only[bs] at hg10
            refine bG aA 13 rfl (cL rfl rfl ?_)
            refine cL rfl rfl ?_
            refine cL rfl rfl ?_
            refine cL rfl rfl ?_
            refine cL rfl rfl ?_
            refine cL rfl rfl ?_
            refine cL rfl rfl ?_
            refine cL rfl rfl ?_
            refine cL rfl rfl ?_
            refine cL rfl rfl ?_
            refine cL rfl rfl ?_
            refine bG aA 2 rfl (dQ [1,4,98] rfl rfl rfl (hK18 _ (bW rfl (aC (fun K21 hK21=>(aB (aE aA 1 rfl (aD (hK21 _ (aN ?_))))))))))
            refine⟨_,rfl,?_⟩
            refine aS ?_
            refine fQ fun h=>?_
            have e1:=h.unm _ (List.getElem_mem q2)
            have e2:=h.uok _ (List.getElem_mem q2)
            (simp_all; done)
          ·
           simp only[bs] at hc9
           refine bF (hK12 _ (aC (fun K22 hK22=>(aC (fun K23 hK23=>(aB (aE aA 1 rfl (aD (hK23 _ (aR (bY (ι:=Nat) (fun k3=>⟨178,[(1,.adr (aL s)),(6,.s (.int .i64 (k3:Nat)))],[]⟩) (fun k3=>k3≤s.sub.length∧∀ (j:Nat) (hj:j<s.sub.length),j<k3→aEd s s.sub[j]=true) (fun k3=>s.sub.length - k3) 0 ?_ ?_ ?_)))))))))))
           · exact⟨Nat.zero_le _,by omega⟩
           · exact cW rfl
           ·
            rintro k3 hC
            obtain ⟨c1,c2⟩:=hC
            refine aC (fun K24 hK24=>(aC (fun K25 hK25=>(aB (aE aA 5 rfl (aD (hK25 _ (cH rfl rfl (fun hc17=>?_) (fun hc17=>?_)))))))))
            ·
             simp only[bs] at hc17
             refine aP (hK24 _ (aC (fun K26 hK26=>(aR (aC (fun K27 hK27=>(aB ?_)))))))
             have q3:k3<s.sub.length:=by omega
             refine aE aA 3 rfl ?_
             refine aH rfl (bA rfl rfl fR eQ (by first | exact ixm (by omega) | assumption | exact⟨by decide,rfl⟩)) ?_
             refine aE aA 1 rfl (cF hf rfl rA rfl eQ rfl rfl rfl rfl (lf rfl) (aD (hK27 _ (aC (fun K28 hK28=>(aB (aE aA 4 rfl (bC rfl rfl rfl (fun hg18=>?_) (fun hg18=>?_)))))))))
             ·
              simp only[bs] at hg18
              refine aH rfl (bQ rfl aLw cI rfl) ?_
              refine aE aA 6 rfl (bC rfl rfl rfl (fun hg19=>?_) (fun hg19=>?_))
              ·
               simp only[bs] at hg19
               refine aH rfl (bQ rfl rT cI rfl) ?_
               refine aE aA 5 rfl (bC rfl rfl rfl (fun hg20=>?_) (fun hg20=>?_))
               ·
                simp only[bs] at hg20
                refine aH rfl (bQ rfl rT cI rfl) ?_
                refine aE aA 4 rfl (aD (hK28 _ (cH rfl rfl (fun hc21=>?_) (fun hc21=>?_))))
                ·
                 simp only[bs] at hc21
                 refine aC (fun K29 hK29=>(aB (aE aA 1 rfl (aD (hK29 _ (aN ?_))))))
                 refine⟨_,rfl,?_⟩
                 refine aS ?_
                 refine fQ fun h=>?_
                 have e1:=gH.1 (h.sok _ (List.getElem_mem q3))
                 omega
                ·
                 simp only[bs] at hc21
                 refine aP (hK26 _ (aB (aE aA 1 rfl ?_)))
                 refine aH rfl (bS rfl rfl (by omega) (by omega)) ?_
                 refine aE aA 1 rfl (aD ?_)
                 exact⟨k3+1,⟨by omega,nA c2 (by omega) (gH.2 ⟨by omega,by omega,by omega⟩)⟩,by omega,cW rfl⟩
               ·
                simp only[bs] at hg20
                refine aE aA 4 rfl (aD (hK28 _ (bJ rfl (aP (hK26 _ (aB (aE aA 1 rfl ?_)))))))
                refine aH rfl (bS rfl rfl (by omega) (by omega)) ?_
                refine aE aA 1 rfl (aD ?_)
                exact⟨k3+1,⟨by omega,nA c2 (by omega) (gH.2 ⟨by omega,by omega,by omega⟩)⟩,by omega,cW rfl⟩
              ·
               simp only[bs] at hg19
               refine aE aA 5 rfl (kI rfl rfl rfl ?_)
               refine kI rfl rfl rfl ?_
               refine kI rfl rfl rfl ?_
               refine aE aA 2 rfl (aD (hK28 _ (bW rfl (aC (fun K30 hK30=>(aB (aE aA 1 rfl (aD (hK30 _ (aN ?_))))))))))
               refine⟨_,rfl,?_⟩
               refine aS ?_
               refine fQ fun h=>?_
               have e1:=gH.1 (h.sok _ (List.getElem_mem q3))
               omega
             ·
              simp only[bs] at hg18
              refine aE aA 12 rfl (kI rfl rfl rfl ?_)
              refine kI rfl rfl rfl ?_
              refine kI rfl rfl rfl ?_
              refine aE aA 2 rfl (aD (hK28 _ (bW rfl (aC (fun K31 hK31=>(aB (aE aA 1 rfl (aD (hK31 _ (aN ?_))))))))))
              refine⟨_,rfl,?_⟩
              refine aS ?_
              refine fQ fun h=>?_
              have e1:=gH.1 (h.sok _ (List.getElem_mem q3))
              omega
            ·
             simp only[bs] at hc17
             refine bF (hK22 _ (aC (fun K32 hK32=>(aC (fun K33 hK33=>(aB (aE aA 1 rfl (aD (hK33 _ (aR (bY (ι:=Nat) (fun k4=>⟨178,[(1,.adr (aL s)),(8,.s (.int .i64 (k4:Nat)))],[]⟩) (fun k4=>k4≤s.tmb.length∧RisUp dR (fun x=>aTt s x=true) s.tmb k4) (fun k4=>s.tmb.length - k4) 0 ?_ ?_ ?_)))))))))))
             · exact⟨Nat.zero_le _,RisUp.zero⟩
             · exact cW rfl
             ·
              rintro k4 hC
              obtain ⟨d1,d2⟩:=hC
              refine aC (fun K34 hK34=>(aC (fun K35 hK35=>(aB (aE aA 5 rfl (aD (hK35 _ (cH rfl rfl (fun hc25=>?_) (fun hc25=>?_)))))))))
              ·
               simp only[bs] at hc25
               refine aP (hK34 _ (aC (fun K36 hK36=>(aR (aC (fun K37 hK37=>(aB ?_)))))))
               have q4:k4<s.tmb.length:=by omega
               refine aE aA 3 rfl ?_
               refine aH rfl (bA rfl rfl kH gS (by first | exact ixm (by omega) | assumption | exact⟨by decide,rfl⟩)) ?_
               refine aE aA 1 rfl (cF hf rfl wC rfl gS rfl rfl rfl rfl (lf rfl) (aD (hK37 _ (aC (fun K38 hK38=>(dM hf bN (by kernel_rfl) rfl (bG aA 2 rfl (cC [(146,_)] rfl rfl ⟨⟨rfl,rfl⟩,trivial⟩ rfl (aQ rfl rfl gV rfl (Nm.refRight_den _ (t4 _ (List.getElem_mem _)))) (bG aA 2 rfl (gP 149 false rfl (fun hg26=>?_) (fun hg26=>?_)))))))))))
               ·
                simp only[bs] at hg26
                refine bG aA 5 rfl (gP 154 false rfl (fun hg27=>?_) (fun hg27=>?_))
                ·
                 simp only[bs] at hg27
                 refine bG aA 7 rfl (gP 161 false rfl (fun hg28=>?_) (fun hg28=>?_))
                 ·
                  simp only[bs] at hg28
                  refine bG aA 3 rfl (gP 164 true rfl (fun hg29=>?_) (fun hg29=>?_))
                  ·
                   simp only[bs] at hg29
                   refine bG aA 3 rfl ?_
                   refine bX [(167,_)] rfl rfl ⟨⟨rfl,rfl⟩,trivial⟩ rfl (gF rfl rfl (by omega) (by omega)) ?_
                   refine bX [(166,_),(168,_)] rfl rfl ⟨⟨rfl,rfl⟩,⟨rfl,rfl⟩,trivial⟩ rfl (bA rfl rfl kH gS (mS (k:=k4 - 1) (by omega) (by omega))) (bG aA 4 rfl (cC [(171,_),(173,_)] rfl rfl ⟨⟨rfl,rfl⟩,⟨rfl,rfl⟩,trivial⟩ rfl (aQ rfl rfl oP rfl (Nm.refCmp_den _ _ (t4 _ (List.getElem_mem _)) (t4 _ (List.getElem_mem _)))) (bG aA 3 rfl (dQ [1,8,177] rfl rfl rfl (hK38 _ (cH rfl rfl (fun hc30=>?_) (fun hc30=>?_)))))))
                   ·
                    simp only[bs] at hc30
                    refine aC (fun K39 hK39=>(aB (aE aA 1 rfl (aD (hK39 _ (aN ?_))))))
                    refine⟨_,rfl,?_⟩
                    refine aS ?_
                    refine fQ fun h=>?_
                    have e1:=h.tnm _ (List.getElem_mem q4)
                    have e2:=kZ.1 (h.tok _ (List.getElem_mem q4))
                    (have e3:=aQg h.tmb (k:=k4) (by omega) q4; simp only[dR] at e3; omega)
                   ·
                    simp only[bs] at hc30
                    refine aP (hK36 _ (aB (aE aA 1 rfl ?_)))
                    refine aH rfl (bS rfl rfl (by omega) (by omega)) ?_
                    refine aE aA 1 rfl (aD ?_)
                    exact⟨k4+1,⟨by omega,d2.next (by omega) (by first | assumption | (simp_all; done)) (kZ.2 ⟨by omega,by omega⟩) (fun h0=>by first | omega | (show eA (s.tmb[k4 - 1]).1 (s.tmb[k4]).1<0; omega))⟩,by omega,cW rfl⟩
                  ·
                   simp only[bs] at hg29
                   refine bG aA 13 rfl (dQ [1,8,177] rfl rfl rfl (hK38 _ (bJ rfl (aP (hK36 _ (aB (aE aA 1 rfl ?_)))))))
                   refine aH rfl (bS rfl rfl (by omega) (by omega)) ?_
                   refine aE aA 1 rfl (aD ?_)
                   exact⟨k4+1,⟨by omega,d2.next (by omega) (by first | assumption | (simp_all; done)) (kZ.2 ⟨by omega,by omega⟩) (fun h0=>by first | omega | (show eA (s.tmb[k4 - 1]).1 (s.tmb[k4]).1<0; omega))⟩,by omega,cW rfl⟩
                 ·
                  simp only[bs] at hg28
                  refine bG aA 3 rfl (cL rfl rfl ?_)
                  refine cL rfl rfl ?_
                  refine cL rfl rfl ?_
                  refine cL rfl rfl ?_
                  refine cL rfl rfl ?_
                  refine cL rfl rfl ?_
                  refine cL rfl rfl ?_
                  refine cL rfl rfl ?_
                  refine cL rfl rfl ?_
                  refine cL rfl rfl ?_
                  refine cL rfl rfl ?_
                  refine bG aA 2 rfl (dQ [1,8,177] rfl rfl rfl (hK38 _ (bW rfl (aC (fun K40 hK40=>(aB (aE aA 1 rfl (aD (hK40 _ (aN ?_))))))))))
                  refine⟨_,rfl,?_⟩
                  refine aS ?_
                  refine fQ fun h=>?_
                  have e1:=h.tnm _ (List.getElem_mem q4)
                  have e2:=kZ.1 (h.tok _ (List.getElem_mem q4))
                  omega
                ·
                 simp only[bs] at hg27
                 refine bG aA 10 rfl (cL rfl rfl ?_)
                 refine cL rfl rfl ?_
                 refine cL rfl rfl ?_
                 refine cL rfl rfl ?_
                 refine cL rfl rfl ?_
                 refine cL rfl rfl ?_
                 refine cL rfl rfl ?_
                 refine cL rfl rfl ?_
                 refine cL rfl rfl ?_
                 refine cL rfl rfl ?_
                 refine cL rfl rfl ?_
                 refine bG aA 2 rfl (dQ [1,8,177] rfl rfl rfl (hK38 _ (bW rfl (aC (fun K41 hK41=>(aB (aE aA 1 rfl (aD (hK41 _ (aN ?_))))))))))
                 refine⟨_,rfl,?_⟩
                 refine aS ?_
                 refine fQ fun h=>?_
                 have e1:=h.tnm _ (List.getElem_mem q4)
                 have e2:=kZ.1 (h.tok _ (List.getElem_mem q4))
                 omega
               ·
                simp only[bs] at hg26
                refine bG aA 15 rfl (cL rfl rfl ?_)
                refine cL rfl rfl ?_
                refine cL rfl rfl ?_
                refine cL rfl rfl ?_
                refine cL rfl rfl ?_
                refine cL rfl rfl ?_
                refine cL rfl rfl ?_
                refine cL rfl rfl ?_
                refine cL rfl rfl ?_
                refine cL rfl rfl ?_
                refine cL rfl rfl ?_
                refine bG aA 2 rfl (dQ [1,8,177] rfl rfl rfl (hK38 _ (bW rfl (aC (fun K42 hK42=>(aB (aE aA 1 rfl (aD (hK42 _ (aN ?_))))))))))
                refine⟨_,rfl,?_⟩
                refine aS ?_
                refine fQ fun h=>?_
                have e1:=h.tnm _ (List.getElem_mem q4)
                have e2:=kZ.1 (h.tok _ (List.getElem_mem q4))
                (simp_all; done)
              ·
               simp only[bs] at hc25
               refine bF (hK32 _ (aC (fun K43 hK43=>(aB (aE aA 1 rfl (aD (hK43 _ (aN ?_))))))))
               refine⟨_,rfl,?_⟩
               refine aS ?_
               exact aRg ⟨by omega,by omega,by omega,by omega,by first | assumption | (simp_all; done),aLs (by omega) a2,b2.n (by omega),b2.r (by omega),b2.q (by omega),by first | assumption | (simp_all; done),aLs (by omega) c2,d2.n (by omega),d2.r (by omega),d2.q (by omega)⟩
     ·
      simp only[bs] at hg5
      refine aE aA 4 rfl (aD (hK3 _ (bW rfl (aC (fun K44 hK44=>(aB (aE aA 1 rfl (aD (hK44 _ (aN ?_))))))))))
      refine⟨_,rfl,?_⟩
      refine aS ?_
      refine fQ fun h=>?_
      have n0:=h.n0
      have n1:=h.n1
      have n2:=h.h0
      have n3:=h.h1
      have n4:=h.opn
      have n5:=h.sub
      (simp_all; done)
    ·
     simp only[bs] at hg4
     refine aE aA 10 rfl (aD (hK3 _ (bW rfl (aC (fun K45 hK45=>(aB (aE aA 1 rfl (aD (hK45 _ (aN ?_))))))))))
     refine⟨_,rfl,?_⟩
     refine aS ?_
     refine fQ fun h=>?_
     have n0:=h.n0
     have n1:=h.n1
     have n2:=h.h0
     have n3:=h.h1
     have n4:=h.opn
     have n5:=h.sub
     omega
   ·
    simp only[bs] at hg3
    refine aE aA 15 rfl (aD (hK3 _ (bW rfl (aC (fun K46 hK46=>(aB (aE aA 1 rfl (aD (hK46 _ (aN ?_))))))))))
    refine⟨_,rfl,?_⟩
    refine aS ?_
    refine fQ fun h=>?_
    have n0:=h.n0
    have n1:=h.n1
    have n2:=h.h0
    have n3:=h.h1
    have n4:=h.opn
    have n5:=h.sub
    omega
  ·
   simp only[bs] at hg2
   refine aE aA 20 rfl (aD (hK3 _ (bW rfl (aC (fun K47 hK47=>(aB (aE aA 1 rfl (aD (hK47 _ (aN ?_))))))))))
   refine⟨_,rfl,?_⟩
   refine aS ?_
   refine fQ fun h=>?_
   have n0:=h.n0
   have n1:=h.n1
   have n2:=h.h0
   have n3:=h.h1
   have n4:=h.opn
   have n5:=h.sub
   omega
 ·
  simp only[bs] at hg1
  refine aE aA 25 rfl (aD (hK3 _ (bW rfl (aC (fun K48 hK48=>(aB (aE aA 1 rfl (aD (hK48 _ (aN ?_))))))))))
  refine⟨_,rfl,?_⟩
  refine aS ?_
  refine fQ fun h=>?_
  have n0:=h.n0
  have n1:=h.n1
  have n2:=h.h0
  have n3:=h.h1
  have n4:=h.opn
  have n5:=h.sub
  omega
end Go.Proofs.YtijnkglkchhomaaGreat
set_option linter.unusedVariables false
set_option linter.unusedSimpArgs false
namespace Go.Proofs.YtijnkglkchhomaaGreat
open Go Go.Abs
theorem aFy (a b:Sta) (ha:SzS 140737488355328 a) (hb:SzS 140737488355328 b) :Den Tryz.prog 19 [.agg (aL a),.agg (aL b)]  (·=.s (.bool (decide (a=b)))):=by
 have a1:=ha.o
 have a2:=ha.u
 have a3:=ha.b
 have a4:=ha.t
 have b1:=hb.o
 have b2:=hb.u
 have b3:=hb.b
 have b4:=hb.t
 refine aY Tryz.func19 rfl (Nat.le_of_ble_eq_true rfl) (fun w0 A hf=>(aC (fun K1 hK1=>(aB (aM hf rfl (cT rfl rfl (lf rfl)) (aM hf rfl (cT rfl rfl (lf rfl)) (aE aA 1 rfl (aD (hK1 _ (aC (fun K2 hK2=>(aC (fun K3 hK3=>(aB (aE aA 6 rfl (bC rfl rfl rfl (fun hg1=>?_) (fun hg1=>?_)))))))))))))))))
 ·
  simp only[bs] at hg1
  refine aH rfl (bQ rfl rV cI rfl) ?_
  refine aE aA 6 rfl (bC rfl rfl rfl (fun hg2=>?_) (fun hg2=>?_))
  ·
   simp only[bs] at hg2
   refine aH rfl (bQ rfl aL4 zK rfl) ?_
   refine aE aA 8 rfl (bC rfl rfl rfl (fun hg3=>?_) (fun hg3=>?_))
   ·
    simp only[bs] at hg3
    refine aH rfl (bQ rfl aL3 aFo rfl) ?_
    refine aE aA 7 rfl (aD (hK3 _ (cH rfl rfl (fun hc4=>?_) (fun hc4=>?_))))
    ·
     simp only[bs] at hc4
     refine aC (fun K4 hK4=>(aB (aE aA 1 rfl (aD (hK4 _ (aN ?_))))))
     refine⟨_,rfl,?_⟩
     refine aS ?_
     rw[Bool.eq_iff_iff]
     simp only[nR]
     first
     | (simp_all; done)
     | (simp only[Bool.false_eq_true,decide_eq_true_eq,false_iff]; rintro ⟨i1,i2,i3,i4,i5,i6⟩; first | omega | (simp_all; done) | (rw[i4] at *; omega) | (rw[i6] at *; omega))
    ·
     simp only[bs] at hc4
     refine aP (hK2 _ (aC (fun K5 hK5=>(aC (fun K6 hK6=>(aB (aE aA 1 rfl (aD (hK6 _ (aR (bY (ι:=Nat) (fun k=>⟨103,[(2,.adr (aL a)),(3,.adr (aL b)),(5,.s (.int .i64 (k:Nat)))],[]⟩) (fun k=>k≤a.usr.length∧a.usr.take k=b.usr.take k) (fun k=>a.usr.length - k) 0 ?_ ?_ ?_)))))))))))
     · exact⟨Nat.zero_le _,rfl⟩
     · exact cW rfl
     ·
      rintro k hC
      obtain ⟨h1,h2⟩:=hC
      refine aC (fun K7 hK7=>(aC (fun K8 hK8=>(aB (aE aA 5 rfl (aD (hK8 _ (cH rfl rfl (fun hc5=>?_) (fun hc5=>?_)))))))))
      ·
       simp only[bs] at hc5
       refine aP (hK7 _ (aC (fun K9 hK9=>(aR (aC (fun K10 hK10=>(dM hf bN (by kernel_rfl) rfl ?_)))))))
       have hk:k<a.usr.length:=by omega
       have hk2:k<b.usr.length:=by omega
       refine bG aA 3 rfl ?_
       refine bX [(45,_),(46,_)] rfl rfl ⟨⟨rfl,rfl⟩,⟨rfl,rfl⟩,trivial⟩ rfl (bA rfl rfl eJ eG (by first | exact ixm (by omega) | assumption | exact⟨by decide,rfl⟩)) ?_
       refine bG aA 5 rfl ?_
       refine bX [(51,_),(52,_)] rfl rfl ⟨⟨rfl,rfl⟩,⟨rfl,rfl⟩,trivial⟩ rfl (bA rfl rfl eJ eG (by first | exact ixm (by omega) | assumption | exact⟨by decide,rfl⟩)) ?_
       refine bG aA 4 rfl (gP 57 false rfl (fun hg6=>?_) (fun hg6=>?_))
       ·
        simp only[bs] at hg6
        refine bG aA 3 rfl ?_
        refine bX [(59,_),(60,_)] rfl rfl ⟨⟨rfl,rfl⟩,⟨rfl,rfl⟩,trivial⟩ rfl (bA rfl rfl eJ eG (by first | exact ixm (by omega) | assumption | exact⟨by decide,rfl⟩)) ?_
        refine bG aA 5 rfl ?_
        refine bX [(65,_),(66,_)] rfl rfl ⟨⟨rfl,rfl⟩,⟨rfl,rfl⟩,trivial⟩ rfl (bA rfl rfl eJ eG (by first | exact ixm (by omega) | assumption | exact⟨by decide,rfl⟩)) ?_
        refine bG aA 2 rfl (cC [(63,_),(69,_)] rfl rfl ⟨⟨rfl,rfl⟩,⟨rfl,rfl⟩,trivial⟩ rfl (aQ rfl rfl aP3 rfl (aH3 a.usr[k].2 b.usr[k].2 (by have:=ha.y _ (List.getElem_mem hk); omega) (by have:=hb.y _ (List.getElem_mem hk2); omega))) ?_)
        refine bG aA 2 rfl (dQ [2,3,5,72] rfl rfl rfl (hK10 _ (cH rfl rfl (fun hc7=>?_) (fun hc7=>?_))))
        ·
         simp only[bs] at hc7
         refine aC (fun K11 hK11=>(aB (aE aA 1 rfl (aD (hK11 _ (aN ?_))))))
         refine⟨_,rfl,?_⟩
         refine aS ?_
         symm
         rw[decide_eq_false_iff_not]
         intro e
         subst e
         simp_all
        ·
         simp only[bs] at hc7
         refine aP (hK9 _ (aB (aE aA 1 rfl ?_)))
         refine aH rfl (bS rfl rfl (by omega) (by omega)) ?_
         refine aE aA 1 rfl (aD ?_)
         exact⟨k+1,⟨by omega,jC (by omega) (by omega) h2 (Prod.ext (by simp_all[toList_inj]) (by simp_all))⟩,by omega,cW rfl⟩
       ·
        simp only[bs] at hg6
        refine bG aA 15 rfl (dQ [2,3,5,72] rfl rfl rfl (hK10 _ (bW rfl (aC (fun K12 hK12=>(aB (aE aA 1 rfl (aD (hK12 _ (aN ?_))))))))))
        refine⟨_,rfl,?_⟩
        refine aS ?_
        symm
        rw[decide_eq_false_iff_not]
        intro e
        subst e
        simp_all
      ·
       simp only[bs] at hc5
       refine bF (hK5 _ (aC (fun K13 hK13=>(aC (fun K14 hK14=>(aB ?_))))))
       have hU:a.usr=b.usr:=by have:=kK (a:=a.usr) (b:=b.usr) (k:=k) (by omega) (by omega) h2; simpa using this
       refine aE aA 1 rfl (aD (hK14 _ (aR (bY (ι:=Nat) (fun q=>⟨103,[(2,.adr (aL a)),(3,.adr (aL b)),(6,.s (.int .i64 (q:Nat)))],[]⟩) (fun q=>q≤a.tmb.length∧a.tmb.take q=b.tmb.take q) (fun q=>a.tmb.length - q) 0 ?_ ?_ ?_))))
       · exact⟨Nat.zero_le _,rfl⟩
       · exact cW rfl
       ·
        rintro q hC
        obtain ⟨h3,h4⟩:=hC
        refine aC (fun K15 hK15=>(aC (fun K16 hK16=>(aB (aE aA 5 rfl (aD (hK16 _ (cH rfl rfl (fun hc9=>?_) (fun hc9=>?_)))))))))
        ·
         simp only[bs] at hc9
         refine aP (hK15 _ (aC (fun K17 hK17=>(aR (aC (fun K18 hK18=>(dM hf bN (by kernel_rfl) rfl ?_)))))))
         have hq:q<a.tmb.length:=by omega
         have hq2:q<b.tmb.length:=by omega
         refine bG aA 3 rfl ?_
         refine bX [(81,_),(82,_)] rfl rfl ⟨⟨rfl,rfl⟩,⟨rfl,rfl⟩,trivial⟩ rfl (bA rfl rfl kH gS (by first | exact ixm (by omega) | assumption | exact⟨by decide,rfl⟩)) ?_
         refine bG aA 4 rfl ?_
         refine bX [(86,_),(87,_)] rfl rfl ⟨⟨rfl,rfl⟩,⟨rfl,rfl⟩,trivial⟩ rfl (bA rfl rfl kH gS (by first | exact ixm (by omega) | assumption | exact⟨by decide,rfl⟩)) ?_
         refine bG aA 1 rfl (bX [(84,_),(89,_)] rfl rfl ⟨⟨rfl,rfl⟩,⟨rfl,rfl⟩,trivial⟩ rfl (pP rfl rfl aSt rfl) (dQ [2,3,6,90] rfl rfl rfl (hK18 _ (cH rfl rfl (fun hc10=>?_) (fun hc10=>?_)))))
         ·
          simp only[bs] at hc10
          refine aC (fun K19 hK19=>(aB (aE aA 1 rfl (aD (hK19 _ (aN ?_))))))
          refine⟨_,rfl,?_⟩
          refine aS ?_
          symm
          rw[decide_eq_false_iff_not]
          intro e
          subst e
          simp_all
         ·
          simp only[bs] at hc10
          refine aP (hK17 _ (aB (aE aA 1 rfl ?_)))
          refine aH rfl (bS rfl rfl (by omega) (by omega)) ?_
          refine aE aA 1 rfl (aD ?_)
          exact⟨q+1,⟨by omega,jC (by omega) (by omega) h4 (Prod.ext (by simp_all[toList_inj]) (by simp_all))⟩,by omega,cW rfl⟩
        ·
         simp only[bs] at hc9
         refine bF (hK13 _ (aC (fun K20 hK20=>(aB ?_))))
         have hT:a.tmb=b.tmb:=by have:=kK (a:=a.tmb) (b:=b.tmb) (k:=q) (by omega) (by omega) h4; simpa using this
         refine aE aA 4 rfl (aM hf rfl (aQ rfl rfl aPs rfl (aFz a.opn b.opn (by omega) (by omega))) (aE aA 1 rfl (bC rfl rfl rfl (fun hg11=>?_) (fun hg11=>?_))))
         ·
          simp only[bs] at hg11
          refine aH rfl (bQ rfl vC sZ rfl) ?_
          refine aE aA 3 rfl (bP rfl rfl rfl (aM hf rfl (aQ rfl rfl aPr rfl (aH2 a.sub b.sub (by omega) (by omega))) (aE aA 2 rfl (aD (hK20 _ (aN ?_))))))
          refine⟨_,rfl,?_⟩
          refine aS ?_
          rw[Bool.eq_iff_iff]
          simp only[nR]
          simp_all
         ·
          simp only[bs] at hg11
          refine aE aA 6 rfl (aD (hK20 _ (aN ?_)))
          refine⟨_,rfl,?_⟩
          refine aS ?_
          rw[Bool.eq_iff_iff]
          simp only[nR]
          simp_all
   ·
    simp only[bs] at hg3
    refine aE aA 7 rfl (aD (hK3 _ (bW rfl (aC (fun K21 hK21=>(aB (aE aA 1 rfl (aD (hK21 _ (aN ?_))))))))))
    refine⟨_,rfl,?_⟩
    refine aS ?_
    rw[Bool.eq_iff_iff]
    simp only[nR]
    first
    | (simp_all; done)
    | (simp only[Bool.false_eq_true,decide_eq_true_eq,false_iff]; rintro ⟨i1,i2,i3,i4,i5,i6⟩; first | omega | (simp_all; done) | (rw[i4] at *; omega) | (rw[i6] at *; omega))
  ·
   simp only[bs] at hg2
   refine aE aA 16 rfl (aD (hK3 _ (bW rfl (aC (fun K22 hK22=>(aB (aE aA 1 rfl (aD (hK22 _ (aN ?_))))))))))
   refine⟨_,rfl,?_⟩
   refine aS ?_
   rw[Bool.eq_iff_iff]
   simp only[nR]
   (simp_all; done)
 ·
  simp only[bs] at hg1
  refine aE aA 23 rfl (aD (hK3 _ (bW rfl (aC (fun K23 hK23=>(aB (aE aA 1 rfl (aD (hK23 _ (aN ?_))))))))))
  refine⟨_,rfl,?_⟩
  refine aS ?_
  rw[Bool.eq_iff_iff]
  simp only[nR]
  (simp_all; done)
end Go.Proofs.YtijnkglkchhomaaGreat
set_option linter.unusedVariables false
set_option linter.unusedSimpArgs false
namespace Go.Proofs.YtijnkglkchhomaaGreat
open Go Go.Abs
theorem wN (s:Sta) (hz:SzS 140737488355328 s) (ts:TsS s):Den Tryz.prog 12 [.agg (aL s)] (·=.s (.bool (qF s))) :=
  aDy s (by have:=hz.o; omega) (by have:=hz.u; omega) (by have:=hz.b; omega) (by have:=hz.t; omega) (fun x hx=>by have:=hz.y x hx; omega) ts.o ts.u ts.b ts.t
theorem zR (a b:Sta) (h:a=b) (hz:SzS 140737488355328 a):Den Tryz.prog 34 [.agg (aL a),.agg (aL b)] (·=.s (.bool true)):=by
  subst h; exact fZ (aN3 a a hz hz) (by simp)
theorem aDw (a b:Sta) (h:a=b) (hz:SzS 140737488355328 a):Den Tryz.prog 19 [.agg (aL a),.agg (aL b)] (·=.s (.bool true)):=by
  subst h; exact fZ (aFy a a hz hz) (by simp)
theorem newW (s:Sta) (hz:SzS 140737488353280 s):Den Tryz.prog 16 [.agg (aL s)] (·=.agg (aL s)):=aRt s (hz.mono (by omega))
theorem oldW (s:Sta) (hz:SzS 140737488353280 s):Den Tryz.prog 20 [.agg (aL s)] (·=.agg (aL s)):=aRp s (hz.mono (by omega))
theorem aTi (s:Sta) (hz:SzS 140737488353280 s):Den Tryz.prog 19 [.agg (aL s),.agg (aL s)] (·=.s (.bool true)):=aDw s s rfl (hz.mono (by omega))
end Go.Proofs.YtijnkglkchhomaaGreat
set_option linter.unusedVariables false
set_option linter.unusedSimpArgs false
namespace Go.Proofs.YtijnkglkchhomaaGreat
open Go Go.Abs
theorem aKk  :Den Tryz.prog 18 [.sl 6 (([]:List Ev).map evC)]  (·=.tup [.s (.int .i64 0),.s (.bool false)]):=by
 refine aY Tryz.func18 rfl (Nat.le_of_ble_eq_true rfl) (fun w0 A hf=>(aC (fun K1 hK1=>(aB (aE aA 2 rfl (aD (hK1 _ (aC (fun K2 hK2=>(aC (fun K3 hK3=>(aB (aE aA 3 rfl (aD (hK3 _ (bW rfl ?_))))))))))))))))
 refine aC (fun K4 hK4=>(aB (aE aA 2 rfl (aD (hK4 _ (aN ?_))))))
 refine⟨_,rfl,?_⟩
 rfl
theorem aKi (x:Ev) (r:List Ev) (hl:r.length≤1000) :Den Tryz.prog 18 [.sl 6 ((x::r).map evC)]  (·=.tup [.s (.int .i64 (sO r x).at'),.s (.bool true)]):=by
 have hlx:((x::r).map evC).length=r.length+1:=by simp
 refine aY Tryz.func18 rfl (Nat.le_of_ble_eq_true rfl) (fun w0 A hf=>(aC (fun K1 hK1=>(aB (aE aA 2 rfl (aD (hK1 _ (aC (fun K2 hK2=>(aC (fun K3 hK3=>(aB (aE aA 3 rfl (aD (hK3 _ (aO rfl (fun hc1=>?_) (fun hc1=>?_)))))))))))))))))
 ·
  simp only[bs] at hc1
  omega
 ·
  simp only[bs] at hc1
  refine aP (hK2 _ (aC (fun K4 hK4=>(aB (aE aA 1 rfl (aM hf rfl (aQ rfl rfl aPu rfl (aR2 x r hl)) (aE aA 3 rfl (aD (hK4 _ (aN ?_))))))))))
  refine⟨_,rfl,?_⟩
  rfl
theorem xF (l:List Ev) (hl:l.length≤1000):Den Tryz.prog 18 [.sl 6 (l.map evC)] (·=.tup [.s (.int .i64 (aG8 l)),.s (.bool (!l.isEmpty))]):=by
  match l,hl with
  | [],_=>exact aKk
  | x::r,hl=>exact aKi x r (by simp only[List.length_cons] at hl; omega)
theorem fM  :Den Tryz.prog 13 []  (·=.s (.bool true)):=by
 refine aY Tryz.func13 rfl (Nat.le_of_ble_eq_true rfl) (fun w0 A hf=>(aC (fun K1 hK1=>(aB (aE aA 1 rfl (aD (hK1 _ (aC (fun K2 hK2=>(aB (aH rfl (cK rfl jO sX (l3 rfl) rfl) (aH rfl (cK rfl jO sX (l3 rfl) rfl) (aH rfl (cK rfl jO sX (l3 rfl) rfl) ?_)))))))))))))
 skip
 refine aM hf rfl (bD dE rfl rfl rfl rfl (l2 rfl)) (aE aA 1 rfl (aD (hK2 _ (aC (fun K3 hK3=>(aB (aH rfl (cK rfl bB nN (l3 rfl) rfl) (bM (jY gW) (aE aA 1 rfl (aM hf rfl (aQ rfl rfl eZ rfl ((show Den Tryz.prog _ _ (·=.tup [.agg (aL afS),.sl 1 (bE [0,100,0])]) from fZ (hZ aJ [aGp,aGo,aE8] (uC _) fP (by decide) (by decide)) (by rw[af_1,af_2])))) ?_))))))))))
 refine aE aA 3 rfl (cF hf rfl bB rfl cM rfl rfl rfl rfl (lf rfl) (aE aA 1 rfl (aD (hK3 _ (aC (fun K4 hK4=>(aB (aH rfl (cK rfl bB nN (l3 rfl) rfl) (bM (jY gW) (aE aA 1 rfl (aM hf rfl (aQ rfl rfl mY rfl ((show Den Tryz.prog _ _ (·=.sl 6 ([aGp,aE8].map evC)) from fZ (oG aJ [aGp,aGo,aE8] (uC _) fP (by decide) (by decide)) (by rw[af_3])))) ?_)))))))))))
 refine aE aA 1 rfl (aD (hK4 _ (aC (fun K5 hK5=>(aB (aE aA 1 rfl (aM hf rfl (aQ rfl rfl xW rfl ((show Den Tryz.prog _ _ (·=.tup [.s (.int .i64 5),.s (.bool true)]) from xF [aGp,aGo,aE8] (by decide)))) (aE aA 5 rfl (aD (hK5 _ (aC (fun K6 hK6=>(aB (aM hf rfl (aQ rfl rfl xW rfl (aUd (xF [] (by decide)))) ?_))))))))))))))
 refine aE aA 5 rfl (aD (hK6 _ (aC (fun K7 hK7=>(dM hf bN (by kernel_rfl) rfl (bG aA 5 rfl ?_))))))
 refine bX [(35,_)] rfl rfl ⟨⟨rfl,rfl⟩,trivial⟩ rfl (bA rfl rfl mO mP (by first | assumption | (refine⟨by omega,?_⟩; first | assumption | exact fK (by omega) | exact fK (by simp only[List.length_cons] at *; omega) | exact lV (by omega) | exact nV (by omega) | exact lS (by omega)) | exact⟨by decide,rfl⟩)) ?_
 refine bG aA 5 rfl ?_
 refine bX [(41,_)] rfl rfl ⟨⟨rfl,rfl⟩,trivial⟩ rfl (bA rfl rfl mO mP (by first | assumption | (refine⟨by omega,?_⟩; first | assumption | exact fK (by omega) | exact fK (by simp only[List.length_cons] at *; omega) | exact lV (by omega) | exact nV (by omega) | exact lS (by omega)) | exact⟨by decide,rfl⟩)) ?_
 refine bG aA 5 rfl ?_
 refine bX [(47,_)] rfl rfl ⟨⟨rfl,rfl⟩,trivial⟩ rfl (bA rfl rfl mO mP (by first | assumption | (refine⟨by omega,?_⟩; first | assumption | exact fK (by omega) | exact fK (by simp only[List.length_cons] at *; omega) | exact lV (by omega) | exact nV (by omega) | exact lS (by omega)) | exact⟨by decide,rfl⟩)) ?_
 refine bG aA 5 rfl (cC [(53,_)] rfl rfl ⟨⟨rfl,rfl⟩,trivial⟩ rfl (aQ rfl rfl aP1 rfl ((show Den Tryz.prog _ _ (·=.sl 4 (List.map stC [((3,5),(1,1))])) from fZ (aJl afS aO3 9 (⟨by decide,by decide,by decide,by decide,by decide⟩) (by decide) (RightP.usr aSm)) (by rw[af_5])))) ?_)
 refine bG aA 10 rfl ?_
 refine bX [(64,_)] rfl rfl ⟨⟨rfl,rfl⟩,trivial⟩ rfl (bA rfl rfl gY dC (by first | assumption | (refine⟨by omega,?_⟩; first | assumption | exact fK (by omega) | exact fK (by simp only[List.length_cons] at *; omega) | exact lV (by omega) | exact nV (by omega) | exact lS (by omega)) | exact⟨by decide,rfl⟩)) ?_
 refine bG aA 2 rfl ?_
 refine bX [(67,_)] rfl rfl ⟨⟨rfl,rfl⟩,trivial⟩ rfl (bA rfl rfl gY dC (by first | assumption | (refine⟨by omega,?_⟩; first | assumption | exact fK (by omega) | exact fK (by simp only[List.length_cons] at *; omega) | exact lV (by omega) | exact nV (by omega) | exact lS (by omega)) | exact⟨by decide,rfl⟩)) ?_
 refine bG aA 1 rfl (bX [(66,_),(69,_)] rfl rfl ⟨⟨rfl,rfl⟩,⟨rfl,rfl⟩,trivial⟩ rfl (jJ rfl rfl iV (aUq aE8)) ?_)
 skip
 refine bG aA 3 rfl (cC [(73,_)] rfl rfl ⟨⟨rfl,rfl⟩,trivial⟩ rfl (aQ rfl rfl oQ rfl ((show Den Tryz.prog _ _ (·=.sl 6 ([aGo].map evC)) from fZ (kJ [aGp,aGo,aE8] aO3 (by decide)) (by rw[af_4])))) ?_)
 refine bG aA 15 rfl (dQ [0] rfl rfl rfl (hK7 _ (aN ?_)))
 refine⟨_,rfl,?_⟩
 rfl
end Go.Proofs.YtijnkglkchhomaaGreat
set_option linter.unusedVariables false
set_option linter.unusedSimpArgs false
namespace Go.Abs
open Go
def noH (u:ByteArray) (e:Se):Bool:=!pS u e
def noU (u:ByteArray) (e:En):Bool:=!nG u e
theorem aOe {u:ByteArray} {e:Se} (h:e.1.2≠u):noH u e=true:=by simp [noH,pS,h]
theorem aTx {u:ByteArray} {e:Se} (h:e.1.2=u):noH u e=false:=by simp [noH,pS,h]
theorem uX {u v:ByteArray} {n:Int} (hv:v≠u):∀ l:List Se,eW l n v=0→eW (l.filter (noH u)) n v=0
  | [],h=>h
  | x::l,h=>by
    rw[eW] at h
    by_cases hx:isN n x=true
    · rw[if_pos hx] at h
      have hu:x.1.2=v:=by
        by_cases e:x.1.2=v
        · exact e
        · rw[if_neg e] at h; omega
      rw[List.filter_cons_of_pos (aOe (by rw[hu]; exact hv)),eW,if_pos hx,if_pos hu]
    · rw[if_neg hx] at h
      have ih:=uX hv l h
      by_cases hp:noH u x=true
      · rw[List.filter_cons_of_pos hp,eW,if_neg hx]; exact ih
      · rw[List.filter_cons_of_neg hp]; exact ih
theorem xN {u v:ByteArray} {n:Int} (hv:v≠u) (st t:Int):∀ l:List Se,eW l n v=0→xJ (l.filter (noH u)) n=xJ l n∧tY (l.filter (noH u)) n st t=(tY l n st t).filter (noH u)∧tX (l.filter (noH u)) n=(tX l n).filter (noH u)
  | [],h=>⟨rfl,rfl,rfl⟩
  | x::l,h=>by
    rw[eW] at h
    by_cases hx:isN n x=true
    · rw[if_pos hx] at h
      have hu:x.1.2=v:=by
        by_cases e:x.1.2=v
        · exact e
        · rw[if_neg e] at h; omega
      have hp:noH u x=true:=aOe (by rw[hu]; exact hv)
      have hp2:noH u (x.1,(st,t))=true:=hp
      rw[List.filter_cons_of_pos hp,xJ,xJ,tY,tY,tX,tX,if_pos hx,if_pos hx,if_pos hx,if_pos hx,if_pos hx,if_pos hx,List.filter_cons_of_pos hp2]
      exact⟨rfl,rfl,rfl⟩
    · rw[if_neg hx] at h
      obtain ⟨i1,i2,i3⟩:=xN hv st t l h
      by_cases hp:noH u x=true
      · rw[List.filter_cons_of_pos hp,xJ,xJ,tY,tY,tX,tX,if_neg hx,if_neg hx,if_neg hx,if_neg hx,if_neg hx,if_neg hx,List.filter_cons_of_pos hp,List.filter_cons_of_pos hp,i1,i2,i3]
        exact⟨rfl,rfl,rfl⟩
      · rw[List.filter_cons_of_neg hp,xJ,tY,tX,if_neg hx,if_neg hx,if_neg hx,List.filter_cons_of_neg hp,List.filter_cons_of_neg hp]
        exact⟨i1,i2,i3⟩
theorem aIv {u:ByteArray} {n:Int} (st t:Int):∀ l:List Se,eW l n u=0→(tY l n st t).filter (noH u)=l.filter (noH u)∧(tX l n).filter (noH u)=l.filter (noH u)
  | [],h=>⟨rfl,rfl⟩
  | x::l,h=>by
    rw[eW] at h
    by_cases hx:isN n x=true
    · rw[if_pos hx] at h
      have hu:x.1.2=u:=by
        by_cases e:x.1.2=u
        · exact e
        · rw[if_neg e] at h; omega
      have hp:¬ noH u x=true:=by rw[aTx hu]; decide
      have hp2:¬ noH u (x.1,(st,t))=true:=hp
      rw[tY,tX,if_pos hx,if_pos hx,List.filter_cons_of_neg hp,List.filter_cons_of_neg hp2]
      exact⟨rfl,rfl⟩
    · rw[if_neg hx] at h
      obtain ⟨i1,i2⟩:=aIv st t l h
      rw[tY,tX,if_neg hx,if_neg hx,List.filter_cons,List.filter_cons,List.filter_cons,i1,i2]
      exact⟨rfl,rfl⟩
theorem aOj {α:Type} {q:α→Bool} {e:α}:∀ {l:List α},(∀ y∈l,q y=true)→tV q e l=e::l
  | [],_=>rfl
  | x::l,h=>by rw[tV,if_pos (h x (List.mem_cons_self ..))]
theorem aEb {u:ByteArray} {e:Se} (he:noH u e=true):∀ {l:List Se},l.Pairwise (fun a b=>a.1.1<b.1.1)→(wH l e).filter (noH u)=wH (l.filter (noH u)) e
  | [],_=>by show List.filter _ [e]=[e]; rw[List.filter_cons_of_pos he]; rfl
  | x::l,h=>by
    obtain ⟨h1,h2⟩:=List.pairwise_cons.1 h
    have ih:=aEb he h2
    unfold wH at ih ⊢
    by_cases hq:iB e.1.1 x=true
    · rw[tV,if_pos hq,List.filter_cons_of_pos he]
      refine(aOj fun y hy=>?_).symm
      have hq':e.1.1<x.1.1:=by simpa [iB] using hq
      rcases List.mem_cons.1 (List.mem_filter.1 hy).1 with rfl | hy
      · exact hq
      · have:=h1 y hy
        simp only[iB,decide_eq_true_eq]; omega
    · rw[tV,if_neg hq]
      by_cases hp:noH u x=true
      · rw[List.filter_cons_of_pos hp,List.filter_cons_of_pos hp,tV,if_neg hq,ih]
      · rw[List.filter_cons_of_neg hp,List.filter_cons_of_neg hp,ih]
theorem opn_his {u:ByteArray} {e:Se} (he:noH u e=false) (l:List Se):(wH l e).filter (noH u)=l.filter (noH u):=by
  obtain ⟨pre,post,e1,e2⟩:=aEl (iB e.1.1) e l
  rw[wH,e2,e1,List.filter_append,List.filter_append,List.filter_cons_of_neg (by rw[he]; decide)]
theorem aKd {u:ByteArray} {e:Se} {l:List Se} (h:nT l e=0):nT (l.filter (noH u)) e=0:=by
  unfold nT at h ⊢
  have hn:aAj l e.1.1=false:=by
    cases hh:aAj l e.1.1 with
    | false=>rfl
    | true=>rw[if_pos hh] at h; omega
  have hn2:aAj (l.filter (noH u)) e.1.1=false:=by
    rw[aAj,List.any_eq_false] at hn ⊢
    exact fun x hx=>hn x (List.mem_filter.1 hx).1
  have:=List.length_filter_le (noH u) l
  rw[hn,if_neg (by decide)] at h
  rw[hn2,if_neg (by decide)]
  split at h
  · omega
  · rw[if_neg (by omega)]
theorem aQp {u:ByteArray} {e:En} (he:noU u e=true):∀ {l:List En},l.Pairwise RisR→(rH l e).filter (noU u)=rH (l.filter (noU u)) e
  | [],_=>by show List.filter _ [e]=[e]; rw[List.filter_cons_of_pos he]; rfl
  | x::l,hp=>by
    obtain ⟨h1,h2⟩:=List.pairwise_cons.1 hp
    have ih:=aQp he h2
    by_cases ho:0<mF x e
    · rw[rH,if_pos ho,List.filter_cons_of_pos he]
      refine(aOk fun y hy=>?_).symm
      rcases List.mem_cons.1 (List.mem_filter.1 hy).1 with rfl | hy
      · exact ho
      · have a:=(h1 y hy).1
        have b:=ordE_tri.swap x e
        have c:=ordE_tri.lt_tr (show mF e x<0 by omega) a
        have d:=ordE_tri.swap y e
        omega
    · rw[rH,if_neg ho]
      by_cases hx:noU u x=true
      · rw[List.filter_cons_of_pos hx,List.filter_cons_of_pos hx,rH,if_neg ho,ih]
      · rw[List.filter_cons_of_neg hx,List.filter_cons_of_neg hx,ih]
theorem aKt {u:ByteArray} {e:En} (he:noU u e=false):∀ l:List En,(rH l e).filter (noU u)=l.filter (noU u)
  | []=>by show List.filter _ [e]=[]; rw[List.filter_cons_of_neg (by rw[he]; decide)]; rfl
  | x::l=>by
    rw[rH]; split
    · rw[List.filter_cons_of_neg (by rw[he]; decide)]
    · rw[List.filter_cons,List.filter_cons,aKt he l]
theorem aG1 {u:ByteArray} {x:En} {t:Int}:(qG x t).filter (noU u)=if noU u x=true then qG x t else []:=by
  unfold qG
  split
  · split <;> rfl
  · by_cases h:noU u x=true
    · have h2:noU u (x.1,(x.2.1,t))=true:=h
      rw[if_pos h,List.filter_cons_of_pos h2]; rfl
    · have h2:¬ noU u (x.1,(x.2.1,t))=true:=h
      rw[if_neg h,List.filter_cons_of_neg h2]; rfl
theorem aQh {u:ByteArray} {p:Pr} {t:Int} (hp:kY p.1 p.2 u=false):∀ l:List En,(jG l p t).filter (noU u)=jG (l.filter (noU u)) p t
  | []=>rfl
  | x::l=>by
    rw[jG]
    by_cases hf:eS p x=true
    · have hx:noU u x=true:=by
        have:=(aAl.1 hf).1
        simp only[noU,nG,this,hp]; rfl
      rw[if_pos hf,List.filter_append,aG1,if_pos hx,List.filter_cons_of_pos hx,jG,if_pos hf]
    · rw[if_neg hf]
      have ih:=aQh hp l (t:=t)
      by_cases hx:noU u x=true
      · rw[List.filter_cons_of_pos hx,List.filter_cons_of_pos hx,jG,if_neg hf,ih]
      · rw[List.filter_cons_of_neg hx,List.filter_cons_of_neg hx,ih]
theorem aJx {u:ByteArray} {p:Pr} {t:Int} (hp:kY p.1 p.2 u=true):∀ l:List En,(jG l p t).filter (noU u)=l.filter (noU u)
  | []=>rfl
  | x::l=>by
    rw[jG]
    by_cases hf:eS p x=true
    · have hx:¬ noU u x=true:=by
        have:=(aAl.1 hf).1
        simp only[noU,nG,this,hp]; decide
      rw[if_pos hf,List.filter_append,aG1,if_neg hx,List.filter_cons_of_neg hx]; rfl
    · rw[if_neg hf,List.filter_cons,List.filter_cons,aJx hp l]
theorem aTr {u:ByteArray} {p:Pr} (hp:kY p.1 p.2 u=false) (l:List En):onB (l.filter (noU u)) p=onB l p:=by
  rw[Bool.eq_iff_iff,aIa,aIa]
  constructor
  · rintro ⟨e,he,h⟩; exact⟨e,(List.mem_filter.1 he).1,h⟩
  · rintro ⟨e,he,h1,h2⟩; exact⟨e,List.mem_filter.2 ⟨he,by simp only[noU,nG,h1,hp]; rfl⟩,h1,h2⟩
theorem aUs {u v:ByteArray} {x:cB} {l:List Us} (hg:GoU l) (hv:v≠u):kE (mN l v x) u []=mN (kE l u []) v x :=
  aCk hg.add.set0.r hg.set0.add.r hg.add.set0.n hg.set0.add.n fun w=>by
    rw[lP hg.add.r,aCv hg.r,aCv hg.set0.r,lP hg.r,lP hg.r,if_neg hv]
    by_cases h1:w=u
    · rw[if_pos h1,if_neg (fun e=>hv (by rw[← e,h1])),if_pos h1]
    · rw[if_neg h1,if_neg h1]
theorem aQw {u:ByteArray} {x:cB} {l:List Us} (hg:GoU l):kE (mN l u x) u []=kE l u [] :=
  aCk hg.add.set0.r hg.set0.r hg.add.set0.n hg.set0.n fun w=>by
    rw[lP hg.add.r,aCv hg.r,lP hg.r]
    by_cases h1:w=u
    · rw[if_pos h1,if_pos h1]
    · rw[if_neg h1,if_neg h1,if_neg h1]
theorem set_two {u v:ByteArray} {l:List Us} (hg:GoU l):kE (kE l v []) u []=kE (kE l u []) v [] :=
  aCk hg.set0.set0.r hg.set0.set0.r hg.set0.set0.n hg.set0.set0.n fun w=>by
    rw[lP hg.set0.r,lP hg.r,lP hg.set0.r,lP hg.r]
    by_cases h1:w=u <;> by_cases h2:w=v <;> simp [h1,h2]
theorem aJo {u:ByteArray} {l:List Us} (hg:GoU l):kE (kE l u []) u []=kE l u [] :=
  aCk hg.set0.set0.r hg.set0.r hg.set0.set0.n hg.set0.n fun w=>by
    rw[lP hg.set0.r,lP hg.r]
    by_cases h1:w=u <;> simp [h1]
def noT (u:ByteArray) (x:Tm):Bool:=!isK dR u x
theorem tomb_no {u v:ByteArray} {t:Int} {l:List Tm} (h:cX dR l) (hv:v≠u):(mC l v t).filter (noT u)=mC (l.filter (noT u)) v t :=
  kU (key:=dR) (gU (sD h) _) (sD (gU h _)) fun x=>by
    simp only[mC,List.mem_filter,jW,List.mem_singleton]
    constructor
    · rintro ⟨⟨h1,h2⟩ | h1,h3⟩
      · exact .inl ⟨⟨h1,h3⟩,h2⟩
      · exact .inr h1
    · rintro (⟨⟨h1,h3⟩,h2⟩ | h1)
      · exact⟨.inl ⟨h1,h2⟩,h3⟩
      · refine⟨.inr h1,?_⟩
        subst h1; simp [noT,isK,hv]
theorem aS6 {u:ByteArray} {t:Int} {l:List Tm} (h:cX dR l):(mC l u t).filter (noT u)=l.filter (noT u) :=
  kU (key:=dR) (gU (sD h) _) (gU h _) fun x=>by
    simp only[mC,List.mem_filter,jW,List.mem_singleton,noT,isK,Bool.not_eq_true',decide_eq_false_iff_not]
    constructor
    · rintro ⟨⟨h1,h2⟩ | h1,h3⟩
      · exact⟨h1,h3⟩
      · subst h1; exact absurd rfl h3
    · rintro ⟨h1,h3⟩; exact⟨.inl ⟨h1,h3⟩,h3⟩
theorem aQ4 {u:ByteArray} {t:Int} {l:List Tm} (h:cX dR l):mC (l.filter (noT u)) u t=mC l u t :=
  kU (key:=dR) (sD (gU h _)) (sD h) fun x=>by
    simp only[mC,List.mem_filter,jW,List.mem_singleton,noT,isK,Bool.not_eq_true',decide_eq_false_iff_not]
    constructor
    · rintro (⟨⟨h1,_⟩,h2⟩ | h1)
      · exact .inl ⟨h1,h2⟩
      · exact .inr h1
    · rintro (⟨h1,h2⟩ | h1)
      · exact .inl ⟨⟨h1,h2⟩,h2⟩
      · exact .inr h1
def kX (u:ByteArray) (s:Sta) (t:Int):Sta:=⟨t,s.hor,s.opn.filter (noH u),kE s.usr u [],s.sub.filter (noU u),s.tmb.filter (noT u)⟩
theorem pair_no {u:ByteArray} {e:Ev} (hb:lH u e=false):kY e.user e.other u=false:=hb
theorem does_no {s:Sta} {e:Ev} {u:ByteArray} {t:Int} (h:RightP s) (he:bU e=true) (hb:lH u e=false) (h0:(bO s e).2=0) :
    (bO (kX u s t) e).2=0∧∀ t',({ (bO (kX u s t) e).1 with now:=t' }:Sta)=kX u (bO s e).1 t':=by
  have hg:=zX h
  have hp:=pair_no hb
  have hb':=hb
  simp only[lH,Bool.or_eq_false_iff,decide_eq_false_iff_not] at hb'
  have hps:=((kG _).1 h.opn).1.2
  have hss:=((qE _).1 h.sub).2
  rcases sS he with ⟨hk,_⟩ | ⟨hk,_⟩ | ⟨hk,_⟩ | ⟨hk,_⟩ | ⟨hk,_⟩ | ⟨hk,_⟩ | ⟨hk,_⟩
  · rw[bO,if_pos hk] at h0 ⊢
    rw[bO,if_pos hk]
    have h0':nT s.opn ((e.n,e.user),(e.st,e.at'))=0:=h0
    have h1:=aKd (u:=u) h0'
    refine⟨h1,fun t'=>?_⟩
    simp only[kX,mG,h0',h1,if_true]
    rw[aEb (aOe hb'.1) hps]
  · rw[bO,if_neg (show ¬ e.kind=1 by omega),if_pos hk] at h0 ⊢
    rw[bO,if_neg (show ¬ e.kind=1 by omega),if_pos hk]
    have h0':eW s.opn e.n e.user=0:=h0
    have h1:=uX hb'.1 _ h0'
    obtain ⟨i1,i2,i3⟩:=xN hb'.1 e.st e.at' _ h0'
    refine⟨h1,fun t'=>?_⟩
    simp only[kX,mM,stR,h0',h1,if_true]
    rw[aUs hg hb'.1,i1,i2]
  · rw[bO,if_neg (show ¬ e.kind=1 by omega),if_neg (show ¬ e.kind=2 by omega),if_pos hk] at h0 ⊢
    rw[bO,if_neg (show ¬ e.kind=1 by omega),if_neg (show ¬ e.kind=2 by omega),if_pos hk]
    have h0':eW s.opn e.n e.user=0:=h0
    have h1:=uX hb'.1 _ h0'
    obtain ⟨i1,i2,i3⟩:=xN hb'.1 e.st e.at' _ h0'
    refine⟨h1,fun t'=>?_⟩
    simp only[kX,mL,stR,h0',h1,if_true]
    rw[aUs hg hb'.1,i1,i3]
  · rw[bO,if_neg (show ¬ e.kind=1 by omega),if_neg (show ¬ e.kind=2 by omega),if_neg (show ¬ e.kind=3 by omega),if_pos hk] at h0 ⊢
    rw[bO,if_neg (show ¬ e.kind=1 by omega),if_neg (show ¬ e.kind=2 by omega),if_neg (show ¬ e.kind=3 by omega),if_pos hk]
    have ho:onB (kX u s t).sub (e.user,e.other)=onB s.sub (e.user,e.other):=aTr hp _
    simp only[ho]
    refine⟨h0,fun t'=>?_⟩
    have hon:¬ onB s.sub (e.user,e.other)=true:=fun hh=>by simp only at h0; rw[if_pos hh] at h0; omega
    simp only[kX,if_neg hon,gT]
    rw[aQp (by simp only[noU,nG,hp]; rfl) hss]
  · rw[bO,if_neg (show ¬ e.kind=1 by omega),if_neg (show ¬ e.kind=2 by omega),if_neg (show ¬ e.kind=3 by omega),if_neg (show ¬ e.kind=4 by omega),if_pos hk] at h0 ⊢
    rw[bO,if_neg (show ¬ e.kind=1 by omega),if_neg (show ¬ e.kind=2 by omega),if_neg (show ¬ e.kind=3 by omega),if_neg (show ¬ e.kind=4 by omega),if_pos hk]
    have ho:onB (kX u s t).sub (e.user,e.other)=onB s.sub (e.user,e.other):=aTr hp _
    simp only[ho]
    refine⟨h0,fun t'=>?_⟩
    have hon:onB s.sub (e.user,e.other)=true:=by
      by_cases hh:onB s.sub (e.user,e.other)=true
      · exact hh
      · simp only at h0; rw[if_neg hh] at h0; omega
    simp only[kX,if_pos hon]
    rw[aQh hp]
  · rw[bO,if_neg (show ¬ e.kind=1 by omega),if_neg (show ¬ e.kind=2 by omega),if_neg (show ¬ e.kind=3 by omega),if_neg (show ¬ e.kind=4 by omega),if_neg (show ¬ e.kind=5 by omega),if_pos hk] at h0 ⊢
    rw[bO,if_neg (show ¬ e.kind=1 by omega),if_neg (show ¬ e.kind=2 by omega),if_neg (show ¬ e.kind=3 by omega),if_neg (show ¬ e.kind=4 by omega),if_neg (show ¬ e.kind=5 by omega),if_pos hk]
    exact⟨rfl,fun t'=>rfl⟩
  · rw[bO,if_neg (show ¬ e.kind=1 by omega),if_neg (show ¬ e.kind=2 by omega),if_neg (show ¬ e.kind=3 by omega),if_neg (show ¬ e.kind=4 by omega),if_neg (show ¬ e.kind=5 by omega),if_neg (show ¬ e.kind=6 by omega)] at h0 ⊢
    rw[bO,if_neg (show ¬ e.kind=1 by omega),if_neg (show ¬ e.kind=2 by omega),if_neg (show ¬ e.kind=3 by omega),if_neg (show ¬ e.kind=4 by omega),if_neg (show ¬ e.kind=5 by omega),if_neg (show ¬ e.kind=6 by omega)]
    refine⟨rfl,fun t'=>?_⟩
    simp only[kX,fX]
    rw[set_two hg,tomb_no h.tmb hb'.1,List.filter_filter,List.filter_filter,List.filter_filter,List.filter_filter]
    congr 1
    · exact List.filter_congr fun x _=>Bool.and_comm ..
    · exact List.filter_congr fun x _=>Bool.and_comm ..
theorem aUc {s:Sta} {e:Ev} {u:ByteArray} {t:Int} (h:RightP s) (he:bU e=true) (hu:u≠bs0) (hb:lH u e=true) (h0:(bO s e).2=0):kX u (bO s e).1 t=kX u s t:=by
  have hg:=zX h
  have hp:kY e.user e.other u=true:=hb
  have hb':=hb
  simp only[lH,Bool.or_eq_true,decide_eq_true_eq] at hb'
  rcases sS he with ⟨hk,hs,_⟩ | ⟨hk,hs,_⟩ | ⟨hk,hs,_⟩ | ⟨hk,_⟩ | ⟨hk,_⟩ | ⟨hk,r1,r2,_⟩ | ⟨hk,r1,r2,_⟩
  · have hu1:e.user=u:=hb'.resolve_right fun x=>hu (by rw[← x]; exact(uF.1 hs).2.2.2)
    rw[bO,if_pos hk] at h0 ⊢
    simp only[kX,mG]
    rw[if_pos h0,opn_his (aTx hu1)]
  · have hu1:e.user=u:=hb'.resolve_right fun x=>hu (by rw[← x]; exact(uF.1 hs).2.2.2)
    rw[bO,if_neg (show ¬ e.kind=1 by omega),if_pos hk] at h0 ⊢
    subst hu1
    obtain ⟨i1,i2⟩:=aIv e.st e.at' _ h0
    simp only[kX,mM]
    rw[if_pos h0,i1,aQw hg]
  · have hu1:e.user=u:=hb'.resolve_right fun x=>hu (by rw[← x]; exact(uF.1 hs).2.2.2)
    rw[bO,if_neg (show ¬ e.kind=1 by omega),if_neg (show ¬ e.kind=2 by omega),if_pos hk] at h0 ⊢
    subst hu1
    obtain ⟨i1,i2⟩:=aIv e.st e.at' _ h0
    simp only[kX,mL]
    rw[if_pos h0,i2,aQw hg]
  · rw[bO,if_neg (show ¬ e.kind=1 by omega),if_neg (show ¬ e.kind=2 by omega),if_neg (show ¬ e.kind=3 by omega),if_pos hk] at h0 ⊢
    have hon:¬ onB s.sub (e.user,e.other)=true:=fun hh=>by simp only at h0; rw[if_pos hh] at h0; omega
    simp only[kX,if_neg hon,gT]
    rw[aKt (by simp only[noU,nG,hp]; rfl)]
  · rw[bO,if_neg (show ¬ e.kind=1 by omega),if_neg (show ¬ e.kind=2 by omega),if_neg (show ¬ e.kind=3 by omega),if_neg (show ¬ e.kind=4 by omega),if_pos hk] at h0 ⊢
    have hon:onB s.sub (e.user,e.other)=true:=by
      by_cases hh:onB s.sub (e.user,e.other)=true
      · exact hh
      · simp only at h0; rw[if_neg hh] at h0; omega
    simp only[kX,if_pos hon]
    rw[aJx hp]
  · rcases hb' with x | x
    · exact absurd (x.symm.trans r1) hu
    · exact absurd (x.symm.trans r2) hu
  · have hu1:e.user=u:=hb'.resolve_right fun x=>hu (x.symm.trans r2)
    rw[bO,if_neg (show ¬ e.kind=1 by omega),if_neg (show ¬ e.kind=2 by omega),if_neg (show ¬ e.kind=3 by omega),if_neg (show ¬ e.kind=4 by omega),if_neg (show ¬ e.kind=5 by omega),if_neg (show ¬ e.kind=6 by omega)]
    subst hu1
    simp only[kX,fX]
    rw[aJo hg,aS6 h.tmb,List.filter_filter,List.filter_filter]
    congr 1
    · exact List.filter_congr fun x _=>Bool.and_self _
    · exact List.filter_congr fun x _=>Bool.and_self _
structure ErI (u:ByteArray) (s w:Sta):Prop where
  r:RightP s
  q:RightP w
  e:w=kX u s w.now
  n:w.now≤s.now
theorem er_step {u:ByteArray} {s w:Sta} {e:Ev} (hu:u≠bs0) (hI:ErI u s w) (h0:(bT s e).2=0) :
    (lH u e=true→ErI u (bT s e).1 w)∧(lH u e=false→(bT w e).2=0∧ErI u (bT s e).1 (bT w e).1):=by
  obtain ⟨he,hn,h2,e1⟩:=aUm h0
  refine⟨fun hb=>⟨rR hI.r h0,hI.q,?_,?_⟩,fun hb=>?_⟩
  · rw[e1]
    show w=kX u (bO s e).1 w.now
    rw[aUc hI.r he hu hb h2]; exact hI.e
  · rw[e1]; exact Int.le_trans hI.n hn
  · obtain ⟨d1,d2⟩:=does_no (t:=w.now) hI.r he hb h2
    rw[← hI.e] at d1 d2
    have hw:¬ e.at'<w.now:=by have:=hI.n; omega
    have ha:(bT w e)=({ (bO w e).1 with now:=e.at' },0):=by
      unfold bT; rw[if_pos he,if_neg hw,if_pos d1]
    have hw0:(bT w e).2=0:=by rw[ha]
    refine⟨hw0,rR hI.r h0,rR hI.q hw0,?_,?_⟩
    · rw[ha,e1]
      show ({ (bO w e).1 with now:=e.at' }:Sta)=kX u (bO s e).1 e.at'
      exact d2 e.at'
    · rw[ha,e1]; exact Int.le_refl _
theorem aIr {u:ByteArray} (hu:u≠bs0):∀ (l:List Ev) {s w:Sta},ErI u s w→(∀ x∈aT s l,x=0)→ErI u (aI s l) (aI w (aW u l))∧∀ x∈aT w (aW u l),x=0
  | [],_,_,hI,_=>⟨hI,by simp [aW,aT]⟩
  | e::l,s,w,hI,h=>by
    have h0:(bT s e).2=0:=h _ (List.mem_cons_self ..)
    have ht:∀ x∈aT (bT s e).1 l,x=0:=fun x hx=>h x (List.mem_cons_of_mem _ (by rw[rI h0]; exact hx))
    have ef:aI s (e::l)=aI (bT s e).1 l:=by show aI (gX s e) l=_; rw[rI h0]
    rw[ef]
    obtain ⟨q1,q2⟩:=er_step hu hI h0
    cases hb:lH u e with
    | true =>
      have ew:aW u (e::l)=aW u l:=List.filter_cons_of_neg (by simp [hb])
      rw[ew]
      exact aIr hu l (q1 hb) ht
    | false =>
      have ew:aW u (e::l)=e::aW u l:=List.filter_cons_of_pos (by simp [hb])
      obtain ⟨w0,hI2⟩:=q2 hb
      obtain ⟨r1,r2⟩:=aIr hu l hI2 ht
      have e2:aI w (e::aW u l)=aI (bT w e).1 (aW u l):=by show aI (gX w e) _=_; rw[rI w0]
      rw[ew,e2]
      refine⟨r1,fun x hx=>?_⟩
      rcases List.mem_cons.1 hx with rfl | hx
      · exact w0
      · rw[rI w0] at hx; exact r2 x hx
theorem aUa (u:ByteArray):ErI u aJ aJ:=⟨fP,fP,rfl,Int.le_refl _⟩
theorem erI_end {u:ByteArray} {s w:Sta} {t:Int} (hI:ErI u s w):({ fX s u t with now:=t }:Sta)={ fX w u t with now:=t }:=by
  have hg:=zX hI.r
  rw[hI.e]
  simp only[fX,kX]
  rw[aJo hg,aQ4 hI.r.tmb,List.filter_filter,List.filter_filter]
  congr 1
  · exact List.filter_congr fun x _=>(Bool.and_self _).symm
  · exact List.filter_congr fun x _=>(Bool.and_self _).symm
end Go.Abs
set_option linter.unusedVariables false
set_option linter.unusedSimpArgs false
namespace Go.Abs
open Go
end Go.Abs
set_option linter.unusedVariables false
set_option linter.unusedSimpArgs false
namespace Go.Abs
open Go
end Go.Abs
set_option linter.unusedVariables false
set_option linter.unusedSimpArgs false
namespace Go.Abs
open Go
end Go.Abs
set_option linter.unusedVariables false
set_option linter.unusedSimpArgs false
namespace Go.Proofs.YtijnkglkchhomaaGreat
open Go Go.Abs
theorem wW (a:List Int) (ha:a.length≤1000) :Den Tryz.prog 21 [.sl 1 (bE a),.sl 1 (bE a)]  (·=.s (.bool true)):=by
 refine aY Tryz.func21 rfl (Nat.le_of_ble_eq_true rfl) (fun w0 A hf=>(aC (fun K1 hK1=>(aB (aE aA 1 rfl (aD (hK1 _ (aC (fun K2 hK2=>(aC (fun K3 hK3=>(aB (aE aA 4 rfl (aH rfl (dD rfl rfl (yP rfl)) (aD (hK3 _ ?_))))))))))))))))
 refine bJ rfl (aP (hK2 _ (aC (fun K4 hK4=>(aC (fun K5 hK5=>(aB (aE aA 3 rfl (aD (hK5 _ (aR (bY (ι:=Nat) (fun k=>⟨26,[(0,.sl 1 (bE a)),(1,.sl 1 (bE a)),(12,.s (.int .i64 ((bE a).length:Nat))),(13,.s (.int .i64 (k:Nat)))],[]⟩) (fun k=>k≤(bE a).length) (fun k=>(bE a).length - k) 0 ?_ ?_ ?_))))))))))))
 · exact Nat.zero_le _
 · exact cJ ⟨rfl,rfl,rfl,rfl,trivial⟩ rfl
 ·
  rintro k hC
  refine aC (fun K6 hK6=>(aB (aE aA 1 rfl (aD (hK6 _ (aC (fun K7 hK7=>(aO rfl (fun hc2=>?_) (fun hc2=>?_)))))))))
  ·
   simp only[bs] at hc2
   have hk2:k<a.length:=by have:=dG a; omega
   refine aP (hK7 _ (aC (fun K8 hK8=>(aR (aC (fun K9 hK9=>(aB (aE aA 2 rfl (aD (hK9 _ (aC (fun K10 hK10=>(dM hf bN (by kernel_rfl) rfl (bG aA 2 rfl (bX [(16,_),(17,_)] rfl rfl ⟨⟨rfl,rfl⟩,⟨rfl,rfl⟩,trivial⟩ rfl (bA rfl rfl mO mP (sQ hk2)) ?_)))))))))))))))
   refine bG aA 3 rfl (bX [(20,_),(21,_)] rfl rfl ⟨⟨rfl,rfl⟩,⟨rfl,rfl⟩,trivial⟩ rfl (bA rfl rfl mO mP (sQ hk2)) (bG aA 1 rfl (bX [(19,_),(23,_)] rfl rfl ⟨⟨rfl,rfl⟩,⟨rfl,rfl⟩,trivial⟩ rfl (dD rfl rfl (yP rfl)) (dQ [0,1,12,13,24] rfl rfl rfl (hK10 _ (bJ rfl (aP (hK8 _ (aB ?_)))))))))
   refine aH rfl (bS rfl rfl (by omega) (by omega)) ?_
   refine aE aA 1 rfl (aD ?_)
   exact⟨k+1,by omega,by omega,cJ ⟨rfl,rfl,rfl,aU (by omega),trivial⟩ rfl⟩
  ·
   simp only[bs] at hc2
   refine bF (hK4 _ (aC (fun K11 hK11=>(aB (aE aA 1 rfl (aD (hK11 _ (aN ?_))))))))
   refine⟨_,rfl,?_⟩
   rfl
end Go.Proofs.YtijnkglkchhomaaGreat
set_option linter.unusedVariables false
set_option linter.unusedSimpArgs false
namespace Go.Proofs.YtijnkglkchhomaaGreat
open Go Go.Abs
end Go.Proofs.YtijnkglkchhomaaGreat
set_option linter.unusedVariables false
set_option linter.unusedSimpArgs false
namespace Go.Abs
open Go
def bI (u:ByteArray) (t:Int):Ev:=⟨7,t,u,bs0,0,0⟩
theorem aLo {s:Sta} {u:ByteArray} {t:Int} (hu:dA u=true) (h0:0≤t) (h1:t<1099511627776) (hn:s.now≤t):bT s (bI u t)=({ fX s u t with now:=t },0):=by
  have hr:bU (bI u t)=true:=by simp [bU,bI,hu,h0,h1]
  rw[bT,if_pos hr,if_neg (by show ¬ t<s.now; omega)]
  rfl
theorem aSc:dA bs0=false:=by decide +kernel
theorem er_all {u:ByteArray} {l m:List Ev} (hu:dA u=true):(∀ x∈aT aJ (aW u (aV aJ l)),x=0)∧(bT (aI aJ l) (bI u (aI aJ l).now)).2=0 ∧
    aI (aI aJ (aW u (aV aJ l))) (bI u (aI aJ l).now::m)=aI (aI aJ l) (bI u (aI aJ l).now::m) ∧
    aT (aI aJ (aW u (aV aJ l))) (bI u (aI aJ l).now::m)=aT (aI aJ l) (bI u (aI aJ l).now::m):=by
  obtain ⟨f1,f2,_⟩:=qU l aJ
  have hne:u≠bs0:=fun e=>by rw[e,aSc] at hu; exact absurd hu (by decide)
  obtain ⟨hI,hz⟩:=aIr hne (aV aJ l) (aUa u) f2
  rw[f1] at hI
  have hR:=hI.r
  have a1:=aLo (s:=aI aJ l) hu hR.n0 hR.n1 (Int.le_refl _)
  have a2:=aLo (s:=aI aJ (aW u (aV aJ l))) hu hR.n0 hR.n1 hI.n
  have a3:bT (aI aJ (aW u (aV aJ l))) (bI u (aI aJ l).now)=bT (aI aJ l) (bI u (aI aJ l).now):=by rw[a1,a2,erI_end hI]
  have s3:gX (aI aJ (aW u (aV aJ l))) (bI u (aI aJ l).now)=gX (aI aJ l) (bI u (aI aJ l).now):=by
    rw[rI (by rw[a3,a1]),rI (by rw[a1]),a3]
  refine⟨hz,by rw[a1],?_,?_⟩
  · show aI (gX _ _) m=aI (gX _ _) m
    rw[s3]
  · show (bT _ _).2::aT (gX _ _) m=(bT _ _).2::aT (gX _ _) m
    rw[s3,a3]
theorem vP:∀ {l:List Ev} {s:Sta} {e:Ev},e∈aV s l→e∈l
  | [],_,_,h=>by simp [aV] at h
  | x::l,s,e,h=>by
    unfold aV at h
    split at h
    · rcases List.mem_cons.1 h with rfl | h
      · exact List.mem_cons_self ..
      · exact List.mem_cons_of_mem _ (vP h)
    · exact List.mem_cons_of_mem _ (vP h)
theorem intgt_t {P:Program} {t:TypeId} {k:IntKind} {a b:Int} (h:b<a):qZ P .gtr t (.int k a) (.int k b)=some (.bool true):=by
  simp [qZ,xP,h]
end Go.Abs
set_option linter.unusedVariables false
set_option linter.unusedSimpArgs false
namespace Go.Abs
open Go Go.RowKit
variable {P:Program} {w0:World} {p0:Hp}
variable {ops:Array Oper} {rest:List Oper} {n:Nat} {sl:List (Nat×AV)} {m:Mem} {Q:Exit→St→Prop}
theorem zM {R:Exit→Act→World→Prop} {op:Op} {d j ty:Nat} {ps:String} {af:Array Edge} {b:Bool} {a:Act} {w:World} (hy:yielded ops a.tmps j=some b)
    (h:wpList P ops R (⟨some d,op,ty,ps,af,none⟩::rest) a w):wpList P ops R (⟨some d,op,ty,ps,af,some (j,b)⟩::rest) a w:=by
  unfold wpList at h ⊢
  have hw:Region.wanted (⟨some d,op,ty,ps,af,some (j,b)⟩:Oper) (yielded ops a.tmps)=true:=by simp [Region.wanted,hy]
  have hw':Region.wanted (⟨some d,op,ty,ps,af,none⟩:Oper) (yielded ops a.tmps)=true:=by simp [Region.wanted]
  rw[if_pos hw]
  rw[if_pos hw'] at h
  exact h
theorem tZ {a:Act} {v:Value} {d j g:Nat} (hg:(ops[j]?).bind (·.dst)=some g) (hne:d≠g):yielded ops (a.put (some d) v).tmps j=yielded ops a.tmps j:=by
  simp only[yielded,hg,Act.put,Option.bind_some]
  rw[Array.getElem?_setIfInBounds_ne hne]
theorem aO2 {a b:Nat} (h:Nat.beq a b=false):a≠b:=fun e=>by subst e; simp at h
theorem aTg {w:World} {p:Hp} {k c:Nat} {xs:List (List AV)} {ax:Option Addr} (h:RelV w p (.sl k xs) (.slice ax xs.length c)):xs.length≤c∧(xs.length≤maxLen→RelV w p (.sl k xs) (.slice ax xs.length xs.length)):=by
  generalize hv:Value.slice ax xs.length c=v at h
  cases h with
  | sln _ a cap hcap=>cases hv; exact⟨Nat.zero_le _,fun h=>.sln k _ _ (Nat.zero_le _)⟩
  | slc _ _ b off cap f hb hn hcap hk hc hr=>cases hv; exact⟨hn,fun h=>.slc k xs b off _ f hb (Nat.le_refl _) h hk hc hr⟩
theorem aS1 (hf:Fit w0 p0) {j gs d1 d2 d3 t e k by_ t1 t2 t3:Nat} {bb:Bool} {x y z x2:Operand} {xs ys:List (List AV)} {ps1 ps2 ps3:String} {af1 af2 af3:Array Edge}
    (hg:(ops[j]?).bind (·.dst)=some gs) (hb:lk sl gs=some (.s (.bool bb))) (hn1:Nat.beq d1 gs=false) (hn2:Nat.beq d2 gs=false) (h12:Nat.beq d2 d1=false)
    (hd1:lt d1 n=true) (hd2:lt d2 n=true) (hd3:lt d3 n=true) (ht:appT? P t=some (e,k,by_))
    (hx:ev sl x=some (.sl k xs)) (hh:bnd ⟨n,sl,m⟩ xs.length (some y)=some xs.length) (hm:bnd ⟨n,sl,m⟩ xs.length (some z)=some xs.length)
    (hx2:ev sl x2=some (.sl k ys)) (hne:aTp d1 x2=true) (hmax:xs.length+ys.length≤maxLen) (hby:(xs.length+ys.length)*by_≤140737488355328)
    (hk:fA P w0 p0 ops rest ⟨n,(d3,.sl k (xs++ys))::(d2,.bad)::(d1,.bad)::sl,m⟩ Q) :
    fA P w0 p0 ops (⟨some d1,.slice t x none (some y) (some z),t1,ps1,af1,some (j,bb)⟩::⟨some d2,.move x2,t2,ps2,af2,some (j,bb)⟩::⟨some d3,.call { callee:=.builtin .append,args:=#[.tmp d1,.tmp d2],argTypes:=#[t,t] },t3,ps3,af3,some (j,bb)⟩::rest) ⟨n,sl,m⟩ Q:=by
  intro a w ⟨h2,h3,p,hE,hs,hm'⟩
  obtain ⟨he,hck,hk0,i,zz,hi,hz,rfl,rfl,hzc⟩:=appT?_inv ht
  have hne1:=aO2 hn1
  have hne2:=aO2 hn2
  have hne12:=aO2 h12
  have hd1n:d1<a.tmps.size:=by rw[h3]; exact oE hd1
  have hd2n:d2<a.tmps.size:=by rw[h3]; exact oE hd2
  have hd3n:d3<a.tmps.size:=by rw[h3]; exact oE hd3
  obtain ⟨gv,hg1,hg2⟩:=hs gs _ (by rw[← lC]; exact hb)
  cases hg2
  have hy:yielded ops a.tmps j=some bb:=by simp [yielded,hg,hg1]
  obtain ⟨ax,c,olds,ex,hol,hok,hoa,hor⟩:=aE4 (σ:=⟨n,sl,m⟩) (x:=x) (k:=i.size) (ys:=xs) hs hm' (by rw[cY hx]; simp [eB])
  obtain ⟨ay,c2,news,ey,hnl,hnk,hna,hnr⟩:=aE4 (σ:=⟨n,sl,m⟩) (x:=x2) (k:=i.size) (ys:=ys) hs hm' (by rw[cY hx2]; simp [eB])
  have hrx:RelV w p (.sl i.size xs) (.slice ax xs.length c):=by have:=dZ (σ:=⟨n,sl,m⟩) hs x; rw[cY hx,ex] at this; exact this
  obtain ⟨hc,hcut⟩:=aTg hrx
  have hadd:ax.map (fun b=>b.add 0)=ax:=by cases ax <;> simp [Addr.add]
  have hrun1:(execOp a.eval ⟨some d1,.slice t x none (some y) (some z),t1,ps1,af1,none⟩).run P w=.ok (.value (.slice ax xs.length xs.length)) w:=by
    have hbd:=aJp (P:=P) (w:=w) (σ:=⟨n,sl,m⟩) (lo:=none) (len:=xs.length) (cap:=c) (l:=0) (h:=xs.length) (m:=xs.length) hs rfl hh (by simpa [bnd] using hm) (Nat.zero_le _) (Nat.le_refl _) hc
    simp only[Option.map_none] at hbd
    simp [execOp,ex,Instr.sliceAt,Instr.slice,run_underlying (elem?_inv he),hbd,dU hck,hadd]
  refine zM hy (wpList_plain rfl fun K1 hK1=>?_)
  unfold Oper.wp
  rw[hrun1]
  simp only[Oper.upon]
  refine hK1 _ _ ?_
  refine zM ((tZ hg hne1).trans hy) (wpList_plain rfl fun K2 hK2=>?_)
  generalize ha1:a.put (some d1) (.slice ax xs.length xs.length)=a1
  have ey1:a1.eval x2=.slice ay ys.length c2:=by rw[← ha1,aEs hne]; exact ey
  have hrun2:(execOp a1.eval ⟨some d2,.move x2,t2,ps2,af2,none⟩).run P w=.ok (.value (.slice ay ys.length c2)) w:=by simp [execOp,ey1]
  unfold Oper.wp
  rw[hrun2]
  simp only[Oper.upon]
  refine hK2 _ _ ?_
  refine zM ((tZ hg hne2).trans (by rw[← ha1]; exact(tZ hg hne1).trans hy)) (wpList_plain rfl fun K3 hK3=>?_)
  have sz1:a1.tmps.size=a.tmps.size:=by rw[← ha1]; simp [Act.put]
  have e1:a1.eval (.tmp d1)=.slice ax xs.length xs.length:=by rw[← ha1]; simp [Act.eval,Act.put,hd1n]
  generalize ha2:a1.put (some d2) (.slice ay ys.length c2)=a2
  have sz2:a2.tmps.size=a.tmps.size:=by rw[← ha2,← sz1]; simp [Act.put]
  have e2:a2.eval (.tmp d2)=.slice ay ys.length c2:=by rw[← ha2]; simp [Act.eval,Act.put,sz1,hd2n]
  have e21:a2.eval (.tmp d1)=.slice ax xs.length xs.length:=by
    rw[← ha2,aEs (by simp only[aTp]; rw[h12])]; exact e1
  have hs1:SlotsRel w p ((d1,.bad)::sl) a1.tmps:=by rw[← ha1]; exact hs.put hd1n (.bad _)
  have hs2:SlotsRel w p ((d2,.bad)::(d1,.bad)::sl) a2.tmps:=by rw[← ha2]; exact hs1.put (by rw[sz1]; exact hd2n) (.bad _)
  have hdf:a2.defers=[]:=by rw[← ha2,← ha1]; exact h2
  have hexec:(execOp a2.eval ⟨some d3,.call { callee:=.builtin .append,args:=#[.tmp d1,.tmp d2],argTypes:=#[t,t] },t3,ps3,af3,none⟩).run P w=((Builtin.append_ #[t,t] t3 #[.slice ax xs.length xs.length,.slice ay ys.length c2]).run P w).andThen fun v w'=>.ok (.value v) w':=by
    simp only[execOp,resolve,invoke,builtin,Sem.run_bind,Sem.run_pure,Result.andThen_ok,List.map_toArray,List.map_cons,List.map_nil,e2,e21]
  have h63:xs.length+ys.length≤9223372036854775807:=by unfold maxLen at hmax; omega
  have hxm:xs.length≤maxLen:=Nat.le_trans (Nat.le_add_right _ _) hmax
  unfold Oper.wp
  rw[hexec]
  by_cases hy0:ys.length=0
  · have hys:ys=[]:=List.eq_nil_of_length_eq_zero hy0
    subst hys
    rw[show (Value.slice ay ([]:List (List AV)).length c2)=.slice ay 0 c2 from rfl,mR he hck ax ay xs.length xs.length c2 (Nat.le_refl _) w]
    simp only[Result.andThen_ok,Oper.upon]
    refine hK3 _ _ (hk _ w ⟨hdf,by simpa [Act.put,sz2] using h3,p,hE,?_,hm'⟩)
    rw[List.append_nil]
    exact hs2.put (by rw[sz2]; exact hd3n) (hcut hxm)
  · obtain ⟨ad2,rfl,hads2⟩:=hna (by intro h; simp [h] at hy0)
    have key:∃ cap,xs.length+ys.length≤cap∧cap≤maxLen∧(Builtin.append_ #[t,t] t3 #[.slice ax xs.length xs.length,.slice (some ad2) ys.length c2]).run P w =
        .ok (.slice (some ⟨w.heap.size,0,none⟩) (xs.length+ys.length) cap) (w.drew.alloc (.cells (olds.toArray++news.toArray++Builtin.zeroCells zz.cells (cap - (xs.length+ys.length))) e)):=by
      cases ax with
      | none =>
        have hx0:xs=[]:=by
          refine Classical.byContradiction fun hx0=>?_
          obtain ⟨ad,h,_⟩:=hoa hx0
          cases h
        subst hx0
        have ho0:olds=[]:=List.eq_nil_of_length_eq_zero (by rw[hol]; simp)
        subst ho0
        refine⟨grownCap w ys.length 0 e,by simpa using grownCap_ge w _ _ _,grownCap_le_maxLen w _ _ _ (by simpa using hmax),?_⟩
        have:=run_append_nil (P:=P) w t t3 e i zz (elem?_inv he) hi hz ad2 ys.length c2 news hnl hads2 (by omega) (by omega) (by simp at hby; omega)
        simpa using this
      | some ad =>
        have holds:∀ q v,olds[q]?=some v→w.cell? (ad.add q)=some v:=by
          by_cases hx0:xs=[]
          · subst hx0
            have ho0:olds=[]:=List.eq_nil_of_length_eq_zero (by rw[hol]; simp)
            subst ho0
            intro q v hq; simp at hq
          · obtain ⟨ad',h,hh⟩:=hoa hx0
            cases h; exact hh
        exact⟨grownCap w (xs.length+ys.length) xs.length e,grownCap_ge w _ _ _,grownCap_le_maxLen w _ _ _ hmax,
          run_append_grow (P:=P) w t t3 e i zz (elem?_inv he) hi hz ad xs.length xs.length olds hol holds ad2 ys.length c2 news hnl hads2 (by omega) (by omega) (growslice_fits (by omega) hby)⟩
    obtain ⟨cap,hcg,hcm,hrun3⟩:=key
    rw[hrun3]
    simp only[Result.andThen_ok,Oper.upon]
    generalize hw':w.drew.alloc (.cells (olds.toArray++news.toArray++Builtin.zeroCells zz.cells (cap - (xs.length+ys.length))) e)=w'
    have hnew:w'.heap[w.heap.size]?=some (.cells (olds.toArray++news.toArray++Builtin.zeroCells zz.cells (cap - (xs.length+ys.length))) e (0,0)):=by rw[← hw']; exact heap_alloc_new w.drew _
    have hsize:w'.heap.size=w.heap.size+1:=by rw[← hw']; simp
    have hgr:Grow w w':=⟨by rw[← hw']; rfl,by rw[← hw']; exact⟨rfl,Nat.le_succ _⟩,by rw[← hw']; rfl,by rw[hsize]; omega,fun b hb=>by rw[← hw']; exact Below.heap_alloc w.drew _ b hb⟩
    have hkp:=hgr.keeps hm'
    have hAb:∀ b,p.A b→b<w.heap.size:=fun b hb=>Nat.lt_of_lt_of_le (hf.others b (hE.A ▸ hb)) hE.size
    have hstab:Stable w' p w.heap.size:=⟨by rw[hsize]; omega,fun g hgb=>Nat.lt_irrefl _ (hm'.lt hgb),fun hA=>Nat.lt_irrefl _ (hAb _ hA)⟩
    refine hK3 _ _ (hk _ w' ⟨hdf,by simpa [Act.put,sz2] using h3,p,hE.step hkp hgr.os hgr.tape hgr.output hgr.size rfl (fun b hb _=>hgr.heap b hb) (fun g h1 h2=>absurd h1 h2),?_,⟨hm'.dom,fun g m hl=>(hm'.holds g m hl).keep hkp fun b hb=>hgr.heap b (hm'.lt hb),hm'.inj,hm'.avoid⟩⟩)
    refine(hs2.keep hkp).put (by rw[sz2]; exact hd3n) ?_
    have hall:∀ q∈xs++ys,q.length=i.size∧∀ c∈q,c.leaf=true:=fun q hq=>(List.mem_append.1 hq).elim (hok q) (hnk q)
    have hget:∀ (q:Nat) r (i':Nat) c,(xs++ys)[q]?=some r→r[i']?=some c→∃ u,(olds.toArray++news.toArray++Builtin.zeroCells zz.cells (cap - (xs.length+ys.length)))[q*i.size+i']?=some u∧RelV w p c u:=by
      intro q r i' c hq hi'
      by_cases hlt:q<xs.length
      · rw[List.getElem?_append_left hlt] at hq
        obtain ⟨u,hu,hr⟩:=hor q r i' c hq hi'
        have hl1:=(List.getElem?_eq_some_iff.1 hu).1
        exact⟨u,by rw[Array.append_assoc,Array.getElem?_append_left (by simpa using hl1)]; simpa using hu,hr⟩
      · rw[List.getElem?_append_right (by omega)] at hq
        obtain ⟨u,hu,hr⟩:=hnr _ r i' c hq hi'
        have hl1:=(List.getElem?_eq_some_iff.1 hu).1
        refine⟨u,?_,hr⟩
        have e1:q*i.size+i'=olds.length+((q - xs.length)*i.size+i'):=by
          rw[hol]
          have:q=xs.length+(q - xs.length):=by omega
          conv=>lhs; rw[this,Nat.add_mul]
          omega
        rw[e1,Array.append_assoc,Array.getElem?_append_right (by simp)]
        simp only[List.size_toArray,Nat.add_sub_cancel_left]
        rw[Array.getElem?_append_left (by simpa using hl1)]
        simpa using hu
    have:=RelV.slc (w:=w') (p:=p) i.size (xs++ys) w.heap.size 0 cap (fun q i'=>((olds.toArray++news.toArray++Builtin.zeroCells zz.cells (cap - (xs.length+ys.length)))[q*i.size+i']?).getD undef) hstab (by rw[List.length_append]; exact hcg) hcm hall
      (fun q r i' c hq hi'=>by
        obtain ⟨u,hu,_⟩:=hget q r i' c hq hi'
        rw[Nat.zero_add,gJ hnew,hu]; rfl)
      (fun q r i' c hq hi'=>by
        obtain ⟨u,hu,hr⟩:=hget q r i' c hq hi'
        rw[hu]; exact hr.keep hkp)
    rw[List.length_append] at this
    exact this
end Go.Abs
