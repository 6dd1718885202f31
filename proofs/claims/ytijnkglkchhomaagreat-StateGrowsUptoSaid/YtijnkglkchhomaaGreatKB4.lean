import Derived.WalkKit
import Derived.WalkSpells
import Derived.WalkLawsBesides
import Derived.Deep.LoopGhost
import Derived.ChangeKeysEq
import Derived.Still
import Derived.Lib.AppendZeros
import Derived.Laws.StructEq
import Derived.OpenShut
import Derived.Scope
import Derived.Shelf.SlSortCmp.Kit1
import Derived.Shelf.SlSortCmp.InsertionK
import Derived.Lib.SlicesCompact
import Derived.ProofKit
import Derived.ChangeSame
import Derived.Carry
import Derived.SliceStrings
import Derived.ChangeMaps5
import Derived.Deep.Slices
import Derived.Test.YtijnkglkchhomaaGreatRows
import Derived.Shelf.Abstract
import Derived.Deep.RegionLaw
import Derived.Lib.Walk
import Derived.Lib.Overlaps
import Derived.Lib.AppendZerosOnto
import Derived.Laws.CopyRow
import Derived.Shelf.SlSortCmp.WholeK
import Derived.Shelf.SlSortCmp.Whole1
import Derived.Shelf.SlSortCmp.NoneTotal
import Derived.Test.YtijnkglkchhomaaGreatKB1
import Derived.Test.YtijnkglkchhomaaGreatKB2
import Derived.Test.YtijnkglkchhomaaGreatKB3
set_option maxRecDepth 20000
set_option maxHeartbeats 16000000
set_option linter.unusedVariables false
set_option linter.unusedSimpArgs false
namespace Go.Proofs.YtijnkglkchhomaaGreat
open Go Go.Abs
theorem kF (s:Sta) (hz:SzS 140737488355328 s) :DenX Tryz.prog 50 [.agg (aL s)] [] (fun r m=>r=.agg (eA s E0 E1)∧m=[(E0,.buf 2 (s.usr.map usC)),(E1,.buf 2 (s.tmb.map tmC))]):=by
 have z1:=hz.o
 have z2:=hz.u
 have z3:=hz.b
 have z4:=hz.t
 refine iH [] Tryz.func50 rfl (Nat.le_of_ble_eq_true rfl) (args':=[.agg (aL s)]) (m':=[]) rfl rfl (by decide) (by decide) rfl (fun w0 o0 A hf=>?_)
 refine aC (fun K1 hK1=>(aB (rQ hf rfl rfl rfl rfl (l1 rfl) ?_)))
 refine aZ hf rfl rfl rfl aX (aD (hK1 _ (aC (fun K2 hK2=>(dK bK ?_)))))
 refine bY (listed':=#[true,false,false,false,false,false,false,false,false,false,false,false,false,false,false,false,false,false,false,false]) 0 rfl (by kernel_rfl) (by kernel_rfl) (by kernel_rfl) rfl (fun _ _ h=>h) (vP rfl rK jI rfl) ?_
 refine bY (listed':=#[true,false,false,true,false,false,false,false,false,false,false,false,false,false,false,false,false,false,false,false]) 3 rfl (by kernel_rfl) (by kernel_rfl) (by kernel_rfl) rfl (fun _ _ h=>h) (vP rfl aBi mZ rfl) ?_
 refine bY (listed':=#[true,false,false,true,false,false,true,false,false,false,false,false,false,false,false,false,false,false,false,false]) 6 rfl (by kernel_rfl) (by kernel_rfl) (by kernel_rfl) rfl (fun _ _ h=>h) (vP rfl rJ kM rfl) ?_
 refine bY (listed':=#[true,false,false,true,false,false,true,false,false,true,false,false,false,false,false,false,false,false,false,false]) 9 rfl (by kernel_rfl) (by kernel_rfl) (by kernel_rfl) rfl (fun _ _ h=>h) (vP rfl vD qP rfl) ?_
 refine aK 7 #[true,true,true,true,true,true,true,true,true,true,true,true,true,false,false,false,false,false,false,false] ⟨40,[(1,.ref 1 0 0 0),(2,.ref 2 0 0 0),(6,.sl 4 (s.opn.map seC)),(9,.own 9 2 0 (s.usr.map usC).length),(12,.sl 4 (s.sub.map enC)),(15,.own 15 2 0 (s.tmb.map tmC).length),(16,.ref 1 0 0 2)],[(15,.buf 2 (s.tmb.map tmC)),(9,.buf 2 (s.usr.map usC)),(2,.box [.s (.int .i64 0),.s (.int .i64 0),.s (.slice none 0 0),.s (.slice none 0 0),.s (.slice none 0 0),.s (.slice none 0 0)]),(1,.box (aL s))]⟩ ?_ (fun hD0=>?_)
 ·
  refine aH 13 [] (by kernel_rfl) ⟨?_,trivial⟩
  ·
   refine⟨_,rfl,rfl,(ao rfl (bD hf rfl rfl jI rfl rfl (l1 rfl) (l4 rfl) rfl (aF (aH 14 [] (by kernel_rfl) ⟨?_,trivial⟩))))⟩
   ·
    refine⟨_,rfl,rfl,(ao rfl (aE aA 1 rfl (aF (aH 15 [] (by kernel_rfl) ⟨?_,trivial⟩))))⟩
    ·
     refine⟨_,rfl,rfl,(ao rfl (bD hf rfl rfl mZ rfl rfl (l1 rfl) (l4 rfl) rfl (aF (aH 16 [] (by kernel_rfl) ⟨?_,trivial⟩))))⟩
     ·
      refine⟨_,rfl,rfl,(ao rfl (aE aA 1 rfl (aF (aH 17 [] (by kernel_rfl) ⟨?_,trivial⟩))))⟩
      ·
       refine⟨_,rfl,rfl,(ao rfl (bD hf rfl rfl kM rfl rfl (l1 rfl) (l4 rfl) rfl (aF (aH 18 [] (by kernel_rfl) ⟨?_,trivial⟩))))⟩
       ·
        refine⟨_,rfl,rfl,(ao rfl (aE aA 1 rfl (aF (aH 19 [] (by kernel_rfl) ⟨?_,trivial⟩))))⟩
        ·
         refine⟨_,rfl,rfl,(ao rfl (bD hf rfl rfl qP rfl rfl (l1 rfl) (l4 rfl) rfl (aF (dF (by kernel_rfl) ?_))))⟩
         refine hK2 _ (aC (fun K3 hK3=>(aC (fun K4 hK4=>(aB (aE aA 4 rfl (aD (hK4 _ (aU (bW (ι:=Nat) (fun k=>⟨40,[(1,.ref 1 0 0 0),(2,.ref 2 0 0 0),(22,.s (.int .i64 ((s.usr.map usC).length:Nat))),(23,.s (.int .i64 (k:Nat)))],[(15,.buf 2 (s.tmb.map tmC)),(9,.buf 2 (s.usr.map usC)),(2,.box [.s (.int .i64 0),.s (.int .i64 0),.s (.slice none 0 0),.s (.slice none 0 0),.s (.slice none 0 0),.s (.slice none 0 0)]),(1,.box (eA s 9 15))]⟩) (fun k=>k≤s.usr.length) (fun k=>s.usr.length - k) 0 ?_ ?_ ?_))))))))))
         · exact Nat.zero_le _
         · exact cU rfl
         ·
          rintro k hC
          refine aC (fun K5 hK5=>(aB (aE aA 1 rfl (aD (hK5 _ (aC (fun K6 hK6=>(aO rfl (fun hc1=>?_) (fun hc1=>?_)))))))))
          ·
           simp only[bs] at hc1
           refine aR (hK6 _ (aC (fun K7 hK7=>(aU (aC (fun K8 hK8=>(aB ?_)))))))
           have hk:k<s.usr.length:=by omega
           have hlm:(s.usr.map usC).length=s.usr.length:=List.length_map _
           refine aE aA 2 rfl (aD (hK8 _ (kV hf (L:=#[true,true,true,true,true,true,true,true,true,true,true,true,false]) 12 1 bK (by kernel_rfl) rfl (by kernel_rfl) rfl ?_)))
           refine bC aA 6 rfl ?_
           refine bN [(30,_),(31,_)] rfl rfl ⟨⟨rfl,rfl⟩,⟨rfl,rfl⟩,trivial⟩ rfl (cF rfl rfl eC cV (by omega)) ?_
           refine bC aA 1 rfl (bN [(33,_)] rfl rfl ⟨⟨rfl,rfl⟩,trivial⟩ rfl (aD1 rfl aLr rfl ((aJ9 (by omega) hk 1).trans rfl)) (bT [(34,_)] rfl rfl ⟨⟨rfl,rfl⟩,trivial⟩ rfl (aP rfl rfl tM rfl (cZ (sV s.usr[k].2 (hz.y _ (List.getElem_mem hk))))) ?_))
           refine bN [(27,_),(28,_)] rfl rfl ⟨⟨rfl,rfl⟩,⟨rfl,rfl⟩,trivial⟩ rfl (cF rfl rfl eC cV (by omega)) ?_
           refine bC aA 1 rfl (aAc [1,2,22,23,35,37] rfl rfl rfl ?_)
           refine aH 12 [] (by kernel_rfl) ⟨?_,trivial⟩
           ·
            refine⟨_,rfl,rfl,(ao rfl (bD hf rfl rfl qO rfl rfl (by simp [AV.cells,AV.one,Value.oneCell']) (by simp [AV.cells,AV.leaf,Value.oneCell']) (hU (c:=2) (k:=k) (f:=1) (enc:=usC) (v:=s.usr[k]) (by omega) (by omega) rfl (Nat.le_of_ble_eq_true rfl)) ?_))⟩
            refine aF (dF (by kernel_rfl) ?_)
            refine hK7 _ (aB ?_)
            refine aI rfl (bQ rfl rfl (by omega) (by omega)) ?_
            refine aE aA 1 rfl (aD ?_)
            exact⟨k+1,by omega,by omega,cN ⟨rfl,rfl,rfl,rfl,trivial⟩ (by rw[List.set_getElem_self]; rfl)⟩
          ·
           simp only[bs] at hc1
           refine bI (hK3 _ (aC (fun K9 hK9=>(aB (aI rfl (cD (cs':=eA s 9 15) rfl jH bS rfl rfl rfl) (bD hf rfl rfl bS rfl rfl (l1 rfl) (l4 rfl) rfl (aD (hK9 _ (aM ?_)))))))))
           exact⟨_,[(E0,9),(E1,15)],_,Le.refl _,by decide,rfl,rfl,⟨rfl,rfl⟩⟩
 refine aK 8 #[true,true,true,true,true,true,true,true,true,true,true,true,false,false,false,false,false,false,false,false] ⟨40,[(1,.ref 1 0 0 0),(2,.ref 2 0 0 0),(6,.sl 4 (s.opn.map seC)),(9,.own 9 2 0 (s.usr.map usC).length),(12,.sl 4 (s.sub.map enC)),(15,.own 15 2 0 (s.tmb.map tmC).length)],[(15,.buf 2 (s.tmb.map tmC)),(9,.buf 2 (s.usr.map usC)),(2,.box [.s (.int .i64 0),.s (.int .i64 0),.s (.slice none 0 0),.s (.slice none 0 0),.s (.slice none 0 0),.s (.slice none 0 0)]),(1,.box (aL s))]⟩ ?_ (fun hD1=>?_)
 ·
  refine aH 12 [] (by kernel_rfl) ⟨?_,trivial⟩
  ·
   refine⟨_,rfl,rfl,(ao rfl (aE aA 1 rfl (aF (ag hD0 rfl rfl rfl))))⟩
 refine aK 8 #[true,true,true,true,true,true,true,true,true,true,true,false,true,false,false,false,false,false,false,false] ⟨40,[(1,.ref 1 0 0 0),(2,.ref 2 0 0 0),(6,.sl 4 (s.opn.map seC)),(9,.own 9 2 0 (s.usr.map usC).length),(12,.sl 4 (s.sub.map enC)),(14,.sl 2 (s.tmb.map tmC)),(16,.ref 1 0 0 2)],[(9,.buf 2 (s.usr.map usC)),(2,.box [.s (.int .i64 0),.s (.int .i64 0),.s (.slice none 0 0),.s (.slice none 0 0),.s (.slice none 0 0),.s (.slice none 0 0)]),(1,.box (aL s))]⟩ ?_ (fun hD2=>?_)
 ·
  refine aH 11 [] (by kernel_rfl) ⟨?_,trivial⟩
  ·
   refine⟨_,rfl,rfl,(ao rfl (gP hf rfl rfl rfl rfl rfl aE9 rfl (aC3 s.tmb (by omega)) ?_))⟩
   rintro _ rfl
   refine aF (ag hD0 rfl rfl rfl)
 refine aK 9 #[true,true,true,true,true,true,true,true,true,true,true,false,false,false,false,false,false,false,false,false] ⟨40,[(1,.ref 1 0 0 0),(2,.ref 2 0 0 0),(6,.sl 4 (s.opn.map seC)),(9,.own 9 2 0 (s.usr.map usC).length),(12,.sl 4 (s.sub.map enC)),(14,.sl 2 (s.tmb.map tmC))],[(9,.buf 2 (s.usr.map usC)),(2,.box [.s (.int .i64 0),.s (.int .i64 0),.s (.slice none 0 0),.s (.slice none 0 0),.s (.slice none 0 0),.s (.slice none 0 0)]),(1,.box (aL s))]⟩ ?_ (fun hD3=>?_)
 ·
  refine aH 11 [12] (by kernel_rfl) ⟨?_,?_,trivial⟩
  ·
   refine⟨_,rfl,rfl,(ao rfl (gP hf rfl rfl rfl rfl rfl aE9 rfl (aC3 s.tmb (by omega)) ?_))⟩
   rintro _ rfl
   refine aF (ag hD1 rfl rfl rfl)
  ·
   refine⟨_,rfl,rfl,(ao rfl (aE aA 1 rfl (aF (ag hD2 rfl rfl rfl))))⟩
 refine aK 9 #[true,true,true,true,true,true,true,true,false,true,true,false,true,false,false,false,false,false,false,false] ⟨40,[(1,.ref 1 0 0 0),(2,.ref 2 0 0 0),(6,.sl 4 (s.opn.map seC)),(9,.own 9 2 0 (s.usr.map usC).length),(11,.sl 4 (s.sub.map enC)),(14,.sl 2 (s.tmb.map tmC)),(16,.ref 1 0 0 2)],[(9,.buf 2 (s.usr.map usC)),(2,.box [.s (.int .i64 0),.s (.int .i64 0),.s (.slice none 0 0),.s (.slice none 0 0),.s (.slice none 0 0),.s (.slice none 0 0)]),(1,.box (aL s))]⟩ ?_ (fun hD4=>?_)
 ·
  refine aH 8 [] (by kernel_rfl) ⟨?_,trivial⟩
  ·
   refine⟨_,rfl,rfl,(ao rfl (aN hf rfl (aP rfl rfl nM rfl (cZ (nI s.sub (by omega)))) (aF (ag hD2 rfl rfl rfl))))⟩
 refine aK 10 #[true,true,true,true,true,true,true,true,true,true,false,false,false,false,false,false,false,false,false,false] ⟨40,[(1,.ref 1 0 0 0),(2,.ref 2 0 0 0),(6,.sl 4 (s.opn.map seC)),(9,.own 9 2 0 (s.usr.map usC).length),(12,.sl 4 (s.sub.map enC)),(13,.ref 1 0 0 5)],[(9,.buf 2 (s.usr.map usC)),(2,.box [.s (.int .i64 0),.s (.int .i64 0),.s (.slice none 0 0),.s (.slice none 0 0),.s (.slice none 0 0),.s (.slice none 0 0)]),(1,.box (aL s))]⟩ ?_ (fun hD5=>?_)
 ·
  refine aH 10 [] (by kernel_rfl) ⟨?_,trivial⟩
  ·
   refine⟨_,rfl,rfl,(ao rfl (aE aA 1 rfl (aF (ag hD3 rfl rfl rfl))))⟩
 refine aK 10 #[true,true,true,true,true,true,true,true,false,true,true,false,false,false,false,false,false,false,false,false] ⟨40,[(1,.ref 1 0 0 0),(2,.ref 2 0 0 0),(6,.sl 4 (s.opn.map seC)),(9,.own 9 2 0 (s.usr.map usC).length),(11,.sl 4 (s.sub.map enC)),(14,.sl 2 (s.tmb.map tmC))],[(9,.buf 2 (s.usr.map usC)),(2,.box [.s (.int .i64 0),.s (.int .i64 0),.s (.slice none 0 0),.s (.slice none 0 0),.s (.slice none 0 0),.s (.slice none 0 0)]),(1,.box (aL s))]⟩ ?_ (fun hD6=>?_)
 ·
  refine aH 8 [12] (by kernel_rfl) ⟨?_,?_,trivial⟩
  ·
   refine⟨_,rfl,rfl,(ao rfl (aN hf rfl (aP rfl rfl nM rfl (cZ (nI s.sub (by omega)))) (aF (ag hD3 rfl rfl rfl))))⟩
  ·
   refine⟨_,rfl,rfl,(ao rfl (aE aA 1 rfl (aF (ag hD4 rfl rfl rfl))))⟩
 refine aK 10 #[true,true,true,true,true,false,true,true,false,true,true,false,true,false,false,false,false,false,false,false] ⟨40,[(1,.ref 1 0 0 0),(2,.ref 2 0 0 0),(6,.sl 4 (s.opn.map seC)),(8,.sl 2 (s.usr.map usC)),(11,.sl 4 (s.sub.map enC)),(14,.sl 2 (s.tmb.map tmC)),(16,.ref 1 0 0 2)],[(2,.box [.s (.int .i64 0),.s (.int .i64 0),.s (.slice none 0 0),.s (.slice none 0 0),.s (.slice none 0 0),.s (.slice none 0 0)]),(1,.box (aL s))]⟩ ?_ (fun hD7=>?_)
 ·
  refine aH 5 [] (by kernel_rfl) ⟨?_,trivial⟩
  ·
   refine⟨_,rfl,rfl,(ao rfl (gP hf rfl rfl rfl rfl rfl qK rfl (pL s.usr (by omega)) ?_))⟩
   rintro _ rfl
   refine aF (ag hD4 rfl rfl rfl)
 refine aK 11 #[true,true,true,true,true,true,true,true,false,true,false,false,false,false,false,false,false,false,false,false] ⟨40,[(1,.ref 1 0 0 0),(2,.ref 2 0 0 0),(6,.sl 4 (s.opn.map seC)),(9,.own 9 2 0 (s.usr.map usC).length),(11,.sl 4 (s.sub.map enC)),(13,.ref 1 0 0 5)],[(9,.buf 2 (s.usr.map usC)),(2,.box [.s (.int .i64 0),.s (.int .i64 0),.s (.slice none 0 0),.s (.slice none 0 0),.s (.slice none 0 0),.s (.slice none 0 0)]),(1,.box (aL s))]⟩ ?_ (fun hD8=>?_)
 ·
  refine aH 8 [10] (by kernel_rfl) ⟨?_,?_,trivial⟩
  ·
   refine⟨_,rfl,rfl,(ao rfl (aN hf rfl (aP rfl rfl nM rfl (cZ (nI s.sub (by omega)))) (aF (ag hD5 rfl rfl rfl))))⟩
  ·
   refine⟨_,rfl,rfl,(ao rfl (aE aA 1 rfl (aF (ag hD6 rfl rfl rfl))))⟩
 refine aK 11 #[true,true,true,true,true,true,true,false,false,true,true,false,false,false,false,false,false,false,false,false] ⟨40,[(1,.ref 1 0 0 0),(2,.ref 2 0 0 0),(6,.sl 4 (s.opn.map seC)),(9,.own 9 2 0 (s.usr.map usC).length),(10,.ref 1 0 0 4),(14,.sl 2 (s.tmb.map tmC))],[(9,.buf 2 (s.usr.map usC)),(2,.box [.s (.int .i64 0),.s (.int .i64 0),.s (.slice none 0 0),.s (.slice none 0 0),.s (.slice none 0 0),.s (.slice none 0 0)]),(1,.box (aL s))]⟩ ?_ (fun hD9=>?_)
 ·
  refine aH 7 [] (by kernel_rfl) ⟨?_,trivial⟩
  ·
   refine⟨_,rfl,rfl,(ao rfl (aE aA 1 rfl (aF (ag hD6 rfl rfl rfl))))⟩
 refine aK 11 #[true,true,true,true,true,false,true,true,false,true,true,false,false,false,false,false,false,false,false,false] ⟨40,[(1,.ref 1 0 0 0),(2,.ref 2 0 0 0),(6,.sl 4 (s.opn.map seC)),(8,.sl 2 (s.usr.map usC)),(11,.sl 4 (s.sub.map enC)),(14,.sl 2 (s.tmb.map tmC))],[(2,.box [.s (.int .i64 0),.s (.int .i64 0),.s (.slice none 0 0),.s (.slice none 0 0),.s (.slice none 0 0),.s (.slice none 0 0)]),(1,.box (aL s))]⟩ ?_ (fun hD10=>?_)
 ·
  refine aH 5 [12] (by kernel_rfl) ⟨?_,?_,trivial⟩
  ·
   refine⟨_,rfl,rfl,(ao rfl (gP hf rfl rfl rfl rfl rfl qK rfl (pL s.usr (by omega)) ?_))⟩
   rintro _ rfl
   refine aF (ag hD6 rfl rfl rfl)
  ·
   refine⟨_,rfl,rfl,(ao rfl (aE aA 1 rfl (aF (ag hD7 rfl rfl rfl))))⟩
 refine aK 12 #[true,true,true,true,true,true,true,false,false,true,false,false,false,false,false,false,false,false,false,false] ⟨40,[(1,.ref 1 0 0 0),(2,.ref 2 0 0 0),(6,.sl 4 (s.opn.map seC)),(9,.own 9 2 0 (s.usr.map usC).length),(10,.ref 1 0 0 4),(13,.ref 1 0 0 5)],[(9,.buf 2 (s.usr.map usC)),(2,.box [.s (.int .i64 0),.s (.int .i64 0),.s (.slice none 0 0),.s (.slice none 0 0),.s (.slice none 0 0),.s (.slice none 0 0)]),(1,.box (aL s))]⟩ ?_ (fun hD11=>?_)
 ·
  refine aH 7 [10] (by kernel_rfl) ⟨?_,?_,trivial⟩
  ·
   refine⟨_,rfl,rfl,(ao rfl (aE aA 1 rfl (aF (ag hD8 rfl rfl rfl))))⟩
  ·
   refine⟨_,rfl,rfl,(ao rfl (aE aA 1 rfl (aF (ag hD9 rfl rfl rfl))))⟩
 refine aK 12 #[true,true,true,true,true,false,true,true,false,true,false,false,false,false,false,false,false,false,false,false] ⟨40,[(1,.ref 1 0 0 0),(2,.ref 2 0 0 0),(6,.sl 4 (s.opn.map seC)),(8,.sl 2 (s.usr.map usC)),(11,.sl 4 (s.sub.map enC)),(13,.ref 1 0 0 5)],[(2,.box [.s (.int .i64 0),.s (.int .i64 0),.s (.slice none 0 0),.s (.slice none 0 0),.s (.slice none 0 0),.s (.slice none 0 0)]),(1,.box (aL s))]⟩ ?_ (fun hD12=>?_)
 ·
  refine aH 5 [10] (by kernel_rfl) ⟨?_,?_,trivial⟩
  ·
   refine⟨_,rfl,rfl,(ao rfl (gP hf rfl rfl rfl rfl rfl qK rfl (pL s.usr (by omega)) ?_))⟩
   rintro _ rfl
   refine aF (ag hD8 rfl rfl rfl)
  ·
   refine⟨_,rfl,rfl,(ao rfl (aE aA 1 rfl (aF (ag hD10 rfl rfl rfl))))⟩
 refine aK 12 #[true,true,true,true,true,false,true,false,false,true,true,false,false,false,false,false,false,false,false,false] ⟨40,[(1,.ref 1 0 0 0),(2,.ref 2 0 0 0),(6,.sl 4 (s.opn.map seC)),(8,.sl 2 (s.usr.map usC)),(10,.ref 1 0 0 4),(14,.sl 2 (s.tmb.map tmC))],[(2,.box [.s (.int .i64 0),.s (.int .i64 0),.s (.slice none 0 0),.s (.slice none 0 0),.s (.slice none 0 0),.s (.slice none 0 0)]),(1,.box (aL s))]⟩ ?_ (fun hD13=>?_)
 ·
  refine aH 5 [7] (by kernel_rfl) ⟨?_,?_,trivial⟩
  ·
   refine⟨_,rfl,rfl,(ao rfl (gP hf rfl rfl rfl rfl rfl qK rfl (pL s.usr (by omega)) ?_))⟩
   rintro _ rfl
   refine aF (ag hD9 rfl rfl rfl)
  ·
   refine⟨_,rfl,rfl,(ao rfl (aE aA 1 rfl (aF (ag hD10 rfl rfl rfl))))⟩
 refine aK 12 #[true,true,true,true,false,false,true,true,false,true,true,false,false,false,false,false,false,false,false,false] ⟨40,[(1,.ref 1 0 0 0),(2,.ref 2 0 0 0),(6,.sl 4 (s.opn.map seC)),(7,.ref 1 0 0 3),(11,.sl 4 (s.sub.map enC)),(14,.sl 2 (s.tmb.map tmC))],[(2,.box [.s (.int .i64 0),.s (.int .i64 0),.s (.slice none 0 0),.s (.slice none 0 0),.s (.slice none 0 0),.s (.slice none 0 0)]),(1,.box (aL s))]⟩ ?_ (fun hD14=>?_)
 ·
  refine aH 4 [] (by kernel_rfl) ⟨?_,trivial⟩
  ·
   refine⟨_,rfl,rfl,(ao rfl (aE aA 1 rfl (aF (ag hD10 rfl rfl rfl))))⟩
 refine aK 12 #[true,true,false,true,true,false,true,true,false,true,true,false,false,false,false,false,false,false,false,false] ⟨40,[(1,.ref 1 0 0 0),(2,.ref 2 0 0 0),(5,.sl 4 (s.opn.map seC)),(8,.sl 2 (s.usr.map usC)),(11,.sl 4 (s.sub.map enC)),(14,.sl 2 (s.tmb.map tmC))],[(2,.box [.s (.int .i64 0),.s (.int .i64 0),.s (.slice none 0 0),.s (.slice none 0 0),.s (.slice none 0 0),.s (.slice none 0 0)]),(1,.box (aL s))]⟩ ?_ (fun hD15=>?_)
 ·
  refine aH 2 [] (by kernel_rfl) ⟨?_,trivial⟩
  ·
   refine⟨_,rfl,rfl,(ao rfl (aN hf rfl (aP rfl rfl iI rfl (cZ (iF s.opn (by omega)))) (aF (ag hD10 rfl rfl rfl))))⟩
 refine aK 13 #[true,true,true,true,true,false,true,false,false,true,false,false,false,false,false,false,false,false,false,false] ⟨40,[(1,.ref 1 0 0 0),(2,.ref 2 0 0 0),(6,.sl 4 (s.opn.map seC)),(8,.sl 2 (s.usr.map usC)),(10,.ref 1 0 0 4),(13,.ref 1 0 0 5)],[(2,.box [.s (.int .i64 0),.s (.int .i64 0),.s (.slice none 0 0),.s (.slice none 0 0),.s (.slice none 0 0),.s (.slice none 0 0)]),(1,.box (aL s))]⟩ ?_ (fun hD16=>?_)
 ·
  refine aH 5 [7,10] (by kernel_rfl) ⟨?_,?_,?_,trivial⟩
  ·
   refine⟨_,rfl,rfl,(ao rfl (gP hf rfl rfl rfl rfl rfl qK rfl (pL s.usr (by omega)) ?_))⟩
   rintro _ rfl
   refine aF (ag hD11 rfl rfl rfl)
  ·
   refine⟨_,rfl,rfl,(ao rfl (aE aA 1 rfl (aF (ag hD12 rfl rfl rfl))))⟩
  ·
   refine⟨_,rfl,rfl,(ao rfl (aE aA 1 rfl (aF (ag hD13 rfl rfl rfl))))⟩
 refine aK 13 #[true,true,true,true,false,false,true,true,false,true,false,false,false,false,false,false,false,false,false,false] ⟨40,[(1,.ref 1 0 0 0),(2,.ref 2 0 0 0),(6,.sl 4 (s.opn.map seC)),(7,.ref 1 0 0 3),(11,.sl 4 (s.sub.map enC)),(13,.ref 1 0 0 5)],[(2,.box [.s (.int .i64 0),.s (.int .i64 0),.s (.slice none 0 0),.s (.slice none 0 0),.s (.slice none 0 0),.s (.slice none 0 0)]),(1,.box (aL s))]⟩ ?_ (fun hD17=>?_)
 ·
  refine aH 4 [10] (by kernel_rfl) ⟨?_,?_,trivial⟩
  ·
   refine⟨_,rfl,rfl,(ao rfl (aE aA 1 rfl (aF (ag hD12 rfl rfl rfl))))⟩
  ·
   refine⟨_,rfl,rfl,(ao rfl (aE aA 1 rfl (aF (ag hD14 rfl rfl rfl))))⟩
 refine aK 13 #[true,true,true,true,false,false,true,false,false,true,true,false,false,false,false,false,false,false,false,false] ⟨40,[(1,.ref 1 0 0 0),(2,.ref 2 0 0 0),(6,.sl 4 (s.opn.map seC)),(7,.ref 1 0 0 3),(10,.ref 1 0 0 4),(14,.sl 2 (s.tmb.map tmC))],[(2,.box [.s (.int .i64 0),.s (.int .i64 0),.s (.slice none 0 0),.s (.slice none 0 0),.s (.slice none 0 0),.s (.slice none 0 0)]),(1,.box (aL s))]⟩ ?_ (fun hD18=>?_)
 ·
  refine aH 4 [7] (by kernel_rfl) ⟨?_,?_,trivial⟩
  ·
   refine⟨_,rfl,rfl,(ao rfl (aE aA 1 rfl (aF (ag hD13 rfl rfl rfl))))⟩
  ·
   refine⟨_,rfl,rfl,(ao rfl (aE aA 1 rfl (aF (ag hD14 rfl rfl rfl))))⟩
 refine aK 13 #[true,true,false,true,true,false,true,true,false,true,false,false,false,false,false,false,false,false,false,false] ⟨40,[(1,.ref 1 0 0 0),(2,.ref 2 0 0 0),(5,.sl 4 (s.opn.map seC)),(8,.sl 2 (s.usr.map usC)),(11,.sl 4 (s.sub.map enC)),(13,.ref 1 0 0 5)],[(2,.box [.s (.int .i64 0),.s (.int .i64 0),.s (.slice none 0 0),.s (.slice none 0 0),.s (.slice none 0 0),.s (.slice none 0 0)]),(1,.box (aL s))]⟩ ?_ (fun hD19=>?_)
 ·
  refine aH 2 [10] (by kernel_rfl) ⟨?_,?_,trivial⟩
  ·
   refine⟨_,rfl,rfl,(ao rfl (aN hf rfl (aP rfl rfl iI rfl (cZ (iF s.opn (by omega)))) (aF (ag hD12 rfl rfl rfl))))⟩
  ·
   refine⟨_,rfl,rfl,(ao rfl (aE aA 1 rfl (aF (ag hD15 rfl rfl rfl))))⟩
 refine aK 13 #[true,true,false,true,true,false,true,false,false,true,true,false,false,false,false,false,false,false,false,false] ⟨40,[(1,.ref 1 0 0 0),(2,.ref 2 0 0 0),(5,.sl 4 (s.opn.map seC)),(8,.sl 2 (s.usr.map usC)),(10,.ref 1 0 0 4),(14,.sl 2 (s.tmb.map tmC))],[(2,.box [.s (.int .i64 0),.s (.int .i64 0),.s (.slice none 0 0),.s (.slice none 0 0),.s (.slice none 0 0),.s (.slice none 0 0)]),(1,.box (aL s))]⟩ ?_ (fun hD20=>?_)
 ·
  refine aH 2 [7] (by kernel_rfl) ⟨?_,?_,trivial⟩
  ·
   refine⟨_,rfl,rfl,(ao rfl (aN hf rfl (aP rfl rfl iI rfl (cZ (iF s.opn (by omega)))) (aF (ag hD13 rfl rfl rfl))))⟩
  ·
   refine⟨_,rfl,rfl,(ao rfl (aE aA 1 rfl (aF (ag hD15 rfl rfl rfl))))⟩
 refine aK 13 #[true,true,false,true,false,false,true,true,false,true,true,false,false,false,false,false,false,false,false,false] ⟨40,[(1,.ref 1 0 0 0),(2,.ref 2 0 0 0),(5,.sl 4 (s.opn.map seC)),(7,.ref 1 0 0 3),(11,.sl 4 (s.sub.map enC)),(14,.sl 2 (s.tmb.map tmC))],[(2,.box [.s (.int .i64 0),.s (.int .i64 0),.s (.slice none 0 0),.s (.slice none 0 0),.s (.slice none 0 0),.s (.slice none 0 0)]),(1,.box (aL s))]⟩ ?_ (fun hD21=>?_)
 ·
  refine aH 2 [4] (by kernel_rfl) ⟨?_,?_,trivial⟩
  ·
   refine⟨_,rfl,rfl,(ao rfl (aN hf rfl (aP rfl rfl iI rfl (cZ (iF s.opn (by omega)))) (aF (ag hD14 rfl rfl rfl))))⟩
  ·
   refine⟨_,rfl,rfl,(ao rfl (aE aA 1 rfl (aF (ag hD15 rfl rfl rfl))))⟩
 refine aK 13 #[true,false,false,true,true,false,true,true,false,true,true,false,false,false,false,false,false,false,false,false] ⟨40,[(1,.ref 1 0 0 0),(2,.ref 2 0 0 0),(4,.ref 1 0 0 2),(8,.sl 2 (s.usr.map usC)),(11,.sl 4 (s.sub.map enC)),(14,.sl 2 (s.tmb.map tmC))],[(2,.box [.s (.int .i64 0),.s (.int .i64 0),.s (.slice none 0 0),.s (.slice none 0 0),.s (.slice none 0 0),.s (.slice none 0 0)]),(1,.box (aL s))]⟩ ?_ (fun hD22=>?_)
 ·
  refine aH 1 [] (by kernel_rfl) ⟨?_,trivial⟩
  ·
   refine⟨_,rfl,rfl,(ao rfl (aE aA 1 rfl (aF (ag hD15 rfl rfl rfl))))⟩
 refine aK 14 #[true,true,true,true,false,false,true,false,false,true,false,false,false,false,false,false,false,false,false,false] ⟨40,[(1,.ref 1 0 0 0),(2,.ref 2 0 0 0),(6,.sl 4 (s.opn.map seC)),(7,.ref 1 0 0 3),(10,.ref 1 0 0 4),(13,.ref 1 0 0 5)],[(2,.box [.s (.int .i64 0),.s (.int .i64 0),.s (.slice none 0 0),.s (.slice none 0 0),.s (.slice none 0 0),.s (.slice none 0 0)]),(1,.box (aL s))]⟩ ?_ (fun hD23=>?_)
 ·
  refine aH 4 [7,10] (by kernel_rfl) ⟨?_,?_,?_,trivial⟩
  ·
   refine⟨_,rfl,rfl,(ao rfl (aE aA 1 rfl (aF (ag hD16 rfl rfl rfl))))⟩
  ·
   refine⟨_,rfl,rfl,(ao rfl (aE aA 1 rfl (aF (ag hD17 rfl rfl rfl))))⟩
  ·
   refine⟨_,rfl,rfl,(ao rfl (aE aA 1 rfl (aF (ag hD18 rfl rfl rfl))))⟩
 refine aK 14 #[true,true,false,true,true,false,true,false,false,true,false,false,false,false,false,false,false,false,false,false] ⟨40,[(1,.ref 1 0 0 0),(2,.ref 2 0 0 0),(5,.sl 4 (s.opn.map seC)),(8,.sl 2 (s.usr.map usC)),(10,.ref 1 0 0 4),(13,.ref 1 0 0 5)],[(2,.box [.s (.int .i64 0),.s (.int .i64 0),.s (.slice none 0 0),.s (.slice none 0 0),.s (.slice none 0 0),.s (.slice none 0 0)]),(1,.box (aL s))]⟩ ?_ (fun hD24=>?_)
 ·
  refine aH 2 [7,10] (by kernel_rfl) ⟨?_,?_,?_,trivial⟩
  ·
   refine⟨_,rfl,rfl,(ao rfl (aN hf rfl (aP rfl rfl iI rfl (cZ (iF s.opn (by omega)))) (aF (ag hD16 rfl rfl rfl))))⟩
  ·
   refine⟨_,rfl,rfl,(ao rfl (aE aA 1 rfl (aF (ag hD19 rfl rfl rfl))))⟩
  ·
   refine⟨_,rfl,rfl,(ao rfl (aE aA 1 rfl (aF (ag hD20 rfl rfl rfl))))⟩
 refine aK 14 #[true,true,false,true,false,false,true,true,false,true,false,false,false,false,false,false,false,false,false,false] ⟨40,[(1,.ref 1 0 0 0),(2,.ref 2 0 0 0),(5,.sl 4 (s.opn.map seC)),(7,.ref 1 0 0 3),(11,.sl 4 (s.sub.map enC)),(13,.ref 1 0 0 5)],[(2,.box [.s (.int .i64 0),.s (.int .i64 0),.s (.slice none 0 0),.s (.slice none 0 0),.s (.slice none 0 0),.s (.slice none 0 0)]),(1,.box (aL s))]⟩ ?_ (fun hD25=>?_)
 ·
  refine aH 2 [4,10] (by kernel_rfl) ⟨?_,?_,?_,trivial⟩
  ·
   refine⟨_,rfl,rfl,(ao rfl (aN hf rfl (aP rfl rfl iI rfl (cZ (iF s.opn (by omega)))) (aF (ag hD17 rfl rfl rfl))))⟩
  ·
   refine⟨_,rfl,rfl,(ao rfl (aE aA 1 rfl (aF (ag hD19 rfl rfl rfl))))⟩
  ·
   refine⟨_,rfl,rfl,(ao rfl (aE aA 1 rfl (aF (ag hD21 rfl rfl rfl))))⟩
 refine aK 14 #[true,true,false,true,false,false,true,false,false,true,true,false,false,false,false,false,false,false,false,false] ⟨40,[(1,.ref 1 0 0 0),(2,.ref 2 0 0 0),(5,.sl 4 (s.opn.map seC)),(7,.ref 1 0 0 3),(10,.ref 1 0 0 4),(14,.sl 2 (s.tmb.map tmC))],[(2,.box [.s (.int .i64 0),.s (.int .i64 0),.s (.slice none 0 0),.s (.slice none 0 0),.s (.slice none 0 0),.s (.slice none 0 0)]),(1,.box (aL s))]⟩ ?_ (fun hD26=>?_)
 ·
  refine aH 2 [4,7] (by kernel_rfl) ⟨?_,?_,?_,trivial⟩
  ·
   refine⟨_,rfl,rfl,(ao rfl (aN hf rfl (aP rfl rfl iI rfl (cZ (iF s.opn (by omega)))) (aF (ag hD18 rfl rfl rfl))))⟩
  ·
   refine⟨_,rfl,rfl,(ao rfl (aE aA 1 rfl (aF (ag hD20 rfl rfl rfl))))⟩
  ·
   refine⟨_,rfl,rfl,(ao rfl (aE aA 1 rfl (aF (ag hD21 rfl rfl rfl))))⟩
 refine aK 14 #[true,false,false,true,true,false,true,true,false,true,false,false,false,false,false,false,false,false,false,false] ⟨40,[(1,.ref 1 0 0 0),(2,.ref 2 0 0 0),(4,.ref 1 0 0 2),(8,.sl 2 (s.usr.map usC)),(11,.sl 4 (s.sub.map enC)),(13,.ref 1 0 0 5)],[(2,.box [.s (.int .i64 0),.s (.int .i64 0),.s (.slice none 0 0),.s (.slice none 0 0),.s (.slice none 0 0),.s (.slice none 0 0)]),(1,.box (aL s))]⟩ ?_ (fun hD27=>?_)
 ·
  refine aH 1 [10] (by kernel_rfl) ⟨?_,?_,trivial⟩
  ·
   refine⟨_,rfl,rfl,(ao rfl (aE aA 1 rfl (aF (ag hD19 rfl rfl rfl))))⟩
  ·
   refine⟨_,rfl,rfl,(ao rfl (aE aA 1 rfl (aF (ag hD22 rfl rfl rfl))))⟩
 refine aK 14 #[true,false,false,true,true,false,true,false,false,true,true,false,false,false,false,false,false,false,false,false] ⟨40,[(1,.ref 1 0 0 0),(2,.ref 2 0 0 0),(4,.ref 1 0 0 2),(8,.sl 2 (s.usr.map usC)),(10,.ref 1 0 0 4),(14,.sl 2 (s.tmb.map tmC))],[(2,.box [.s (.int .i64 0),.s (.int .i64 0),.s (.slice none 0 0),.s (.slice none 0 0),.s (.slice none 0 0),.s (.slice none 0 0)]),(1,.box (aL s))]⟩ ?_ (fun hD28=>?_)
 ·
  refine aH 1 [7] (by kernel_rfl) ⟨?_,?_,trivial⟩
  ·
   refine⟨_,rfl,rfl,(ao rfl (aE aA 1 rfl (aF (ag hD20 rfl rfl rfl))))⟩
  ·
   refine⟨_,rfl,rfl,(ao rfl (aE aA 1 rfl (aF (ag hD22 rfl rfl rfl))))⟩
 refine aK 14 #[true,false,false,true,false,false,true,true,false,true,true,false,false,false,false,false,false,false,false,false] ⟨40,[(1,.ref 1 0 0 0),(2,.ref 2 0 0 0),(4,.ref 1 0 0 2),(7,.ref 1 0 0 3),(11,.sl 4 (s.sub.map enC)),(14,.sl 2 (s.tmb.map tmC))],[(2,.box [.s (.int .i64 0),.s (.int .i64 0),.s (.slice none 0 0),.s (.slice none 0 0),.s (.slice none 0 0),.s (.slice none 0 0)]),(1,.box (aL s))]⟩ ?_ (fun hD29=>?_)
 ·
  refine aH 1 [4] (by kernel_rfl) ⟨?_,?_,trivial⟩
  ·
   refine⟨_,rfl,rfl,(ao rfl (aE aA 1 rfl (aF (ag hD21 rfl rfl rfl))))⟩
  ·
   refine⟨_,rfl,rfl,(ao rfl (aE aA 1 rfl (aF (ag hD22 rfl rfl rfl))))⟩
 refine aK 15 #[true,true,false,true,false,false,true,false,false,true,false,false,false,false,false,false,false,false,false,false] ⟨40,[(1,.ref 1 0 0 0),(2,.ref 2 0 0 0),(5,.sl 4 (s.opn.map seC)),(7,.ref 1 0 0 3),(10,.ref 1 0 0 4),(13,.ref 1 0 0 5)],[(2,.box [.s (.int .i64 0),.s (.int .i64 0),.s (.slice none 0 0),.s (.slice none 0 0),.s (.slice none 0 0),.s (.slice none 0 0)]),(1,.box (aL s))]⟩ ?_ (fun hD30=>?_)
 ·
  refine aH 2 [4,7,10] (by kernel_rfl) ⟨?_,?_,?_,?_,trivial⟩
  ·
   refine⟨_,rfl,rfl,(ao rfl (aN hf rfl (aP rfl rfl iI rfl (cZ (iF s.opn (by omega)))) (aF (ag hD23 rfl rfl rfl))))⟩
  ·
   refine⟨_,rfl,rfl,(ao rfl (aE aA 1 rfl (aF (ag hD24 rfl rfl rfl))))⟩
  ·
   refine⟨_,rfl,rfl,(ao rfl (aE aA 1 rfl (aF (ag hD25 rfl rfl rfl))))⟩
  ·
   refine⟨_,rfl,rfl,(ao rfl (aE aA 1 rfl (aF (ag hD26 rfl rfl rfl))))⟩
 refine aK 15 #[true,false,false,true,true,false,true,false,false,true,false,false,false,false,false,false,false,false,false,false] ⟨40,[(1,.ref 1 0 0 0),(2,.ref 2 0 0 0),(4,.ref 1 0 0 2),(8,.sl 2 (s.usr.map usC)),(10,.ref 1 0 0 4),(13,.ref 1 0 0 5)],[(2,.box [.s (.int .i64 0),.s (.int .i64 0),.s (.slice none 0 0),.s (.slice none 0 0),.s (.slice none 0 0),.s (.slice none 0 0)]),(1,.box (aL s))]⟩ ?_ (fun hD31=>?_)
 ·
  refine aH 1 [7,10] (by kernel_rfl) ⟨?_,?_,?_,trivial⟩
  ·
   refine⟨_,rfl,rfl,(ao rfl (aE aA 1 rfl (aF (ag hD24 rfl rfl rfl))))⟩
  ·
   refine⟨_,rfl,rfl,(ao rfl (aE aA 1 rfl (aF (ag hD27 rfl rfl rfl))))⟩
  ·
   refine⟨_,rfl,rfl,(ao rfl (aE aA 1 rfl (aF (ag hD28 rfl rfl rfl))))⟩
 refine aK 15 #[true,false,false,true,false,false,true,true,false,true,false,false,false,false,false,false,false,false,false,false] ⟨40,[(1,.ref 1 0 0 0),(2,.ref 2 0 0 0),(4,.ref 1 0 0 2),(7,.ref 1 0 0 3),(11,.sl 4 (s.sub.map enC)),(13,.ref 1 0 0 5)],[(2,.box [.s (.int .i64 0),.s (.int .i64 0),.s (.slice none 0 0),.s (.slice none 0 0),.s (.slice none 0 0),.s (.slice none 0 0)]),(1,.box (aL s))]⟩ ?_ (fun hD32=>?_)
 ·
  refine aH 1 [4,10] (by kernel_rfl) ⟨?_,?_,?_,trivial⟩
  ·
   refine⟨_,rfl,rfl,(ao rfl (aE aA 1 rfl (aF (ag hD25 rfl rfl rfl))))⟩
  ·
   refine⟨_,rfl,rfl,(ao rfl (aE aA 1 rfl (aF (ag hD27 rfl rfl rfl))))⟩
  ·
   refine⟨_,rfl,rfl,(ao rfl (aE aA 1 rfl (aF (ag hD29 rfl rfl rfl))))⟩
 refine aK 15 #[true,false,false,true,false,false,true,false,false,true,true,false,false,false,false,false,false,false,false,false] ⟨40,[(1,.ref 1 0 0 0),(2,.ref 2 0 0 0),(4,.ref 1 0 0 2),(7,.ref 1 0 0 3),(10,.ref 1 0 0 4),(14,.sl 2 (s.tmb.map tmC))],[(2,.box [.s (.int .i64 0),.s (.int .i64 0),.s (.slice none 0 0),.s (.slice none 0 0),.s (.slice none 0 0),.s (.slice none 0 0)]),(1,.box (aL s))]⟩ ?_ (fun hD33=>?_)
 ·
  refine aH 1 [4,7] (by kernel_rfl) ⟨?_,?_,?_,trivial⟩
  ·
   refine⟨_,rfl,rfl,(ao rfl (aE aA 1 rfl (aF (ag hD26 rfl rfl rfl))))⟩
  ·
   refine⟨_,rfl,rfl,(ao rfl (aE aA 1 rfl (aF (ag hD28 rfl rfl rfl))))⟩
  ·
   refine⟨_,rfl,rfl,(ao rfl (aE aA 1 rfl (aF (ag hD29 rfl rfl rfl))))⟩
 refine gZ (mQ (sl':=[(1,.ref 1 0 0 0),(2,.ref 2 0 0 0),(4,.ref 1 0 0 2),(7,.ref 1 0 0 3),(10,.ref 1 0 0 4),(13,.ref 1 0 0 5)]) (m':=[(2,.box [.s (.int .i64 0),.s (.int .i64 0),.s (.slice none 0 0),.s (.slice none 0 0),.s (.slice none 0 0),.s (.slice none 0 0)]),(1,.box (aL s))]) rfl rfl rfl) (aH 1 [4,7,10] (by kernel_rfl) ⟨?_,?_,?_,?_,trivial⟩)
 ·
  refine⟨_,rfl,rfl,(ao rfl (aE aA 1 rfl (aF (ag hD30 rfl rfl rfl))))⟩
 ·
  refine⟨_,rfl,rfl,(ao rfl (aE aA 1 rfl (aF (ag hD31 rfl rfl rfl))))⟩
 ·
  refine⟨_,rfl,rfl,(ao rfl (aE aA 1 rfl (aF (ag hD32 rfl rfl rfl))))⟩
 ·
  refine⟨_,rfl,rfl,(ao rfl (aE aA 1 rfl (aF (ag hD33 rfl rfl rfl))))⟩
end Go.Proofs.YtijnkglkchhomaaGreat
set_option linter.unusedVariables false
set_option linter.unusedSimpArgs false
namespace Go.Proofs.YtijnkglkchhomaaGreat
open Go Go.Abs
theorem aE5 (l:List bO) (s:bO) (hl:l.length*32+32≤140737488355328) :Den Tryz.prog 71 [.sl 4 (l.map stC),.agg (stC s)]  (·=.sl 4 ((jE l s).map stC)):=by
 refine aY Tryz.func71 rfl (Nat.le_of_ble_eq_true rfl) (fun w0 A hf=>(aC (fun K1 hK1=>(aB (aN hf rfl (cS rfl rfl (lf rfl)) (aI rfl (bX) (aD (hK1 _ (aC (fun K2 hK2=>(aC (fun K3 hK3=>(aB (aE aA 2 rfl (aN hf rfl (aP rfl rfl mG rfl (sA s.1)) (aD ?_))))))))))))))))
 refine hK3 _ (aO rfl (fun hc1=>?_) (fun hc1=>?_))
 ·
  simp only[bs] at hc1
  refine aC (fun K4 hK4=>(aB (aE aA 1 rfl (aN hf rfl (aP rfl rfl tM rfl (cZ (sV _ (by omega)))) (aE aA 1 rfl (aD (hK4 _ (aM ?_))))))))
  refine⟨_,rfl,?_⟩
  rw[jE,if_pos (by assumption)]; rfl
 ·
  simp only[bs] at hc1
  refine aR (hK2 _ (aC (fun K5 hK5=>(aB (aE aA 3 rfl (aD (hK5 _ (aC (fun K6 hK6=>(aU (bW (ι:=Nat) (fun k=>⟨37,[(0,.sl 4 (l.map stC)),(3,.adr (stC s)),(5,.s (.int .i64 (k:Nat)))],[]⟩) (fun k=>k≤l.length∧∀ (j:Nat) (hj:j<l.length),k≤j→0<iU l[j] s) (fun k=>k) l.length ?_ ?_ ?_)))))))))))
  · exact⟨Nat.le_refl _,by omega⟩
  · exact cN ⟨rfl,rfl,aT (by rw[List.length_map]),trivial⟩ rfl
  ·
   rintro k hC
   obtain ⟨h1,h2⟩:=hC
   refine aC (fun K7 hK7=>(aC (fun K8 hK8=>(dE hf bK (by kernel_rfl) rfl (bC aA 3 rfl (eI 15 true rfl (fun hg2=>?_) (fun hg2=>?_)))))))
   ·
    simp only[bs] at hg2
    refine bC aA 2 rfl ?_
    refine bN [(17,_)] rfl rfl ⟨⟨rfl,rfl⟩,trivial⟩ rfl (eU rfl rfl (by omega) (by omega)) ?_
    refine bN [(16,_),(18,_)] rfl rfl ⟨⟨rfl,rfl⟩,⟨rfl,rfl⟩,trivial⟩ rfl (bJ rfl rfl cE bB (gQ (k:=k - 1) (by omega) (by omega))) (bC aA 2 rfl (bT [(20,_),(21,_)] rfl rfl ⟨⟨rfl,rfl⟩,⟨rfl,rfl⟩,trivial⟩ rfl (aP rfl rfl vL rfl (aEt l[k - 1] s)) (bC aA 2 rfl (dC [0,3,5,24] rfl rfl rfl (hK8 _ (aO rfl (fun hc3=>?_) (fun hc3=>?_)))))))
    ·
     simp only[bs] at hc3
     refine aR (hK7 _ (aU (aB (aE aA 1 rfl ?_))))
     refine aI rfl (eU rfl rfl (by omega) (by omega)) ?_
     refine aE aA 1 rfl ?_
     refine bV ?_
     exact⟨k - 1,⟨by omega,fun j hj hkj=>by
      by_cases e:j=k - 1
      · subst e; assumption
      · exact h2 j hj (by omega)⟩,by omega,cN ⟨rfl,rfl,aT (by omega),trivial⟩ rfl⟩
    ·
     simp only[bs] at hc3
     refine bI (hK6 _ (aC (fun K9 hK9=>(dE hf bK (by kernel_rfl) rfl ?_))))
     have hins:=aH6 s l k (by omega) h2 (fun h0 h=>by omega)
     refine bC aA 2 rfl (bN [(27,_),(28,_)] rfl rfl ⟨⟨rfl,rfl⟩,⟨rfl,rfl⟩,trivial⟩ rfl (eX rfl cE bB rfl (mU rfl (by omega)) (by omega) (by simp only[List.length_map,Int.toNat_natCast] <;> omega) (mM (k:=k) (by omega))) ?_)
     refine bC aA 1 rfl (bT [(30,_)] rfl rfl ⟨⟨rfl,rfl⟩,trivial⟩ rfl (bR hZ rfl rfl rfl rfl (l2 rfl)) (bC aA 2 rfl (bN [(32,_),(33,_)] rfl rfl ⟨⟨rfl,rfl⟩,⟨rfl,rfl⟩,trivial⟩ rfl (eX rfl cE bB (mU rfl (by omega)) rfl (by simp only[List.length_map,Int.toNat_natCast] <;> omega) (by omega) (iZ (k:=k) (by omega))) ?_)))
     refine bT [(29,_),(31,_),(34,_)] rfl rfl ⟨⟨rfl,rfl⟩,⟨rfl,rfl⟩,⟨rfl,rfl⟩,trivial⟩ rfl (bR aFl rfl rfl rfl rfl (l2 rfl)) (bT [(35,_)] rfl rfl ⟨⟨rfl,rfl⟩,trivial⟩ rfl (aP rfl rfl aBz rfl ((show Den Tryz.prog _ _ (·=.sl 4 ((l.take k++s::l.drop k).map stC)) from (cZ (aAu [l.take k,[s],l.drop k] (by simp) (by simp only[List.flatten_cons,List.flatten_nil,List.length_append,List.length_take,List.length_drop,List.length_cons,List.length_nil]; omega))).mono fun r h=>h.trans (by simp)))) ?_)
     refine bC aA 1 rfl (dC [4] rfl rfl rfl (hK9 _ (aM ?_)))
     refine⟨_,rfl,?_⟩
     rw[jE,if_neg (by omega),hins]; rfl
   ·
    simp only[bs] at hg2
    refine bC aA 9 rfl (dC [0,3,5,24] rfl rfl rfl (hK8 _ (bZ rfl (bI (hK6 _ (aC (fun K10 hK10=>(dE hf bK (by kernel_rfl) rfl ?_))))))))
    have hins:=aH6 s l k (by omega) h2 (fun h0 h=>by omega)
    refine bC aA 2 rfl (bN [(27,_),(28,_)] rfl rfl ⟨⟨rfl,rfl⟩,⟨rfl,rfl⟩,trivial⟩ rfl (eX rfl cE bB rfl (mU rfl (by omega)) (by omega) (by simp only[List.length_map,Int.toNat_natCast] <;> omega) (mM (k:=k) (by omega))) ?_)
    refine bC aA 1 rfl (bT [(30,_)] rfl rfl ⟨⟨rfl,rfl⟩,trivial⟩ rfl (bR hZ rfl rfl rfl rfl (l2 rfl)) (bC aA 2 rfl (bN [(32,_),(33,_)] rfl rfl ⟨⟨rfl,rfl⟩,⟨rfl,rfl⟩,trivial⟩ rfl (eX rfl cE bB (mU rfl (by omega)) rfl (by simp only[List.length_map,Int.toNat_natCast] <;> omega) (by omega) (iZ (k:=k) (by omega))) ?_)))
    refine bT [(29,_),(31,_),(34,_)] rfl rfl ⟨⟨rfl,rfl⟩,⟨rfl,rfl⟩,⟨rfl,rfl⟩,trivial⟩ rfl (bR aFl rfl rfl rfl rfl (l2 rfl)) (bT [(35,_)] rfl rfl ⟨⟨rfl,rfl⟩,trivial⟩ rfl (aP rfl rfl aBz rfl ((show Den Tryz.prog _ _ (·=.sl 4 ((l.take k++s::l.drop k).map stC)) from (cZ (aAu [l.take k,[s],l.drop k] (by simp) (by simp only[List.flatten_cons,List.flatten_nil,List.length_append,List.length_take,List.length_drop,List.length_cons,List.length_nil]; omega))).mono fun r h=>h.trans (by simp)))) ?_)
    refine bC aA 1 rfl (dC [4] rfl rfl rfl (hK10 _ (aM ?_)))
    refine⟨_,rfl,?_⟩
    rw[jE,if_neg (by omega),hins]; rfl
end Go.Proofs.YtijnkglkchhomaaGreat
set_option linter.unusedVariables false
set_option linter.unusedSimpArgs false
namespace Go.Proofs.YtijnkglkchhomaaGreat
open Go Go.Abs
theorem mB (s:Sta) (u:ByteArray) (x:bO) (hz:SzS 140737488355200 s) (hr:dG cM s.usr) :DenX Tryz.prog 90 [.agg (eA s E0 E1),.s (.string u),.agg (stC x)] [(E0,.buf 2 (s.usr.map usC)),(E1,.buf 2 (s.tmb.map tmC))] (fun r m=>r=.agg (eA (dZ s u x) E0 E1)∧m=[(E0,.buf 2 ((dZ s u x).usr.map usC)),(E1,.buf 2 ((dZ s u x).tmb.map tmC))]):=by
 have z1:=hz.o
 have z2:=hz.u
 have z3:=hz.b
 have z4:=hz.t
 have hlm:(s.usr.map usC).length=s.usr.length:=List.length_map _
 have hpl:=yN (key:=cM) s.usr u
 refine iH [(E0,G0),(E1,G1)] Tryz.func90 rfl (Nat.le_of_ble_eq_true rfl) (args':=[.agg (eA s G0 G1),.s (.string u),.agg (stC x)]) (m':=[(G0,.buf 2 (s.usr.map usC)),(G1,.buf 2 (s.tmb.map tmC))]) rfl rfl (by decide) (by decide) rfl (fun w0 o0 A hf=>?_)
 refine aC (fun K1 hK1=>(aB (rQ hf rfl rfl rfl rfl (l1 rfl) ?_)))
 refine aN hf rfl (cS rfl rfl (lf rfl)) (aZ hf rfl rfl rfl aX (aD (hK1 _ (aC (fun K2 hK2=>(aC (fun K3 hK3=>(aB (aE aA 2 rfl (aN hf rfl (aP rfl rfl mG rfl (sA x.1)) (aD (hK3 _ (aO rfl (fun hc1=>?_) (fun hc1=>?_))))))))))))))
 ·
  simp only[bs] at hc1
  refine aC (fun K4 hK4=>(aB (aI rfl (cD (cs':=eA s G0 G1) rfl jH bS rfl rfl rfl) (bD hf rfl rfl bS rfl rfl (l1 rfl) (l4 rfl) rfl (aD (hK4 _ (aM ?_)))))))
  rw[mC (by assumption)]
  exact⟨_,[(E0,G0),(E1,G1)],_,Le.refl _,by decide,rfl,rfl,⟨rfl,rfl⟩⟩
 ·
  simp only[bs] at hc1
  have hx:¬ x.1.2≤x.1.1:=by simpa using hc1
  refine aR (hK2 _ (aC (fun K5 hK5=>(aB (aE aA 3 rfl (aN hf rfl (qW rfl rfl (by show [AV.conv _ _,_,_]=_; rw[cL (g:=G0) rfl rfl]; rfl) xS (wV s.usr u (by omega) hr) rfl) ?_))))))
  refine aE aA 5 rfl (aD (hK5 _ (aC (fun K6 hK6=>(aC (fun K7 hK7=>(aB (aE aA 1 rfl (aD (hK7 _ (aO rfl (fun hc2=>?_) (fun hc2=>?_))))))))))))
  ·
   obtain ⟨hk,he⟩:=xF hr (show iG cM s.usr u=true by assumption)
   refine aC (fun K8 hK8=>(kV hf (L:=#[true,true,true,true,true,true,true,true,true,true,true,true,true,false]) 13 1 bK (by kernel_rfl) rfl (by kernel_rfl) rfl ?_))
   refine bC aA 6 rfl ?_
   refine bN [(25,_),(26,_)] rfl rfl ⟨⟨rfl,rfl⟩,⟨rfl,rfl⟩,trivial⟩ rfl (cF rfl rfl eC cV (by omega)) ?_
   refine bC aA 1 rfl (bN [(28,_)] rfl rfl ⟨⟨rfl,rfl⟩,trivial⟩ rfl (aD1 rfl aLr rfl ((aJ9 (by omega) hk 1).trans rfl)) (bC aA 1 rfl (bT [(29,_),(30,_)] rfl rfl ⟨⟨rfl,rfl⟩,⟨rfl,rfl⟩,trivial⟩ rfl (aP rfl rfl xR rfl (aE5 s.usr[dM cM s.usr u].2 x (by have:=hz.y _ (List.getElem_mem hk); omega))) ?_)))
   refine bN [(22,_),(23,_)] rfl rfl ⟨⟨rfl,rfl⟩,⟨rfl,rfl⟩,trivial⟩ rfl (cF rfl rfl eC cV (by omega)) ?_
   refine bC aA 1 rfl (aAc [3,6,31,33] rfl rfl rfl ?_)
   refine aH 13 [] (by kernel_rfl) ⟨?_,trivial⟩
   ·
    refine⟨_,rfl,rfl,(ao rfl (bD hf rfl rfl qO rfl rfl (by simp [AV.cells,AV.one,Value.oneCell']) (by simp [AV.cells,AV.leaf,Value.oneCell']) (hU (c:=2) (k:=dM cM s.usr u) (f:=1) (enc:=usC) (v:=(s.usr[dM cM s.usr u].1,jE s.usr[dM cM s.usr u].2 x)) (by omega) hk rfl (Nat.le_of_ble_eq_true rfl)) ?_))⟩
    refine aF (dF (by kernel_rfl) ?_)
    refine hK8 _ (aC (fun K9 hK9=>(aB ?_)))
    rw[aQi hr (by assumption) hx hk,show eA s G0 G1=eA (dZ s u x) G0 G1 from by simp only[eA,dZ]; rw[show ((kH s.usr u x).map usC).length=(s.usr.map usC).length from by rw[← aQi hr (by assumption) hx hk,List.length_map,List.length_map,List.length_set]]]
    refine aI rfl (cD (cs':=eA (dZ s u x) G0 G1) rfl jH bS rfl rfl rfl) (bD hf rfl rfl bS rfl rfl (l1 rfl) (l4 rfl) rfl (aD (hK9 _ (aM ?_))))
    exact⟨_,[(E0,G0),(E1,G1)],_,Le.refl _,by decide,rfl,rfl,⟨rfl,rfl⟩⟩
  ·
   have hno:iG cM s.usr u=false:=by simp_all
   refine aQe (jC (nee G0) (sl':=[(1,_),(3,_),(5,_),(6,_),(7,_)]) (m':=[(6,.box [.s (.int .i64 0),.s (.int .i64 0),.s (.slice none 0 0),.s (.slice none 0 0),.s (.slice none 0 0),.s (.slice none 0 0)]),(3,.box [.s (.int .i64 s.now),.s (.int .i64 s.hor),.sl 4 (s.opn.map seC),.sl 2 (s.usr.map usC),.sl 4 (s.sub.map enC),.own G1 2 0 (s.tmb.map tmC).length]),(G1,.buf 2 (s.tmb.map tmC))]) ⟨⟨_,rfl,rfl⟩,⟨_,rfl,rfl⟩,⟨_,rfl,rfl⟩,⟨_,rfl,rfl⟩,⟨_,rfl,rfl⟩,trivial⟩ (Eq.trans (show _=[(6,AM.box [.s (.int .i64 0),.s (.int .i64 0),.s (.slice none 0 0),.s (.slice none 0 0),.s (.slice none 0 0),.s (.slice none 0 0)]),(3,.box [.s (.int .i64 s.now),.s (.int .i64 s.hor),.sl 4 (s.opn.map seC),AV.only (nee G0) [(6,.box [.s (.int .i64 0),.s (.int .i64 0),.s (.slice none 0 0),.s (.slice none 0 0),.s (.slice none 0 0),.s (.slice none 0 0)]),(3,.box (eA s G0 G1)),(G0,.buf 2 (s.usr.map usC)),(G1,.buf 2 (s.tmb.map tmC))] (.own G0 2 0 (s.usr.map usC).length),.sl 4 (s.sub.map enC),.own G1 2 0 (s.tmb.map tmC).length]),(G1,.buf 2 (s.tmb.map tmC))] from rfl) (by rw[pT (ok:=nee G0) (g:=G0) rfl rfl rfl]))) ?_
   refine aR (hK6 _ (aC (fun K10 hK10=>(kV hf (L:=#[true,true,true,true,true,true,true,true,true,true,true,true,true,true,false,false,false]) 14 3 bK (by kernel_rfl) rfl (by kernel_rfl) rfl ?_))))
   refine bC aA 3 rfl (bN [(36,_),(37,_)] rfl rfl ⟨⟨rfl,rfl⟩,⟨rfl,rfl⟩,trivial⟩ rfl (eX rfl eC cV rfl (mU rfl (by omega)) (by omega) (by omega) (mM (by omega))) (bC aA 2 rfl (bT [(40,_)] rfl rfl ⟨⟨rfl,rfl⟩,trivial⟩ rfl (bR hZ rfl rfl rfl rfl (l2 rfl)) (bN [(39,_),(41,_)] rfl rfl ⟨⟨rfl,rfl⟩,⟨rfl,rfl⟩,trivial⟩ rfl (dD rfl jM xQ (l3 rfl) rfl) (bT [(42,_)] rfl rfl ⟨⟨rfl,rfl⟩,trivial⟩ rfl (bR jP rfl rfl rfl rfl (l2 rfl)) (bC aA 3 rfl (bN [(45,_),(46,_)] rfl rfl ⟨⟨rfl,rfl⟩,⟨rfl,rfl⟩,trivial⟩ rfl (eX rfl eC cV (mU rfl (by omega)) rfl (by omega) (by omega) (iZ (by omega))) ?_)))))))
   refine bT [(38,_),(43,_),(47,_)] rfl rfl ⟨⟨rfl,rfl⟩,⟨rfl,rfl⟩,⟨rfl,rfl⟩,trivial⟩ rfl (bR aPp rfl rfl rfl rfl (l2 rfl)) (aAc [3,6,48] rfl rfl rfl ?_)
   refine aH 14 [] (by kernel_rfl) ⟨?_,trivial⟩
   ·
    refine⟨_,rfl,rfl,(ao rfl (gP hf rfl rfl rfl rfl rfl aMu rfl (aJb [s.usr.take (dM cM s.usr u),[(u,[x])],s.usr.drop (dM cM s.usr u)] (by simp) (by simp only[List.flatten_cons,List.flatten_nil,List.length_append,List.length_take,List.length_drop,List.length_cons,List.length_nil]; omega)) ?_))⟩
    rintro _ rfl
    refine aF (aH 15 [] (by kernel_rfl) ⟨?_,trivial⟩)
    ·
     refine⟨_,rfl,rfl,(ao rfl (aE aA 1 rfl (aF (aH 16 [] (by kernel_rfl) ⟨?_,trivial⟩))))⟩
     ·
      refine⟨_,rfl,rfl,(ao rfl (bD hf rfl rfl mZ rfl rfl (l1 rfl) (l4 rfl) rfl (aF (dF (by kernel_rfl) ?_))))⟩
      refine hK10 _ (aC (fun K11 hK11=>(aB ?_)))
      rw[aT8 hr hno hx]
      refine aI rfl (cD (cs':=eA (dZ s u x) 49 G1) rfl jH bS rfl rfl rfl) (bD hf rfl rfl bS rfl rfl (l1 rfl) (l4 rfl) rfl (aD (hK11 _ (aM ?_))))
      exact⟨_,[(E0,49),(E1,G1)],_,Le.refl _,by decide,rfl,rfl,⟨rfl,rfl⟩⟩
end Go.Proofs.YtijnkglkchhomaaGreat
set_option linter.unusedVariables false
set_option linter.unusedSimpArgs false
namespace Go.Proofs.YtijnkglkchhomaaGreat
open Go Go.Abs
theorem aAt (l:List Se) (u:ByteArray) (t:Int) (hl:l.length*40+40≤140737488355328) :Den Tryz.prog 70 [.sl 4 (l.map seC),.s (.string u),.s (.int .i64 t)]  (·=.sl 4 ((gT l u t).map stC)):=by
 refine aY Tryz.func70 rfl (Nat.le_of_ble_eq_true rfl) (fun w0 A hf=>(aC (fun K1 hK1=>(aB (aI rfl (bX) (aD (hK1 _ (aC (fun K2 hK2=>(aB (qS hf 4 rfl rfl rfl (aD (hK2 _ (aC (fun K3 hK3=>(aC (fun K4 hK4=>?_)))))))))))))))))
 refine aB (aE aA 3 rfl (aD (hK4 _ (aU (bW (ι:=Nat×List bO) (fun(⟨k,out⟩:Nat×List bO)=>⟨38,[(1,.s (.string u)),(2,.s (.int .i64 t)),(7,.own 7 4 0 out.length),(11,.sl 4 (l.map seC)),(12,.s (.int .i64 ((l.map seC).length:Nat))),(13,.s (.int .i64 (k:Nat)))],[(7,.buf 4 (out.map stC))]⟩) (fun(⟨k,out⟩:Nat×List bO)=>k≤l.length∧out=lC (l.take k) u t∧out.length≤k) (fun(⟨k,out⟩:Nat×List bO)=>l.length - k) (0,[]) ?_ ?_ ?_)))))
 · exact⟨Nat.zero_le _,rfl,Nat.le_refl _⟩
 · exact cU rfl
 ·
  rintro ⟨k,out⟩ hC
  obtain ⟨h1,h2,h3⟩:=hC
  refine aC (fun K5 hK5=>(aB (aE aA 1 rfl (aD (hK5 _ (aC (fun K6 hK6=>(aO rfl (fun hc1=>?_) (fun hc1=>?_)))))))))
  ·
   simp only[bs,eW] at hc1
   refine aR (hK6 _ (aC (fun K7 hK7=>(aU (aC (fun K8 hK8=>(aB ?_)))))))
   refine aI rfl (bJ rfl rfl dY cX (by first | exact ixm (by omega) | assumption | exact⟨by decide,rfl⟩)) ?_
   refine aE aA 1 rfl (cC hf rfl nK rfl cX rfl rfl rfl rfl (lf rfl) (aD (hK8 _ (aC (fun K9 hK9=>(aB (aE aA 2 rfl (aN hf rfl (aP rfl rfl vM rfl (wX l[k] t)) (cC hf rfl dX rfl bB rfl rfl rfl rfl (lf rfl) (aD (hK9 _ (aC (fun K10 hK10=>(aB ?_))))))))))))))
   refine aE aA 5 rfl (bA rfl rfl rfl (fun hg2=>?_) (fun hg2=>?_))
   ·
    simp only[bs,eW] at hg2
    refine aI rfl (bM rfl oY mI rfl) ?_
    refine aE aA 1 rfl (bF rfl rfl rfl (aN hf rfl (aP rfl rfl mG rfl (sA (eW l[k] t).1)) (aE aA 2 rfl (aD (hK10 _ (aO rfl (fun hc3=>?_) (fun hc3=>?_)))))))
    ·
     simp only[bs,eW] at hc3
     refine aB (aE aA 2 rfl (aN hf rfl (bR hZ rfl rfl rfl rfl (l2 rfl)) (dQ hf rfl hZ rfl rfl rfl (.inl rfl) (by rw[List.length_map]) rfl (by first | rfl | simp [iS,bU]) (by first | (simp only[maxLen,List.length_map,List.length_append,List.length_cons,List.length_nil]; omega) | (simp [maxLen] <;> omega)) (by first | (simp only[List.length_map,List.length_append,List.length_cons,List.length_nil]; omega) | (simp <;> omega)) ?_)))
     refine cB (iK [1,2,11,12,13,33] rfl) (aE aA 1 rfl ?_)
     refine bV ?_
     refine hK7 _ (aB ?_)
     refine aI rfl (bQ rfl rfl (by omega) (by omega)) ?_
     refine aE aA 1 rfl (aD ?_)
     exact⟨(k+1,out++[eW l[k] t]),⟨by omega,by rw[h2,lC,lC,sR _ _ k (by omega),if_pos ⟨(show oI u l[k]=true from by simp_all[oI,toList_inj]),by first | omega | exact of_decide_eq_false hc3⟩],by rw[List.length_append]; simp only[List.length_cons,List.length_nil]; omega⟩,by simp only; omega,cN ⟨rfl,rfl,(by first | rfl | (rw[List.length_append]; rfl)),rfl,rfl,rfl,trivial⟩ (by rw[List.map_append]; rfl)⟩
    ·
     simp only[bs,eW] at hc3
     refine aR (hK7 _ (aB ?_))
     refine aI rfl (bQ rfl rfl (by omega) (by omega)) ?_
     refine aE aA 1 rfl (aD ?_)
     exact⟨(k+1,out),⟨by omega,by rw[h2,lC,lC,sR _ _ k (by omega),if_neg (by first | exact(fun hh=>(show ¬ oI u l[k]=true from by simp_all[oI,toList_inj]) hh.1) | (rintro ⟨_,hh⟩; exact hh (by first | omega | exact of_decide_eq_true hc3))),List.append_nil],by omega⟩,by simp only; omega,cN ⟨rfl,rfl,(by first | rfl | (rw[List.length_append]; rfl)),rfl,rfl,rfl,trivial⟩ rfl⟩
   ·
    simp only[bs,eW] at hg2
    refine aE aA 4 rfl (aD (hK10 _ (bZ rfl (aR (hK7 _ (aB ?_))))))
    refine aI rfl (bQ rfl rfl (by omega) (by omega)) ?_
    refine aE aA 1 rfl (aD ?_)
    exact⟨(k+1,out),⟨by omega,by rw[h2,lC,lC,sR _ _ k (by omega),if_neg (by first | exact(fun hh=>(show ¬ oI u l[k]=true from by simp_all[oI,toList_inj]) hh.1) | (rintro ⟨_,hh⟩; exact hh (by first | omega | exact of_decide_eq_true hc3))),List.append_nil],by omega⟩,by simp only; omega,cN ⟨rfl,rfl,(by first | rfl | (rw[List.length_append]; rfl)),rfl,rfl,rfl,trivial⟩ rfl⟩
  ·
   simp only[bs,eW] at hc1
   refine bI (hK3 _ (aC (fun K11 hK11=>(aB (aE aA 1 rfl (gE hf 7 rfl rfl rfl rfl rfl aNj (yF vL cmpS_tri (fun x y=>aEt x y) out _ rfl (by omega)) ?_))))))
   rintro r zs ⟨t0,ht1,ht2,rfl⟩
   refine aD (hK11 _ (aC (fun K12 hK12=>(aB (aE aA 2 rfl (aD (hK12 _ (aM ?_))))))))
   refine⟨_,rfl,?_⟩
   refine(cL (g:=7) rfl (by rw[List.length_map,ht1.length_eq])).trans ?_
   rw[gT,aSt ht1 ht2,h2,List.take_of_length_le (by omega)]
end Go.Proofs.YtijnkglkchhomaaGreat
set_option linter.unusedVariables false
set_option linter.unusedSimpArgs false
namespace Go.Proofs.YtijnkglkchhomaaGreat
open Go Go.Abs
theorem aN1 (a b:List Se) (ha:a.length≤9223372036854775807) (hb:b.length≤9223372036854775807) :Den Tryz.prog 80 [.sl 4 (a.map seC),.sl 4 (b.map seC)]  (·=.s (.bool (decide (a=b)))):=by
 refine aY Tryz.func80 rfl (Nat.le_of_ble_eq_true rfl) (fun w0 A hf=>(aC (fun K1 hK1=>(aB (aE aA 1 rfl (aD (hK1 _ (aC (fun K2 hK2=>(aB (aE aA 2 rfl (aN hf rfl (aP rfl rfl aNg rfl (aNt a b ha hb)) (aE aA 1 rfl (aD (hK2 _ ?_)))))))))))))))
 refine aM ?_
 refine⟨_,rfl,?_⟩
 rfl
theorem eZ (l:List Se) (hl:l.length*40+40≤140737488355328) :Den Tryz.prog 51 [.sl 4 (l.map seC)]  (·=.sl 4 (l.map seC)):=by
 refine aY Tryz.func51 rfl (Nat.le_of_ble_eq_true rfl) (fun w0 A hf=>(aC (fun K1 hK1=>(aB (aI rfl (bX) (aD (hK1 _ (aC (fun K2 hK2=>(aB (qS hf 4 rfl rfl rfl (aD (hK2 _ (aC (fun K3 hK3=>(aC (fun K4 hK4=>?_)))))))))))))))))
 refine aB (aE aA 3 rfl (aD (hK4 _ (aU (bW (ι:=Nat) (fun k=>⟨18,[(3,.own 3 4 0 (l.take k).length),(6,.sl 4 (l.map seC)),(7,.s (.int .i64 ((l.map seC).length:Nat))),(8,.s (.int .i64 (k:Nat)))],[(3,.buf 4 ((l.take k).map seC))]⟩) (fun k=>k≤l.length) (fun k=>l.length - k) 0 ?_ ?_ ?_)))))
 · exact Nat.zero_le _
 · exact cU rfl
 ·
  rintro k hC
  refine aC (fun K5 hK5=>(aB (aE aA 1 rfl (aD (hK5 _ (aC (fun K6 hK6=>(aO rfl (fun hc1=>?_) (fun hc1=>?_)))))))))
  ·
   simp only[bs] at hc1
   refine aR (hK6 _ (aC (fun K7 hK7=>(aU (aC (fun K8 hK8=>(aB ?_)))))))
   refine aI rfl (bJ rfl rfl sK oK (by first | exact ixm (by omega) | assumption | exact⟨by decide,rfl⟩)) ?_
   refine aE aA 1 rfl (cC hf rfl aLp rfl oK rfl rfl rfl rfl (lf rfl) (aD (hK8 _ (aB ?_))))
   have htl:(l.take k).length=k:=by rw[List.length_take]; omega
   refine aE aA 2 rfl (aN hf rfl (bR jQ rfl rfl rfl rfl (l2 rfl)) (dQ hf rfl jQ rfl rfl rfl (.inl rfl) (by rw[List.length_map]) rfl (by first | rfl | simp [iS,bU]) (by first | (simp only[maxLen,List.length_map,List.length_append,List.length_cons,List.length_nil]; omega) | (simp [maxLen] <;> omega)) (by first | (simp only[List.length_map,List.length_append,List.length_cons,List.length_nil]; omega) | (simp <;> omega)) ?_))
   refine cB (iK [6,7,8,15] rfl) (aE aA 1 rfl ?_)
   refine bV ?_
   refine hK7 _ (aB ?_)
   refine aI rfl (bQ rfl rfl (by omega) (by omega)) ?_
   refine aE aA 1 rfl (aD ?_)
   exact⟨k+1,by omega,by omega,cN ⟨(by rw[pB l k (by omega)]; rfl),rfl,rfl,rfl,trivial⟩ (by rw[pM l seC k (by omega)]; rfl)⟩
  ·
   simp only[bs] at hc1
   refine bI (hK3 _ (aC (fun K9 hK9=>(aB (aE aA 2 rfl (aD (hK9 _ (aM ?_))))))))
   refine⟨_,rfl,?_⟩
   refine(cL (g:=3) rfl (by rw[List.length_map])).trans ?_
   rw[List.take_of_length_le (by omega)]
theorem wL (l:List Se) (u:ByteArray) (hl:l.length*40+40≤140737488355328) :Den Tryz.prog 133 [.sl 4 (l.map seC),.s (.string u)]  (·=.sl 4 ((l.filter (fun e=>!oI u e)).map seC)):=by
 refine aY Tryz.func133 rfl (Nat.le_of_ble_eq_true rfl) (fun w0 A hf=>(aC (fun K1 hK1=>(aB (aN hf rfl (cS rfl rfl (lf rfl)) (aI rfl (bX) (aD (hK1 _ (aC (fun K2 hK2=>(aB (aE aA 1 rfl (gP hf rfl rfl rfl rfl rfl iI rfl (iF l (by omega)) ?_)))))))))))))
 rintro _ rfl
 refine aI rfl (eK rfl) (gE hf 6 rfl rfl rfl rfl rfl aMk (aB1 aMj rfl (fun _=>rfl) (fun e=>oI u e) l _ (by rw[List.length_map]) (by omega) (fun x _=>aB3 x u)) ?_)
 rintro r zs ⟨rfl,rfl⟩
 refine aE aA 1 rfl (aD (hK2 _ (aM ?_)))
 refine⟨_,rfl,?_⟩
 exact cL (g:=6) rfl (by rw[List.length_map])
end Go.Proofs.YtijnkglkchhomaaGreat
set_option linter.unusedVariables false
set_option linter.unusedSimpArgs false
namespace Go.Proofs.YtijnkglkchhomaaGreat
open Go Go.Abs
theorem aRh (l:List En) (p:Pr) (t:Int) (hl:l.length*48+48≤140737488355328) :Den Tryz.prog 157 [.sl 4 (l.map enC),.agg (prC p),.s (.int .i64 t)]  (·=.tup [.sl 4 ((if onB l p then [] else iQ l p t).map enC),.s (.int .i64 (if onB l p then 90 else 0))]):=by
 refine aY Tryz.func157 rfl (Nat.le_of_ble_eq_true rfl) (fun w0 A hf=>(aC (fun K1 hK1=>(aB (aN hf rfl (cS rfl rfl (lf rfl)) (aI rfl (bX) (aE aA 1 rfl (aD (hK1 _ (aC (fun K2 hK2=>(aC (fun K3 hK3=>(aB (aE aA 2 rfl (aN hf rfl (aP rfl rfl aMb rfl (aKt _ _ (by omega))) ?_))))))))))))))))
 refine aD (hK3 _ (aO rfl (fun hc1=>?_) (fun hc1=>?_)))
 ·
  refine aC (fun K4 hK4=>(aB (aI rfl (aD0 (k:=4)) (aE aA 1 rfl (aD (hK4 _ (aM ?_)))))))
  refine⟨_,rfl,?_⟩
  rw[show onB l p=true by assumption]; rfl
 ·
  refine aR (hK2 _ (aC (fun K5 hK5=>(aB (aE aA 2 rfl (aI rfl (dD rfl wB tJ (l3 rfl) rfl) (aI rfl (dD rfl mD aE7 (l3 rfl) rfl) (cC hf rfl mD rfl dP rfl rfl rfl rfl (lf rfl) (aD (hK5 _ (aC (fun K6 hK6=>(aB (aE aA 1 rfl ?_))))))))))))))
  refine aI rfl (eK rfl) (aN hf rfl (aP rfl rfl rM rfl (mT aMa rfl (fun x=>decide (0<lD x (p,(t,1099511627776)))) l (by omega) (fun x _=>aOi x (p,(t,1099511627776))))) (aE aA 1 rfl (aD (hK6 _ (aC (fun K7 hK7=>(aC (fun K8 hK8=>(aB (aE aA 2 rfl (aD (hK8 _ (aO rfl (fun hc2=>?_) (fun hc2=>?_))))))))))))))
  ·
   simp only[bs] at hc2
   obtain ⟨k,hk⟩:∃ k:Nat,k=l.length:=⟨_,rfl⟩
   have hno:∀ x∈l,¬ 0<lD x (p,(t,1099511627776)):=by
     rcases eE (fun x=>decide (0<lD x (p,(t,1099511627776)))) l with ⟨_,h⟩ | ⟨k',_,e,_⟩
     · intro x hx; simpa using h x hx
     · exfalso; omega
   have hins:=aH8 (p,(t,1099511627776)) l k (by omega) (fun j hj _=>hno _ (List.getElem_mem hj)) (fun h=>by omega)
   refine aB (aE aA 2 rfl ?_)
   rw[List.length_map,← hk]
   refine aE aA 1 rfl (aD (hK7 _ (aC (fun K9 hK9=>(dE hf bK (by kernel_rfl) rfl (bC aA 2 rfl (bN [(24,_),(25,_)] rfl rfl ⟨⟨rfl,rfl⟩,⟨rfl,rfl⟩,trivial⟩ rfl (eX rfl eV dP rfl (mU rfl (by omega)) (by omega) (by simp only[List.length_map,Int.toNat_natCast] <;> omega) (mM (k:=k) (by omega))) ?_)))))))
   refine bC aA 1 rfl (bT [(27,_)] rfl rfl ⟨⟨rfl,rfl⟩,trivial⟩ rfl (bR jO rfl rfl rfl rfl (l2 rfl)) (bC aA 2 rfl (bN [(29,_),(30,_)] rfl rfl ⟨⟨rfl,rfl⟩,⟨rfl,rfl⟩,trivial⟩ rfl (eX rfl eV dP (mU rfl (by omega)) rfl (by simp only[List.length_map,Int.toNat_natCast] <;> omega) (by omega) (iZ (k:=k) (by omega))) ?_)))
   refine bT [(26,_),(28,_),(31,_)] rfl rfl ⟨⟨rfl,rfl⟩,⟨rfl,rfl⟩,⟨rfl,rfl⟩,trivial⟩ rfl (bR aFk rfl rfl rfl rfl (l2 rfl)) (bT [(32,_)] rfl rfl ⟨⟨rfl,rfl⟩,trivial⟩ rfl (aP rfl rfl aBp rfl ((show Den Tryz.prog _ _ (·=.sl 4 ((l.take k++(p,(t,1099511627776))::l.drop k).map enC)) from (cZ (aA6 [l.take k,[(p,(t,1099511627776))],l.drop k] (by simp) (by simp only[List.flatten_cons,List.flatten_nil,List.length_append,List.length_take,List.length_drop,List.length_cons,List.length_nil]; omega))).mono fun r h=>h.trans (by simp)))) ?_)
   refine bC aA 2 rfl (dC [6,7] rfl rfl rfl (hK9 _ (aM ?_)))
   refine⟨_,rfl,?_⟩
   rw[show onB l p=false from by first | assumption | (simp at *; assumption),← hins]; rfl
  ·
   simp only[bs] at hc2
   obtain ⟨k,hk,ek,hk1,hk2⟩:∃ k:Nat,∃ h:k<l.length,oO (fun x=>decide (0<lD x (p,(t,1099511627776)))) l=(k:Nat)∧0<lD l[k] (p,(t,1099511627776))∧∀ (j:Nat) (hj:j<l.length),j<k→¬ 0<lD l[j] (p,(t,1099511627776)):=by
     rcases eE (fun x=>decide (0<lD x (p,(t,1099511627776)))) l with ⟨e,_⟩ | ⟨k',h1,e,h2,h3⟩
     · exfalso; omega
     · exact⟨k',h1,e,by simpa using h2,fun j hj hjk=>by simpa using h3 j hj hjk⟩
   rw[ek]
   have hins:=aH8 (p,(t,1099511627776)) l k (by omega) hk2 (fun _=>hk1)
   refine aR (hK7 _ (aC (fun K10 hK10=>(dE hf bK (by kernel_rfl) rfl (bC aA 2 rfl (bN [(24,_),(25,_)] rfl rfl ⟨⟨rfl,rfl⟩,⟨rfl,rfl⟩,trivial⟩ rfl (eX rfl eV dP rfl (mU rfl (by omega)) (by omega) (by simp only[List.length_map,Int.toNat_natCast] <;> omega) (mM (k:=k) (by omega))) ?_))))))
   refine bC aA 1 rfl (bT [(27,_)] rfl rfl ⟨⟨rfl,rfl⟩,trivial⟩ rfl (bR jO rfl rfl rfl rfl (l2 rfl)) (bC aA 2 rfl (bN [(29,_),(30,_)] rfl rfl ⟨⟨rfl,rfl⟩,⟨rfl,rfl⟩,trivial⟩ rfl (eX rfl eV dP (mU rfl (by omega)) rfl (by simp only[List.length_map,Int.toNat_natCast] <;> omega) (by omega) (iZ (k:=k) (by omega))) ?_)))
   refine bT [(26,_),(28,_),(31,_)] rfl rfl ⟨⟨rfl,rfl⟩,⟨rfl,rfl⟩,⟨rfl,rfl⟩,trivial⟩ rfl (bR aFk rfl rfl rfl rfl (l2 rfl)) (bT [(32,_)] rfl rfl ⟨⟨rfl,rfl⟩,trivial⟩ rfl (aP rfl rfl aBp rfl ((show Den Tryz.prog _ _ (·=.sl 4 ((l.take k++(p,(t,1099511627776))::l.drop k).map enC)) from (cZ (aA6 [l.take k,[(p,(t,1099511627776))],l.drop k] (by simp) (by simp only[List.flatten_cons,List.flatten_nil,List.length_append,List.length_take,List.length_drop,List.length_cons,List.length_nil]; omega))).mono fun r h=>h.trans (by simp)))) ?_)
   refine bC aA 2 rfl (dC [6,7] rfl rfl rfl (hK10 _ (aM ?_)))
   refine⟨_,rfl,?_⟩
   rw[show onB l p=false from by first | assumption | (simp at *; assumption),← hins]; rfl
end Go.Proofs.YtijnkglkchhomaaGreat
set_option linter.unusedVariables false
set_option linter.unusedSimpArgs false
namespace Go.Proofs.YtijnkglkchhomaaGreat
open Go Go.Abs
theorem aOu (a b:En) (h1:TS a.1.1) (h2:TS a.1.2) (h3:TS b.1.1) (h4:TS b.1.2) :Den Tryz.prog 93 [.agg (enC a),.agg (enC b)]  (·=.s (.bool (decide (lD a b<0)))):=by
 refine aY Tryz.func93 rfl (Nat.le_of_ble_eq_true rfl) (fun w0 A hf=>(aC (fun K1 hK1=>(aB (aN hf rfl (cS rfl rfl (lf rfl)) (aN hf rfl (cS rfl rfl (lf rfl)) (aE aA 1 rfl (aD (hK1 _ (aC (fun K2 hK2=>(aB (aE aA 4 rfl (aN hf rfl (aP rfl rfl tO rfl (Nm.refCmp_den _ _ (by first | assumption | exact(ht _ (List.getElem_mem _)).1 | exact(ht _ (List.getElem_mem _)).2) (by first | assumption | exact(ht _ (List.getElem_mem _)).1 | exact(ht _ (List.getElem_mem _)).2))) ?_))))))))))))))
 refine aE aA 1 rfl (aD (hK2 _ (aC (fun K3 hK3=>(aC (fun K4 hK4=>(aB (aE aA 2 rfl (aD (hK4 _ (aO rfl (fun hc1=>?_) (fun hc1=>?_))))))))))))
 ·
  simp only[bs] at hc1
  refine aC (fun K5 hK5=>(aB (aE aA 3 rfl (aD (hK5 _ (aM ?_))))))
  refine⟨_,rfl,?_⟩
  refine aQ ?_
  unfold lD rX vZ
  simp only[orI,kU]
  rw[Bool.eq_iff_iff]
  (repeat' split) <;> simp_all <;> omega
 ·
  simp only[bs] at hc1
  refine aR (hK3 _ (aC (fun K6 hK6=>(aB (aE aA 4 rfl (aN hf rfl (aP rfl rfl tO rfl (Nm.refCmp_den _ _ (by first | assumption | exact(ht _ (List.getElem_mem _)).1 | exact(ht _ (List.getElem_mem _)).2) (by first | assumption | exact(ht _ (List.getElem_mem _)).1 | exact(ht _ (List.getElem_mem _)).2))) ?_))))))
  refine aE aA 1 rfl (aD (hK6 _ (aC (fun K7 hK7=>(aC (fun K8 hK8=>(aB (aE aA 2 rfl (aD (hK8 _ (aO rfl (fun hc2=>?_) (fun hc2=>?_))))))))))))
  ·
   simp only[bs] at hc2
   refine aC (fun K9 hK9=>(aB (aE aA 3 rfl (aD (hK9 _ (aM ?_))))))
   refine⟨_,rfl,?_⟩
   refine aQ ?_
   unfold lD rX vZ
   simp only[orI,kU]
   rw[Bool.eq_iff_iff]
   (repeat' split) <;> simp_all <;> omega
  ·
   simp only[bs] at hc2
   refine aR (hK7 _ (aC (fun K10 hK10=>(aB (aE aA 6 rfl (aD (hK10 _ (aM ?_))))))))
   refine⟨_,rfl,?_⟩
   refine aQ ?_
   unfold lD rX vZ
   simp only[orI,kU]
   rw[Bool.eq_iff_iff]
   (repeat' split) <;> simp_all <;> omega
end Go.Proofs.YtijnkglkchhomaaGreat
set_option linter.unusedVariables false
set_option linter.unusedSimpArgs false
namespace Go.Proofs.YtijnkglkchhomaaGreat
open Go Go.Abs
theorem aAq (l:List En) (u:ByteArray) (hl:l.length*48+48≤140737488355328) :Den Tryz.prog 134 [.sl 4 (l.map enC),.s (.string u)]  (·=.sl 4 ((l.filter fun e=>!lV u e).map enC)):=by
 refine aY Tryz.func134 rfl (Nat.le_of_ble_eq_true rfl) (fun w0 A hf=>(aC (fun K1 hK1=>(aB (aN hf rfl (cS rfl rfl (lf rfl)) (aI rfl (bX) (aD (hK1 _ (aC (fun K2 hK2=>(aB (aE aA 1 rfl (gP hf rfl rfl rfl rfl rfl nM rfl (nI _ (by omega)) ?_)))))))))))))
 rintro _ rfl
 refine aI rfl (eK rfl) (gE hf 6 rfl rfl rfl rfl rfl aBu (tT aMi rfl (fun _=>rfl) (lV u) l _ (by rw[List.length_map]) (by omega) (fun x _=>aHp x u)) ?_)
 rintro r zs ⟨rfl,rfl⟩
 refine aE aA 1 rfl (aD (hK2 _ (aM ?_)))
 refine⟨_,rfl,?_⟩
 exact cL (g:=6) rfl (by rw[List.length_map])
theorem aR7 (l:List En) (t:Int) (hl:l.length*48+48≤140737488355328) :Den Tryz.prog 92 [.sl 4 (l.map enC),.s (.int .i64 t)]  (·=.sl 4 ((l.filter fun e=>!decide (e.2.2≤t)).map enC)):=by
 refine aY Tryz.func92 rfl (Nat.le_of_ble_eq_true rfl) (fun w0 A hf=>(aC (fun K1 hK1=>(aB (aN hf rfl (cS rfl rfl (lf rfl)) (aI rfl (bX) (aD (hK1 _ (aC (fun K2 hK2=>(aB (aE aA 1 rfl (gP hf rfl rfl rfl rfl rfl nM rfl (nI _ (by omega)) ?_)))))))))))))
 rintro _ rfl
 refine aI rfl (eK rfl) (gE hf 6 rfl rfl rfl rfl rfl aBu (tT aMr rfl (fun _=>rfl) (fun e=>decide (e.2.2≤t)) l _ (by rw[List.length_map]) (by omega) (fun x _=>aOw x t)) ?_)
 rintro r zs ⟨rfl,rfl⟩
 refine aE aA 1 rfl (aD (hK2 _ (aM ?_)))
 refine⟨_,rfl,?_⟩
 exact cL (g:=6) rfl (by rw[List.length_map])
end Go.Proofs.YtijnkglkchhomaaGreat
set_option linter.unusedVariables false
set_option linter.unusedSimpArgs false
namespace Go.Abs
def aPy (x:List En) (p:Pr) (t:Int):List En:=if onB x p=true then jA x p t else iQ x p t
def aUh (x:List En) (a:Int):Prop:=qQ x=true∧∀ e∈x,e.2.1≤a∧(e.2.2=1099511627776∨e.2.2≤a)∧TS e.1.1∧TS e.1.2
theorem ordE_eq {a b:En}:lD a b=0↔a.1=b.1∧a.2.1=b.2.1:=by
  rw[uO,sB,aDz]
  refine and_congr_right fun _=>?_
  unfold kU; (repeat' split) <;> omega
theorem yS {e:En}:∀ {l:List En},l.Pairwise RisR→(∀ x∈l,¬ 0<lD x e→RisR x e)→(∀ x∈l,0<lD x e→RisR e x)→(qR l e).Pairwise RisR
  | [],_,_,_=>by simp [qR]
  | x::l,h,h1,h2=>by
    obtain ⟨hx,hl⟩:=List.pairwise_cons.1 h
    rw[qR]
    split
    · rename_i h0
      refine List.pairwise_cons.2 ⟨fun y hy=>?_,h⟩
      rcases List.mem_cons.1 hy with rfl | hy
      · exact h2 _ (by simp) h0
      · refine h2 y (by simp [hy]) ?_
        have e1:=ordE_tri.lt_tr (show lD e x<0 by have:=ordE_tri.swap e x; omega) (hx y hy).1
        have:=ordE_tri.swap e y; omega
    · rename_i h0
      refine List.pairwise_cons.2 ⟨fun y hy=>?_,yS hl (fun z hz=>h1 z (by simp [hz])) (fun z hz=>h2 z (by simp [hz]))⟩
      rcases uU.1 hy with rfl | hy
      · exact h1 x (by simp) h0
      · exact hx y hy
theorem yI {p:Pr} {t:Int} {y:En}:∀ {l:List En},y∈jA l p t→y∈l∨∃ e∈l,fX p e=true∧e.2.1<t∧y=(e.1,(e.2.1,t))
  | [],h=>by simp [jA] at h
  | x::l,h=>by
    rw[jA] at h
    split at h
    · rename_i hf
      rcases List.mem_append.1 h with h | h
      · unfold qV at h
        split at h
        · simp at h
        · simp only[List.mem_singleton] at h
          exact .inr ⟨x,by simp,hf,by omega,h⟩
      · exact .inl (by simp [h])
    · rcases List.mem_cons.1 h with h | h
      · exact .inl (by simp [h])
      · rcases yI h with h | ⟨e,he,h⟩
        · exact .inl (by simp [h])
        · exact .inr ⟨e,by simp [he],h⟩
theorem aAg {p:Pr} {e:En}:fX p e=true↔e.1=p∧e.2.2=1099511627776:=by simp [fX]
theorem yH {p:Pr} {t:Int}:∀ {l:List En},l.Pairwise RisR→(∀ y∈l,y.2.1<1099511627776)→(jA l p t).Pairwise RisR
  | [],_,_=>by simp [jA]
  | x::l,h,h1=>by
    obtain ⟨hx,hl⟩:=List.pairwise_cons.1 h
    rw[jA]
    split
    · rename_i hf
      have hF:=(aAg.1 hf).2
      unfold qV
      split
      · exact hl
      · refine List.pairwise_cons.2 ⟨fun y hy=>⟨(hx y hy).1,fun e=>?_⟩,hl⟩
        have:=(hx y hy).2 e
        have:=h1 y (List.mem_cons_of_mem _ hy)
        omega
    · refine List.pairwise_cons.2 ⟨fun y hy=>?_,yH hl (fun z hz=>h1 z (by simp [hz]))⟩
      rcases yI hy with hy | ⟨e,he,_,_,rfl⟩
      · exact hx y hy
      · exact⟨(hx e he).1,fun e'=>(hx e he).2 e'⟩
theorem aG4 {x:List En} {a t:Int} {p:Pr} (h:aUh x a) (h1:a≤t) (h2:t<1099511627776) (r1:cK p.1=true) (r2:cK p.2=true) (s1:TS p.1) (s2:TS p.2):aUh (aPy x p t) t:=by
  obtain ⟨hr,he⟩:=h
  obtain ⟨ho,hp⟩:=(pO x).1 hr
  have hT:∀ e∈x,e.2.1<e.2.2:=fun e hm=>by have:=ho e hm; simp only[okE,Bool.and_eq_true,decide_eq_true_eq] at this; exact this.1
  have hF:∀ e∈x,e.2.1<1099511627776:=fun e hm=>by have:=(he e hm).1; omega
  unfold aPy
  split
  · refine⟨(pO _).2 ⟨fun y hy=>?_,yH hp hF⟩,fun y hy=>?_⟩
    · rcases yI hy with hy | ⟨e,hm,_,hlt,rfl⟩
      · exact ho y hy
      · have:=ho e hm
        simp only[okE,Bool.and_eq_true,decide_eq_true_eq] at this ⊢
        exact⟨hlt,this.2⟩
    · rcases yI hy with hy | ⟨e,hm,_,hlt,rfl⟩
      · obtain ⟨q1,q2,q3⟩:=he y hy
        exact⟨by omega,by omega,q3⟩
      · obtain ⟨q1,q2,q3⟩:=he e hm
        exact⟨by simp only; omega,.inr (by simp),q3⟩
  · rename_i hon
    refine⟨(pO _).2 ⟨fun y hy=>?_,yS hp (fun y hy hle=>?_) (fun y hy hlt=>?_)⟩,fun y hy=>?_⟩
    · rcases uU.1 hy with rfl | hy
      · simp [okE,h2,r1,r2]
      · exact ho y hy
    · have hne:¬ (y.1=p∧y.2.2=1099511627776):=fun hh=>hon (aH1.2 ⟨y,hy,hh⟩)
      obtain ⟨q1,q2,_⟩:=he y hy
      have q4:=hT y hy
      have hyt:y.1=p→y.2.2≤t:=fun e=>by rcases q2 with q2 | q2; exact absurd ⟨e,q2⟩ hne; omega
      refine⟨?_,fun e=>by simp only at e ⊢; exact hyt e⟩
      rcases Int.lt_or_eq_of_le (show lD y (p,(t,1099511627776))≤0 by omega) with e | e
      · exact e
      · exfalso
        obtain ⟨e1,e2⟩:=ordE_eq.1 e
        have:=hyt e1
        simp only at e2; omega
    · refine⟨by have:=ordE_tri.swap y (p,(t,1099511627776)); omega,fun e=>?_⟩
      exfalso
      simp only at e
      have q1:=(he y hy).1
      have:lD y (p,(t,1099511627776))=kU y.2.1 t:=by
        rw[uO,uS,if_neg (by simp [aDz,← e])]
      rw[this] at hlt
      unfold kU at hlt
      (repeat' split at hlt) <;> omega
    · rcases uU.1 hy with rfl | hy
      · exact⟨Int.le_refl _,.inl rfl,s1,s2⟩
      · obtain ⟨q1,q2,q3⟩:=he y hy
        exact⟨by omega,by omega,q3⟩
end Go.Abs
set_option linter.unusedVariables false
set_option linter.unusedSimpArgs false
namespace Go.Abs
theorem jW {s:ByteArray} (h:cK s=true):TS s:=by
  simp only[cK,Bool.and_eq_true,decide_eq_true_eq] at h
  have:=h.1.2
  show s.size≤_
  omega
theorem mP {s:Sta} {x:bO}:eD s x=true↔(∀ e∈s.opn,e.1.1=x.2.1→x.1.2≤e.2.2)∧0≤x.1.1∧x.1.2≤s.now∧1≤x.2.1∧x.2.1≤999∧1≤x.2.2∧x.2.2≤4:=by
  simp only[eD,Bool.and_eq_true,decide_eq_true_eq,Bool.not_eq_true',List.any_eq_false,not_and,Int.not_lt]
theorem oF {s:Sta} {x:Us}:lA s x=true↔x.2≠[]∧tV x.2=true∧∀ y∈x.2,eD s y=true:=by
  simp only[lA,Bool.and_eq_true,Bool.not_eq_true',List.isEmpty_eq_false_iff,List.all_eq_true,ne_eq]
theorem fW {s:Sta} {e:En}:jG s e=true↔0≤e.2.1∧e.2.1≤s.now∧(e.2.2≤s.now∨e.2.2=1099511627776):=by
  simp only[jG,Bool.and_eq_true,Bool.or_eq_true,decide_eq_true_eq]
theorem jY {s:Sta} {x:Tm}:pV s x=true↔0≤x.2∧x.2≤s.now:=by
  simp only[pV,Bool.and_eq_true,decide_eq_true_eq]
theorem zY {e:Se}:fG e=true↔cK e.1.2=true∧1≤e.1.1∧e.1.1≤999∧1≤e.2.1∧e.2.1≤4∧0≤e.2.2∧e.2.2≤1099511627775:=by
  simp only[fG,Bool.and_eq_true,decide_eq_true_eq,and_assoc]
theorem aGp {s:Sta} (h:RightP s) {e:Se} (he:e∈s.opn):cK e.1.2=true∧1≤e.1.1∧e.1.1≤999∧1≤e.2.1∧e.2.1≤4∧0≤e.2.2∧e.2.2≤1099511627775 :=
  zY.1 (((iO _).1 h.opn).1.1 e he)
theorem aH2 {l:List Us} {u:ByteArray} {p:Us→Prop} (h:dG cM l) (hp:∀ x∈l,p x) (h0:p (u,[])):p (u,ofU l u):=by
  by_cases hh:iG cM l u=true
  · obtain ⟨hk,e⟩:=xF h hh
    rw[← e]; exact hp _ (List.getElem_mem hk)
  · rw[oG (Bool.eq_false_iff.2 hh)]; exact h0
theorem aGy {s:Sta} (h:RightP s) (u:ByteArray):tV (ofU s.usr u)=true∧∀ y∈ofU s.usr u,eD s y=true:=by
  have:=aH2 (u:=u) (p:=fun x=>tV x.2=true∧∀ y∈x.2,eD s y=true) h.usr (fun x hx=>(oF.1 (h.uok x hx)).2) ⟨rfl,by simp⟩
  exact this
theorem aUd {l:List bO} {x y:bO} (h:y∈jE l x):y=x∨y∈l:=by
  unfold jE at h
  split at h
  · exact .inr h
  · exact List.mem_cons.1 ((hY x l).mem_iff.1 h)
theorem aC4 {s:Sta} {t:Int} {opn':List Se} {e:Se} (h:RightP s) (ht:s.now≤t) (ht1:t<1099511627776) (he:e∈s.opn) (hr:fU opn'=true) (hl:∀ x∈opn',x.2.2≤t)
    (hb:∀ x∈opn',(x∈s.opn∧x.1.1≠e.1.1)∨t≤x.2.2):RightP ⟨t,s.hor,opn',kH s.usr e.1.2 (eW e t),s.sub,s.tmb⟩:=by
  obtain ⟨g1,g2,g3,g4,g5,g6,g7⟩:=aGp h he
  have hold:∀ y,eD s y=true→eD ⟨t,s.hor,opn',kH s.usr e.1.2 (eW e t),s.sub,s.tmb⟩ y=true:=fun y hy=>by
    obtain ⟨a1,a2,a3,a4⟩:=mP.1 hy
    refine mP.2 ⟨fun x hx hn=>?_,a2,Int.le_trans a3 ht,a4⟩
    rcases hb x hx with ⟨h1,_⟩ | h1
    · exact a1 x h1 hn
    · exact Int.le_trans a3 (Int.le_trans ht h1)
  have hold2:∀ x,lA s x=true→lA ⟨t,s.hor,opn',kH s.usr e.1.2 (eW e t),s.sub,s.tmb⟩ x=true:=fun x hx=>by
    obtain ⟨a1,a2,a3⟩:=oF.1 hx
    exact oF.2 ⟨a1,a2,fun y hy=>hold y (a3 y hy)⟩
  have hmem:∀ x∈kH s.usr e.1.2 (eW e t),x∈s.usr∨(e.2.2<t∧x=(e.1.2,jE (ofU s.usr e.1.2) (eW e t))):=fun x hx=>by
    unfold kH at hx
    split at hx
    · exact .inl hx
    · rename_i hlt
      rcases jT.1 hx with ⟨hx,_⟩ | hx
      · exact .inl hx
      · unfold nA at hx
        split at hx
        · cases hx
        · exact .inr ⟨Int.not_le.1 hlt,List.mem_singleton.1 hx⟩
  refine⟨Int.le_trans h.n0 ht,ht1,h.h0,h.h1,hr,hl,fun x hx=>?_,?_,fun x hx=>?_,h.sub,fun y hy=>?_,h.tnm,h.tmb,fun x hx=>?_⟩
  · rcases hmem x hx with hx | ⟨_,rfl⟩
    · exact h.unm x hx
    · exact g1
  · show dG cM (kH s.usr e.1.2 (eW e t))
    unfold kH
    split
    · exact h.usr
    · exact rU h.usr
  · rcases hmem x hx with hx | ⟨hlt,rfl⟩
    · exact hold2 x (h.uok x hx)
    · obtain ⟨q1,q2⟩:=aGy h e.1.2
      refine oF.2 ⟨fun e0=>?_,?_,fun y hy=>?_⟩
      · have h1:=aEf (ofU s.usr e.1.2) (eW e t)
        simp only at e0
        rw[jE,if_neg (show ¬ (eW e t).1.2≤(eW e t).1.1 from Int.not_le.2 hlt)] at e0
        rw[e0] at h1; simp at h1
      · show tV (jE (ofU s.usr e.1.2) (eW e t))=true
        rw[ris_add q1,Bool.not_eq_true',List.any_eq_false]
        intro y hy hye
        simp only[decide_eq_true_eq] at hye
        have:=(mP.1 (q2 y hy)).1 e he (by rw[hye]; rfl)
        rw[hye] at this
        exact absurd hlt (Int.not_lt.2 this)
      · rcases aUd hy with rfl | hy
        · refine mP.2 ⟨fun x hx hn=>?_,g6,Int.le_refl _,g2,g3,g4,g5⟩
          rcases hb x hx with ⟨_,h1⟩ | h1
          · exact absurd hn h1
          · exact h1
        · exact hold y (q2 y hy)
  · obtain ⟨a,b,c⟩:=fW.1 (h.sok y hy)
    exact fW.2 ⟨a,Int.le_trans b ht,c.imp (fun c=>Int.le_trans c ht) id⟩
  · obtain ⟨a,b⟩:=jY.1 (h.tok x hx)
    exact jY.2 ⟨a,Int.le_trans b ht⟩
theorem pN {s s':Sta} (h:RightP s) (ht:s.now≤s'.now) (ht1:s'.now<1099511627776) (h0:0≤s'.hor) (h1:s'.hor<1099511627776) (hr:fU s'.opn=true) (hl:∀ x∈s'.opn,x.2.2≤s'.now)
    (hb:∀ x∈s'.opn,x∈s.opn∨s.now≤x.2.2) (hu:∀ x∈s'.usr,x∈s.usr) (hu2:dG cM s'.usr) (hs:qQ s'.sub=true) (hs2:∀ e∈s'.sub,jG s' e=true) (htm:dG dH s'.tmb) (htm2:∀ x∈s'.tmb,x∈s.tmb∨(cK x.1=true∧0≤x.2∧x.2≤s'.now)):RightP s':=by
  have hold:∀ y,eD s y=true→eD s' y=true:=fun y hy=>by
    obtain ⟨a1,a2,a3,a4⟩:=mP.1 hy
    refine mP.2 ⟨fun x hx hn=>?_,a2,Int.le_trans a3 ht,a4⟩
    rcases hb x hx with h1 | h1
    · exact a1 x h1 hn
    · exact Int.le_trans a3 h1
  refine⟨Int.le_trans h.n0 ht,ht1,h0,h1,hr,hl,fun x hx=>h.unm x (hu x hx),hu2,fun x hx=>?_,hs,hs2,fun x hx=>?_,htm,fun x hx=>?_⟩
  · obtain ⟨a1,a2,a3⟩:=oF.1 (h.uok x (hu x hx))
    exact oF.2 ⟨a1,a2,fun y hy=>hold y (a3 y hy)⟩
  · rcases htm2 x hx with h2 | h2
    · exact h.tnm x h2
    · exact h2.1
  · rcases htm2 x hx with h2 | h2
    · obtain ⟨a,b⟩:=jY.1 (h.tok x h2)
      exact jY.2 ⟨a,Int.le_trans b ht⟩
    · exact jY.2 h2.2
theorem zU {s:Sta} (h:RightP s) {t:Int} (ht:s.now≤t) {u:List Us} {o:List Se} {hr:Int} {tm:List Tm}:∀ e∈s.sub,jG ⟨t,hr,o,u,s.sub,tm⟩ e=true:=fun e he=>by
  obtain ⟨a,b,c⟩:=fW.1 (h.sok e he)
  exact fW.2 ⟨a,Int.le_trans b ht,c.imp (fun c=>Int.le_trans c ht) id⟩
theorem aDn {s:Sta} (h:RightP s):aUh s.sub s.now:=by
  refine⟨h.sub,fun e he=>?_⟩
  obtain ⟨a,b,c⟩:=fW.1 (h.sok e he)
  have:=((pO _).1 h.sub).1 e he
  simp only[okE,Bool.and_eq_true,decide_eq_true_eq] at this
  exact⟨b,c.symm,jW this.2.1,jW this.2.2⟩
theorem ev_at {e:Ev} (h:cH e=true):0≤e.at'∧e.at'<1099511627776:=by
  simp only[cH,Bool.and_eq_true,decide_eq_true_eq] at h
  exact⟨h.1,h.2.1⟩
theorem sE {e:Ev} (h:cH e=true):(e.kind=1∧eH e=true∧1≤e.st∧e.st≤4)∨(e.kind=2∧eH e=true∧1≤e.st∧e.st≤4)∨(e.kind=3∧eH e=true∧e.st=0)∨(e.kind=4∧cK e.user=true∧cK e.other=true∧e.n=0∧e.st=0)∨(e.kind=5∧cK e.user=true∧cK e.other=true∧e.n=0∧e.st=0)∨(e.kind=6∧e.user=bs0∧e.other=bs0∧e.st=0∧0≤e.n∧e.n<1099511627776)∨(e.kind=7∧cK e.user=true∧e.other=bs0∧e.n=0∧e.st=0):=by
  simp only[cH,Bool.and_eq_true,decide_eq_true_eq] at h
  obtain ⟨_,_,h⟩:=h
  split at h
  · rename_i hk
    simp only[Bool.and_eq_true,decide_eq_true_eq] at h
    rcases hk with hk | hk
    · exact .inl ⟨hk,h⟩
    · exact .inr (.inl ⟨hk,h⟩)
  · split at h
    · rename_i hk
      simp only[Bool.and_eq_true,decide_eq_true_eq] at h
      exact .inr (.inr (.inl ⟨hk,h⟩))
    · split at h
      · rename_i hk
        simp only[Bool.and_eq_true,decide_eq_true_eq] at h
        rcases hk with hk | hk
        · exact .inr (.inr (.inr (.inl ⟨hk,h⟩)))
        · exact .inr (.inr (.inr (.inr (.inl ⟨hk,h⟩))))
      · split at h
        · rename_i hk
          simp only[Bool.and_eq_true,decide_eq_true_eq] at h
          exact .inr (.inr (.inr (.inr (.inr (.inl ⟨hk,h⟩)))))
        · split at h
          · rename_i hk
            simp only[Bool.and_eq_true,decide_eq_true_eq] at h
            exact .inr (.inr (.inr (.inr (.inr (.inr ⟨hk,h⟩)))))
          · cases h
theorem uG {e:Ev}:eH e=true↔1≤e.n∧e.n≤999∧cK e.user=true∧e.other=bs0:=by
  simp only[eH,Bool.and_eq_true,decide_eq_true_eq]
theorem aEr {l:List Se} {n:Int} {u:ByteArray} (h:fJ l n u=0):∃ pre e post,l=pre++e::post∧e.1=(n,u)∧xK l n=e∧(∀ st t,tY l n st t=pre++(e.1,(st,t))::post)∧tE l n=pre++post:=by
  obtain ⟨k,hk,ek,h1,h2,h3⟩:=aIm h
  refine⟨l.take k,l[k],l.drop (k+1),?_,?_,?_,fun st t=>?_,?_⟩
  · rw[← List.drop_eq_getElem_cons hk,List.take_append_drop]
  · exact Prod.ext (by simpa [isN] using h1) h2
  · exact(oX n u 0 0 l k hk h3 h1).2.1
  · rw[(oX n u st t l k hk h3 h1).2.2.2.1,List.set_eq_take_append_cons_drop,if_pos hk]
  · exact(oX n u 0 0 l k hk h3 h1).2.2.2.2
theorem aQb {pre post:List Se} {e:Se} (h:fU (pre++e::post)=true):fU (pre++post)=true∧∀ x∈pre++post,x∈pre++e::post∧x.1.1≠e.1.1:=by
  obtain ⟨⟨h1,h2⟩,h3⟩:=(iO _).1 h
  have hm:∀ x∈pre++post,x∈pre++e::post:=fun x hx=>by
    rcases List.mem_append.1 hx with hx | hx
    · exact List.mem_append_left _ hx
    · exact List.mem_append_right _ (List.mem_cons_of_mem _ hx)
  obtain ⟨p1,p2,p3⟩:=List.pairwise_append.1 h2
  obtain ⟨p4,p5⟩:=List.pairwise_cons.1 p2
  refine⟨(iO _).2 ⟨⟨fun x hx=>h1 x (hm x hx),List.pairwise_append.2 ⟨p1,p5,fun a ha b hb=>p3 a ha b (List.mem_cons_of_mem _ hb)⟩⟩,by simp only[List.length_append,List.length_cons] at h3 ⊢; omega⟩,fun x hx=>⟨hm x hx,?_⟩⟩
  rcases List.mem_append.1 hx with hx | hx
  · have:=p3 x hx e (by simp); omega
  · have:=p4 x hx; omega
theorem chg_ris {pre post:List Se} {e e':Se} (h:fU (pre++e::post)=true) (he:fG e'=true) (hn:e'.1.1=e.1.1):fU (pre++e'::post)=true:=by
  obtain ⟨⟨h1,h2⟩,h3⟩:=(iO _).1 h
  obtain ⟨p1,p2,p3⟩:=List.pairwise_append.1 h2
  obtain ⟨p4,p5⟩:=List.pairwise_cons.1 p2
  refine(iO _).2 ⟨⟨fun x hx=>?_,List.pairwise_append.2 ⟨p1,List.pairwise_cons.2 ⟨fun b hb=>by rw[hn]; exact p4 b hb,p5⟩,fun a ha b hb=>?_⟩⟩,by simp only[List.length_append,List.length_cons] at h3 ⊢; omega⟩
  · rcases List.mem_append.1 hx with hx | hx
    · exact h1 x (List.mem_append_left _ hx)
    · rcases List.mem_cons.1 hx with rfl | hx
      · exact he
      · exact h1 x (List.mem_append_right _ (List.mem_cons_of_mem _ hx))
  · rcases List.mem_cons.1 hb with rfl | hb
    · rw[hn]; exact p3 a ha e (by simp)
    · exact p3 a ha b (List.mem_cons_of_mem _ hb)
theorem aJs {l:List Se} (q:Se→Bool) (h:fU l=true):fU (l.filter q)=true:=by
  obtain ⟨⟨h1,h2⟩,h3⟩:=(iO _).1 h
  exact(iO _).2 ⟨⟨fun x hx=>h1 x (List.mem_filter.1 hx).1,h2.filter q⟩,Nat.le_trans (List.length_filter_le _ _) h3⟩
theorem rS {l:List Tm} {u:ByteArray} {t:Int} (h:dG dH l):dG dH (mL l u t):=yG h (by simp) (by simp)
theorem aOn {s:Sta} {e:Ev} (h:RightP s) (he:cH e=true) (ht:s.now≤e.at') (h0:(bL s e).2=0):RightP { (bL s e).1 with now:=e.at' }:=by
  obtain ⟨t0,t1⟩:=ev_at he
  rcases sE he with ⟨hk,hs,s1,s2⟩ | ⟨hk,hs,s1,s2⟩ | ⟨hk,hs,s1⟩ | ⟨hk,r1,r2,n0,s0⟩ | ⟨hk,r1,r2,n0,s0⟩ | ⟨hk,r1,r2,s0,n0,n1⟩ | ⟨hk,r1,r2,n0,s0⟩
  · obtain ⟨m1,m2,m3,m4⟩:=uG.1 hs
    rw[bL,if_pos hk] at h0 ⊢
    simp only at h0 ⊢
    rw[show oS s.opn ((e.n,e.user),(e.st,e.at'))=yO s.opn ((e.n,e.user),(e.st,e.at')) from if_pos h0]
    have hm:∀ x∈yO s.opn ((e.n,e.user),(e.st,e.at')),x=((e.n,e.user),(e.st,e.at'))∨x∈s.opn:=fun x hx=>yT.1 hx
    have h1:fU [((e.n,e.user),(e.st,e.at'))]=true:=(iO _).2 ⟨⟨fun x hx=>by rw[List.mem_singleton.1 hx]; exact zY.2 ⟨m3,m1,m2,s1,s2,t0,by show e.at'≤_; omega⟩,List.pairwise_singleton _ _⟩,by simp⟩
    refine pN h ht t1 h.h0 h.h1 (opn_ris h.opn h1 h0) (fun x hx=>?_) (fun x hx=>?_) (fun _ hx=>hx) h.usr h.sub (zU h ht) h.tmb (fun _ hx=>.inl hx)
    · rcases hm x hx with rfl | hx
      · exact Int.le_refl _
      · exact Int.le_trans (h.late x hx) ht
    · rcases hm x hx with rfl | hx
      · exact .inr ht
      · exact .inl hx
  · obtain ⟨m1,m2,m3,m4⟩:=uG.1 hs
    rw[bL,if_neg (by omega),if_pos hk] at h0 ⊢
    simp only at h0 ⊢
    obtain ⟨pre,x,post,e1,e2,e3,e4,e5⟩:=aEr h0
    have hx:x∈s.opn:=by rw[e1]; simp
    have hn:x.1.1=e.n∧x.1.2=e.user:=by rw[e2]; exact⟨rfl,rfl⟩
    have hr:=h.opn
    rw[e1] at hr
    obtain ⟨q1,q2⟩:=aQb hr
    rw[show oW s.opn e.n e.user e.st e.at'=pre++(x.1,(e.st,e.at'))::post from by rw[oW,if_pos h0,e4],show stR s.opn e.n e.user e.at'=eW x e.at' from by rw[stR,if_pos h0,e3],← hn.2]
    have hm:∀ y∈pre++(x.1,(e.st,e.at'))::post,y=(x.1,(e.st,e.at'))∨y∈pre++post:=fun y hy=>by
      rcases List.mem_append.1 hy with hy | hy
      · exact .inr (List.mem_append_left _ hy)
      · rcases List.mem_cons.1 hy with hy | hy
        · exact .inl hy
        · exact .inr (List.mem_append_right _ hy)
    refine aC4 h ht t1 hx (chg_ris hr (zY.2 ⟨by show cK x.1.2=true; rw[hn.2]; exact m3,by show 1≤x.1.1; omega,by show x.1.1≤999; omega,s1,s2,t0,by show e.at'≤_; omega⟩) rfl) (fun y hy=>?_) (fun y hy=>?_)
    · rcases hm y hy with rfl | hy
      · exact Int.le_refl _
      · exact Int.le_trans (h.late y (by rw[e1]; exact(q2 y hy).1)) ht
    · rcases hm y hy with rfl | hy
      · exact .inr (Int.le_refl _)
      · exact .inl ⟨by rw[e1]; exact(q2 y hy).1,(q2 y hy).2⟩
  · rw[bL,if_neg (by omega),if_neg (by omega),if_pos hk] at h0 ⊢
    simp only at h0 ⊢
    obtain ⟨pre,x,post,e1,e2,e3,e4,e5⟩:=aEr h0
    have hx:x∈s.opn:=by rw[e1]; simp
    have hn:x.1.2=e.user:=by rw[e2]
    have hr:=h.opn
    rw[e1] at hr
    obtain ⟨q1,q2⟩:=aQb hr
    rw[show oJ s.opn e.n e.user=pre++post from by rw[oJ,if_pos h0,e5],show stR s.opn e.n e.user e.at'=eW x e.at' from by rw[stR,if_pos h0,e3],← hn]
    exact aC4 h ht t1 hx q1 (fun y hy=>Int.le_trans (h.late y (by rw[e1]; exact(q2 y hy).1)) ht) (fun y hy=>.inl ⟨by rw[e1]; exact(q2 y hy).1,(q2 y hy).2⟩)
  · rw[bL,if_neg (by omega),if_neg (by omega),if_neg (by omega),if_pos hk] at h0 ⊢
    simp only at h0 ⊢
    have hon:¬ onB s.sub (e.user,e.other)=true:=fun hh=>by rw[if_pos hh] at h0; omega
    rw[if_neg hon]
    have hg:=aG4 (p:=(e.user,e.other)) (aDn h) ht t1 r1 r2 (jW r1) (jW r2)
    rw[aPy,if_neg hon] at hg
    refine pN h ht t1 h.h0 h.h1 h.opn (fun x hx=>Int.le_trans (h.late x hx) ht) (fun _ hx=>.inl hx) (fun _ hx=>hx) h.usr hg.1 (fun y hy=>fW.2 ⟨?_,(hg.2 y hy).1,(hg.2 y hy).2.1.symm⟩) h.tmb (fun _ hx=>.inl hx)
    rcases uU.1 hy with rfl | hy
    · exact t0
    · exact(fW.1 (h.sok y hy)).1
  · rw[bL,if_neg (by omega),if_neg (by omega),if_neg (by omega),if_neg (by omega),if_pos hk] at h0 ⊢
    simp only at h0 ⊢
    have hon:onB s.sub (e.user,e.other)=true:=by
      by_cases hh:onB s.sub (e.user,e.other)=true
      · exact hh
      · rw[if_neg hh] at h0; omega
    rw[if_pos hon]
    have hg:=aG4 (p:=(e.user,e.other)) (aDn h) ht t1 r1 r2 (jW r1) (jW r2)
    rw[aPy,if_pos hon] at hg
    refine pN h ht t1 h.h0 h.h1 h.opn (fun x hx=>Int.le_trans (h.late x hx) ht) (fun _ hx=>.inl hx) (fun _ hx=>hx) h.usr hg.1 (fun y hy=>fW.2 ⟨?_,(hg.2 y hy).1,(hg.2 y hy).2.1.symm⟩) h.tmb (fun _ hx=>.inl hx)
    rcases yI hy with hy | ⟨z,hz,_,_,rfl⟩
    · exact(fW.1 (h.sok y hy)).1
    · exact(fW.1 (h.sok z hz)).1
  · rw[bL,if_neg (by omega),if_neg (by omega),if_neg (by omega),if_neg (by omega),if_neg (by omega),if_pos hk] at h0 ⊢
    have:=h.h0
    have:=h.h1
    exact pN h ht t1 (by show 0≤max s.hor e.n; omega) (by show max s.hor e.n<_; omega) h.opn (fun x hx=>Int.le_trans (h.late x hx) ht) (fun _ hx=>.inl hx) (fun _ hx=>hx) h.usr h.sub (zU h ht) h.tmb (fun _ hx=>.inl hx)
  · rw[bL,if_neg (by omega),if_neg (by omega),if_neg (by omega),if_neg (by omega),if_neg (by omega),if_neg (by omega)] at h0 ⊢
    refine pN h ht t1 h.h0 h.h1 (aJs _ h.opn) (fun x hx=>Int.le_trans (h.late x (List.mem_filter.1 hx).1) ht) (fun x hx=>.inl (List.mem_filter.1 hx).1) (fun x hx=>?_) (rU h.usr) (aJt _ h.sub) (fun y hy=>zU (o:=[]) (u:=[]) (hr:=0) (tm:=[]) h ht y (List.mem_filter.1 hy).1) (rS h.tmb) (fun x hx=>?_)
    · rcases jT.1 hx with hx | hx
      · exact hx.1
      · unfold nA at hx; rw[if_pos rfl] at hx; cases hx
    · rcases jT.1 hx with hx | hx
      · exact .inl hx.1
      · rw[List.mem_singleton.1 hx]; exact .inr ⟨r1,t0,Int.le_refl _⟩
theorem rH {s:Sta} {e:Ev} (h:RightP s) (h0:(cG s e).2=0):RightP (cG s e).1:=by
  unfold cG at h0 ⊢
  split at h0
  · rename_i he
    rw[if_pos he]
    split at h0
    · simp at h0
    · rename_i ht
      rw[if_neg ht]
      split at h0
      · rename_i h2
        rw[if_pos h2]
        exact aOn h he (Int.not_lt.1 ht) h2
      · rename_i h2; exact absurd h0 h2
  · simp at h0
theorem eQ:RightP aJ:=iP.1 (by decide)
theorem aT9 (l:List Us) (u:ByteArray) (x:bO) (h:dG cM l):(kH l u x).length≤l.length+1:=by
  unfold kH; split
  · omega
  · have e:=(pC (u:=u) h).1
    have e2:=congrArg List.length e
    have:=@aDk u (jE (ofU l u) x)
    simp only[kP,zR,List.length_append] at *
    omega
end Go.Abs
set_option linter.unusedVariables false
set_option linter.unusedSimpArgs false
namespace Go.Abs
open Go
theorem aI5 (a b:Int):IntKind.i64.wrap (IntKind.i64.wrap a+b)=IntKind.i64.wrap (a+b):=by
  rw[IntKind.wrap_i64,IntKind.wrap_i64,IntKind.wrap_i64]; omega
theorem aA8 {l:List Us} {k:Nat} (hk:k<l.length):fA (l.take (k+1))=fA (l.take k)+l[k].2.length:=by
  rw[fA,fA,pM l _ k hk,List.sum_append]; simp
theorem lenlt {α β:Type} {p:α→Bool} {l:List α} (f:α→β):decide ((((l.filter fun x=>!p x).map f).length:Nat)<(((l.map f).length:Nat):Int))=l.any p:=by
  rw[Bool.eq_iff_iff]
  simp only[List.length_map,decide_eq_true_eq,List.any_eq_true]
  have h1:=List.length_filter_le (fun x=>!p x) l
  constructor
  · intro h
    by_cases hn:∃ x∈l,p x=true
    · exact hn
    · exfalso
      have:l.filter (fun x=>!p x)=l:=List.filter_eq_self.2 fun x hx=>by
        cases hp:p x with
        | false=>rfl
        | true=>exact absurd ⟨x,hx,hp⟩ hn
      rw[this] at h; omega
  · rintro ⟨x,hx,hp⟩
    have h2:(l.filter fun x=>!p x).length≠l.length:=fun e=>by
      have:=List.filter_eq_self.1 (List.Sublist.eq_of_length (List.filter_sublist) e) x hx
      simp [hp] at this
    omega
theorem yE {a b:Sta}:a=b↔a.now=b.now∧a.hor=b.hor∧a.opn=b.opn∧a.usr=b.usr∧a.sub=b.sub∧a.tmb=b.tmb:=by
  cases a; cases b; simp only[Sta.mk.injEq]
theorem cA {a:ByteArray}:a.toList=[]↔a=bs0:=by
  have:bs0.toList=[]:=by rw[nY]
  rw[← this,toList_inj]
theorem has_not {α:Type} {key:α→ByteArray} {l:List α} {u:ByteArray}:iG key (l.filter fun x=>!isK key u x) u=false:=by
  rw[iG,List.any_eq_false]
  intro x hx
  have:=(List.mem_filter.1 hx).2
  simpa using this
theorem aJd {l:List Tm} {u:ByteArray} {t:Int} (h:dG dH l):(l.filter fun x=>!isK dH u x).take (dM dH (l.filter fun x=>!isK dH u x) u)++(u,t)::(l.filter fun x=>!isK dH u x).drop (dM dH (l.filter fun x=>!isK dH u x) u)=mL l u t:=by
  rw[aP0 (key:=dH) (gW h _) has_not,mL]
  refine lJ (key:=dH) (yG (gW h _) (by simp) (by simp)) (yG h (by simp) (by simp)) fun x=>?_
  rw[jT,jT,List.mem_filter]
  simp only[isK,Bool.not_eq_true',decide_eq_false_iff_not]
  constructor
  · rintro (⟨⟨a,_⟩,b⟩ | a)
    · exact .inl ⟨a,b⟩
    · exact .inr a
  · rintro (⟨a,b⟩ | a)
    · exact .inl ⟨⟨a,b⟩,b⟩
    · exact .inr a
theorem aQq {l:List Tm} {u:ByteArray} {t:Int} (h:dG dH l):((l.filter fun x=>!isK dH u x).map tmC).take (dM dH (l.filter fun x=>!isK dH u x) u)++[.s (.string u),.s (.int .i64 t)]::((l.filter fun x=>!isK dH u x).map tmC).drop (dM dH (l.filter fun x=>!isK dH u x) u)=(mL l u t).map tmC:=by
  rw[← aJd h]
  simp only[List.map_append,List.map_cons,List.map_take,List.map_drop]; rfl
theorem aJc {l:List Tm} {u:ByteArray} {t:Int}:(mL l u t).length≤l.length+1:=by
  have:(mL l u t).length=(l.filter (loK dH u)).length+((l.filter (hiK dH u)).length+1):=by simp [mL,zR]
  have h2:(l.filter (loK dH u)).length+(l.filter (hiK dH u)).length≤l.length:=by
    induction l with
    | nil=>simp
    | cons x l ih =>
      simp only[List.filter_cons]
      have:¬ (loK dH u x=true∧hiK dH u x=true):=by
        rintro ⟨a,b⟩
        simp only[loK,hiK,decide_eq_true_eq] at a b
        omega
      have ih:=ih (by simp [mL,zR])
      by_cases a:loK dH u x=true <;> by_cases b:hiK dH u x=true <;> simp [a,b] <;> first | omega | exact absurd ⟨a,b⟩ this
  omega
theorem erU {s:Sta} {u:ByteArray} {t:Int} (hr:dG cM s.usr):(s.usr.filter fun x=>!isK cM u x)=(fO s u t).usr:=by
  show _=kP s.usr u []
  rw[kP,nA,if_pos rfl]
  exact aJn hr u
theorem erUl {s:Sta} {u:ByteArray} {t:Int} (hr:dG cM s.usr):(s.usr.filter fun x=>!isK cM u x).length=((fO s u t).usr.map usC).length:=by rw[List.length_map,erU hr]
theorem erTl {l:List Tm} {u:ByteArray} {t:Int} (h:dG dH l):(l.filter fun x=>!isK dH u x).length+1=((mL l u t).map tmC).length:=by
  have hp:=yN (key:=dH) (l.filter fun x=>!isK dH u x) u
  rw[← aJd h,List.length_map,List.length_append,List.length_cons,List.length_take,List.length_drop]
  omega
theorem fZ {P:Program} {t:TypeId} {k:IntKind} {a b:Int} (h:a≠b):oQ P .eql t (.int k a) (.int k b)=some (.bool false):=by
  simp [oQ,wJ,h]
theorem aSv {l:List Us} {u:ByteArray} (h:dG cM l):(kP l u []).length≤l.length:=by
  have e:kP l u []=l.filter fun x=>!isK cM u x:=by rw[kP,nA,if_pos rfl]; exact(aJn h u).symm
  rw[e]; exact List.length_filter_le _ _
theorem erSz {n m:Nat} {s:Sta} {u:ByteArray} {t:Int} (hz:SzS n s) (hr:dG cM s.usr) (hm:n+24≤m):SzS m (fO s u t):=by
  have h1:=List.length_filter_le (fun e=>!oI u e) s.opn
  have h2:=List.length_filter_le (fun e=>!lV u e) s.sub
  have h3:=aSv (u:=u) hr
  have h4:=aJc (l:=s.tmb) (u:=u) (t:=t)
  have z1:=hz.o
  have z2:=hz.u
  have z3:=hz.b
  have z4:=hz.t
  refine⟨?_,?_,?_,?_,fun x hx=>?_⟩
  · show (s.opn.filter fun e=>!oI u e).length*40≤m
    omega
  · show (kP s.usr u []).length*40≤m
    omega
  · show (s.sub.filter fun e=>!lV u e).length*48≤m
    omega
  · show (mL s.tmb u t).length*24≤m
    omega
  · have hx':x∈kP s.usr u []:=hx
    rcases jT.1 hx' with ⟨hx',_⟩ | hx'
    · have:=hz.y x hx'; omega
    · unfold nA at hx'; rw[if_pos rfl] at hx'; cases hx'
theorem aUa {n m:Nat} {s:Sta} {u:ByteArray} {x:bO} (hz:SzS n s) (hr:dG cM s.usr) (hm:n+40≤m):SzS m (dZ s u x):=by
  have z1:=hz.o
  have z2:=hz.u
  have z3:=hz.b
  have z4:=hz.t
  have q:=aT9 s.usr u x hr
  refine⟨by show s.opn.length*40≤m; omega,by show (kH s.usr u x).length*40≤m; omega,by show s.sub.length*48≤m; omega,by show s.tmb.length*24≤m; omega,fun y hy=>?_⟩
  have hy':y∈kH s.usr u x:=hy
  unfold kH at hy'
  split at hy'
  · have:=hz.y y hy'; omega
  · rcases jT.1 hy' with ⟨hy',_⟩ | hy'
    · have:=hz.y y hy'; omega
    · unfold nA at hy'
      split at hy'
      · cases hy'
      · rw[List.mem_singleton.1 hy']
        have h1:(ofU s.usr u).length*32≤n:=aH2 (p:=fun x=>x.2.length*32≤n) hr hz.y (by simp)
        have h2:=zF (ofU s.usr u) x
        show (jE (ofU s.usr u) x).length*32≤m
        omega
theorem aE4 {l:List Us} {u:ByteArray} {x:bO} (h:dG cM l):dG cM (kH l u x):=by
  unfold kH; split
  · exact h
  · exact rU h
def oB (s:Sta) (k:Nat):Sta:={ s with usr:=xB s (s.opn.take k) s.usr }
theorem zW {s:Sta} {k:Nat} (hk:k<s.opn.length):oB s (k+1)=dZ (oB s k) s.opn[k].1.2 (eW s.opn[k] s.now):=by
  unfold oB xB dZ
  rw[wW s.opn _ _ k hk]
theorem aDo {s:Sta} (h:dG cM s.usr):∀ (k:Nat),k≤s.opn.length→dG cM (oB s k).usr
  | 0,_=>h
  | k+1,hk=>by rw[zW (by omega)]; exact aE4 (aDo h k (by omega))
theorem aHv {n:Nat} {s:Sta} (hz:SzS n s) (h:dG cM s.usr):∀ (k:Nat),k≤s.opn.length→SzS (n+40*k) (oB s k)
  | 0,_=>hz.mono (by omega)
  | k+1,hk=>by rw[zW (by omega)]; exact aUa (aHv hz h k (by omega)) (aDo h k (by omega)) (by omega)
theorem qX {l:List Us} {h:Int} {k:Nat} (hk:k<l.length):lK h (l.take (k+1))=lK h (l.take k)++nA l[k].1 (mW h l[k].2):=sR l _ k hk
theorem xE (h:Int):∀ (l:List Us),(lK h l).length≤l.length
  | []=>Nat.le_refl _
  | x::l=>by
    have:=xE h l
    have h2:=@aDk x.1 (mW h x.2)
    simp only[lK,List.flatMap_cons,List.length_append,List.length_cons] at *
    omega
theorem aRv (e:Se) (t:Int):oJ [e] e.1.1 e.1.2=[]∧stR [e] e.1.1 e.1.2 t=eW e t∧fJ [e] e.1.1 e.1.2=0:=by
  have hc:fJ [e] e.1.1 e.1.2=0:=by simp [fJ,isN]
  exact⟨by rw[oJ,if_pos hc]; simp [tE,isN],by rw[stR,if_pos hc]; simp [xK,isN],hc⟩
theorem aQ2 {w:World} {p:Hp} {v:Value} {k:Nat} {a b c d e:AV} (h:RelV w p (.agg [a,b,.s (.slice none 0 0),c,d,e]) v):RelV w p (.agg [a,b,.sl k [],c,d,e]) v:=by
  cases h with
  | agg _ vs hl h =>
    refine .agg _ _ hl fun i c' v hc hv=>?_
    match i,hc with
    | 0,hc=>exact h 0 _ v hc hv
    | 1,hc=>exact h 1 _ v hc hv
    | 2,hc=>cases hc; have:=h 2 _ v rfl hv; cases this; exact .sln k none 0 (by simp [maxLen])
    | 3,hc=>exact h 3 _ v hc hv
    | 4,hc=>exact h 4 _ v hc hv
    | 5,hc=>exact h 5 _ v hc hv
end Go.Abs
set_option linter.unusedVariables false
set_option linter.unusedSimpArgs false
namespace Go.Proofs.YtijnkglkchhomaaGreat
open Go Go.Abs
theorem aAs (s:Sta) (u:ByteArray) (t:Int) (hz:SzS 140737488353280 s) (ho:s.opn.length≤50) (hr:dG cM s.usr) :Den Tryz.prog 30 [.agg (aL s),.s (.string u),.s (.int .i64 t)]  (·=.sl 4 ((aC6 s u t).map stC)):=by
 have z1:=hz.o
 have z2:=hz.u
 have hlm:(s.usr.map usC).length=s.usr.length:=List.length_map _
 have hpl:=yN (key:=cM) s.usr u
 have hsl:=aQs s.opn u t
 have hou:(ofU s.usr u).length*32≤140737488353280:=aH2 (p:=fun x=>x.2.length*32≤140737488353280) hr hz.y (by simp)
 refine aY Tryz.func30 rfl (Nat.le_of_ble_eq_true rfl) (fun w0 A hf=>(aC (fun K1 hK1=>(aB (aN hf rfl (cS rfl rfl (lf rfl)) (aI rfl (bX) (aD (hK1 _ (aC (fun K2 hK2=>(aB (aI rfl (aD0 (k:=4)) (aD (hK2 _ (aC (fun K3 hK3=>?_))))))))))))))))
 refine aC (fun K4 hK4=>(aB (aE aA 3 rfl (aN hf rfl (aP rfl rfl xS rfl (wV s.usr u (by omega) hr)) (aE aA 5 rfl (aD (hK4 _ (aC (fun K5 hK5=>(aB (aE aA 1 rfl (aD (hK5 _ (aO rfl (fun hc1=>?_) (fun hc1=>?_)))))))))))))))
 ·
  obtain ⟨hk0,he⟩:=xF hr (show iG cM s.usr u=true by assumption)
  refine aB (aE aA 3 rfl (aI rfl (bJ rfl rfl eC cV (gQ (k:=dM cM s.usr u) (by omega) hk0)) (aE aA 2 rfl (aN hf rfl (aP rfl rfl tM rfl (cZ (sV s.usr[dM cM s.usr u].2 (by rw[he]; show (ofU s.usr u).length*32≤_; omega)))) ?_))))
  refine aE aA 1 rfl (aD (hK3 _ (aC (fun K6 hK6=>(aC (fun K7 hK7=>(aB (aE aA 4 rfl (aN hf rfl (aP rfl rfl aFc rfl (aAt s.opn u t (by omega))) (aE aA 2 rfl (aD (hK7 _ (aU (bW (ι:=Nat×List bO) (fun(⟨k,out⟩:Nat×List bO)=>⟨42,[(7,.sl 4 (out.map stC)),(31,.sl 4 ((gT s.opn u t).map stC)),(32,.s (.int .i64 (((gT s.opn u t).map stC).length:Nat))),(33,.s (.int .i64 (k:Nat)))],[]⟩) (fun(⟨k,out⟩:Nat×List bO)=>k≤(gT s.opn u t).length∧out=((gT s.opn u t).take k).foldl jE (ofU s.usr u)∧out.length≤(ofU s.usr u).length+k) (fun(⟨k,out⟩:Nat×List bO)=>(gT s.opn u t).length - k) (0,ofU s.usr u) ?_ ?_ ?_))))))))))))))
  · exact⟨Nat.zero_le _,rfl,Nat.le_refl _⟩
  · first | exact jU ⟨(by rw[show (ofU s.usr u)=(s.usr[dM cM s.usr u]).2 from by rw[he]]; rfl),rfl,rfl,rfl,trivial⟩ | exact jU ⟨(by rw[oG hno]; rfl),rfl,rfl,rfl,trivial⟩
  ·
   rintro ⟨k,out⟩ hC
   obtain ⟨h1,h2,h3⟩:=hC
   refine aC (fun K8 hK8=>(aB (aE aA 1 rfl (aD (hK8 _ (aC (fun K9 hK9=>(aO rfl (fun hc2=>?_) (fun hc2=>?_)))))))))
   ·
    simp only[bs] at hc2
    refine aR (hK9 _ (aC (fun K10 hK10=>(aU (aC (fun K11 hK11=>(aB ?_)))))))
    refine aI rfl (bJ rfl rfl cE bB (by first | exact ixm (by omega) | assumption | exact⟨by decide,rfl⟩)) ?_
    refine aE aA 1 rfl (cC hf rfl dX rfl bB rfl rfl rfl rfl (lf rfl) (aD (hK11 _ (aB (aE aA 2 rfl (aN hf rfl (aP rfl rfl xR rfl (aE5 out (gT s.opn u t)[k] (by omega))) (aE aA 1 rfl ?_)))))))
    refine bV ?_
    refine hK10 _ (aB ?_)
    refine aI rfl (bQ rfl rfl (by omega) (by omega)) ?_
    refine aE aA 1 rfl (aD ?_)
    exact⟨(k+1,jE out (gT s.opn u t)[k]),⟨by omega,by rw[wW (gT s.opn u t) jE _ k (by omega),← h2],by have:=zF out (gT s.opn u t)[k]; omega⟩,by simp only; omega,cU rfl⟩
   ·
    simp only[bs] at hc2
    refine bI (hK6 _ (aC (fun K12 hK12=>(aB (aE aA 2 rfl (aD (hK12 _ (aM ?_))))))))
    refine⟨_,rfl,?_⟩
    show AV.sl 4 (out.map stC)=_
    rw[h2,List.take_of_length_le (by omega)]; rfl
 ·
  have hno:iG cM s.usr u=false:=by simp_all
  refine aR (hK3 _ (aC (fun K13 hK13=>(aC (fun K14 hK14=>(aB (aE aA 4 rfl (aN hf rfl (aP rfl rfl aFc rfl (aAt s.opn u t (by omega))) (aE aA 2 rfl (aD (hK14 _ (aU (bW (ι:=Nat×List bO) (fun(⟨k,out⟩:Nat×List bO)=>⟨42,[(7,.sl 4 (out.map stC)),(31,.sl 4 ((gT s.opn u t).map stC)),(32,.s (.int .i64 (((gT s.opn u t).map stC).length:Nat))),(33,.s (.int .i64 (k:Nat)))],[]⟩) (fun(⟨k,out⟩:Nat×List bO)=>k≤(gT s.opn u t).length∧out=((gT s.opn u t).take k).foldl jE (ofU s.usr u)∧out.length≤(ofU s.usr u).length+k) (fun(⟨k,out⟩:Nat×List bO)=>(gT s.opn u t).length - k) (0,ofU s.usr u) ?_ ?_ ?_)))))))))))))
  · exact⟨Nat.zero_le _,rfl,Nat.le_refl _⟩
  · first | exact jU ⟨(by rw[show (ofU s.usr u)=(s.usr[dM cM s.usr u]).2 from by rw[he]]; rfl),rfl,rfl,rfl,trivial⟩ | exact jU ⟨(by rw[oG hno]; rfl),rfl,rfl,rfl,trivial⟩
  ·
   rintro ⟨k,out⟩ hC
   obtain ⟨h1,h2,h3⟩:=hC
   refine aC (fun K15 hK15=>(aB (aE aA 1 rfl (aD (hK15 _ (aC (fun K16 hK16=>(aO rfl (fun hc3=>?_) (fun hc3=>?_)))))))))
   ·
    simp only[bs] at hc3
    refine aR (hK16 _ (aC (fun K17 hK17=>(aU (aC (fun K18 hK18=>(aB ?_)))))))
    refine aI rfl (bJ rfl rfl cE bB (by first | exact ixm (by omega) | assumption | exact⟨by decide,rfl⟩)) ?_
    refine aE aA 1 rfl (cC hf rfl dX rfl bB rfl rfl rfl rfl (lf rfl) (aD (hK18 _ (aB (aE aA 2 rfl (aN hf rfl (aP rfl rfl xR rfl (aE5 out (gT s.opn u t)[k] (by omega))) (aE aA 1 rfl ?_)))))))
    refine bV ?_
    refine hK17 _ (aB ?_)
    refine aI rfl (bQ rfl rfl (by omega) (by omega)) ?_
    refine aE aA 1 rfl (aD ?_)
    exact⟨(k+1,jE out (gT s.opn u t)[k]),⟨by omega,by rw[wW (gT s.opn u t) jE _ k (by omega),← h2],by have:=zF out (gT s.opn u t)[k]; omega⟩,by simp only; omega,cU rfl⟩
   ·
    simp only[bs] at hc3
    refine bI (hK13 _ (aC (fun K19 hK19=>(aB (aE aA 2 rfl (aD (hK19 _ (aM ?_))))))))
    refine⟨_,rfl,?_⟩
    show AV.sl 4 (out.map stC)=_
    rw[h2,List.take_of_length_le (by omega)]; rfl
theorem aRf (s:Sta) (u:ByteArray) (hz:SzS 140737488353280 s) (hr:dG cM s.usr) (hr2:dG dH s.tmb) :Den Tryz.prog 85 [.agg (aL s),.s (.string u)]  (·=.s (.bool (aAe s u))):=by
 have z1:=hz.o
 have z2:=hz.u
 have z3:=hz.b
 have z4:=hz.t
 refine aY Tryz.func85 rfl (Nat.le_of_ble_eq_true rfl) (fun w0 A hf=>(aC (fun K1 hK1=>(aB (aN hf rfl (cS rfl rfl (lf rfl)) (aE aA 1 rfl (aD (hK1 _ (aC (fun K2 hK2=>(aB (aE aA 3 rfl (aN hf rfl (aP rfl rfl xS rfl (wV s.usr u (by omega) hr)) (aE aA 5 rfl (aD ?_)))))))))))))))
 refine hK2 _ (aC (fun K3 hK3=>(aB (aE aA 3 rfl (aN hf rfl (aP rfl rfl aBy rfl (aC2 s.tmb u (by omega) hr2)) (aE aA 5 rfl (aD (hK3 _ (aC (fun K4 hK4=>(dE hf bK (by kernel_rfl) rfl (bC aA 2 rfl (eI 24 false rfl (fun hg1=>?_) (fun hg1=>?_))))))))))))))
 ·
  refine bC aA 3 rfl (eI 27 false rfl (fun hg2=>?_) (fun hg2=>?_))
  ·
   refine bC aA 3 rfl (bT [(29,_),(30,_)] rfl rfl ⟨⟨rfl,rfl⟩,⟨rfl,rfl⟩,trivial⟩ rfl (aP rfl rfl aBx rfl (wL s.opn u (by omega))) (bC aA 4 rfl (bN [(32,_),(35,_)] rfl rfl ⟨⟨rfl,rfl⟩,⟨rfl,rfl⟩,trivial⟩ rfl (eO rfl rfl (show oQ _ _ _ _ _=some (.bool (s.opn.any (oI u))) from by rw[← lenlt seC]; rfl)) ?_)))
   refine bC aA 2 rfl (eI 38 false rfl (fun hg3=>?_) (fun hg3=>?_))
   ·
    refine bC aA 3 rfl (bT [(40,_),(41,_)] rfl rfl ⟨⟨rfl,rfl⟩,⟨rfl,rfl⟩,trivial⟩ rfl (aP rfl rfl aBw rfl (aAq s.sub u (by omega))) (bC aA 4 rfl (bN [(43,_),(46,_)] rfl rfl ⟨⟨rfl,rfl⟩,⟨rfl,rfl⟩,trivial⟩ rfl (eO rfl rfl (show oQ _ _ _ _ _=some (.bool (s.sub.any (lV u))) from by rw[← lenlt enC]; rfl)) ?_)))
    refine bC aA 2 rfl (dC [4] rfl rfl rfl (hK4 _ (aM ?_)))
    refine⟨_,rfl,?_⟩
    refine aQ ?_
    unfold aAe
    generalize iG dH s.tmb u=b1 at *
    generalize iG cM s.usr u=b2 at *
    generalize s.opn.any (oI u)=b3 at *
    generalize s.sub.any (lV u)=b4 at *
    simp_all
   ·
    simp only[bs] at hg3
    refine bC aA 11 rfl (dC [4] rfl rfl rfl (hK4 _ (aM ?_)))
    refine⟨_,rfl,?_⟩
    refine aQ ?_
    unfold aAe
    generalize iG dH s.tmb u=b1 at *
    generalize iG cM s.usr u=b2 at *
    generalize s.opn.any (oI u)=b3 at *
    generalize s.sub.any (lV u)=b4 at *
    simp_all
  ·
   simp only[bs] at hg2
   refine bC aA 22 rfl (dC [4] rfl rfl rfl (hK4 _ (aM ?_)))
   refine⟨_,rfl,?_⟩
   refine aQ ?_
   unfold aAe
   generalize iG dH s.tmb u=b1 at *
   generalize iG cM s.usr u=b2 at *
   generalize s.opn.any (oI u)=b3 at *
   generalize s.sub.any (lV u)=b4 at *
   simp_all
 ·
  simp only[bs] at hg1
  refine bC aA 25 rfl (dC [4] rfl rfl rfl (hK4 _ (aM ?_)))
  refine⟨_,rfl,?_⟩
  refine aQ ?_
  unfold aAe
  generalize iG dH s.tmb u=b1 at *
  generalize iG cM s.usr u=b2 at *
  generalize s.opn.any (oI u)=b3 at *
  generalize s.sub.any (lV u)=b4 at *
  simp_all
theorem kE (s:Sta) (hz:SzS 140737488353280 s) :Den Tryz.prog 41 [.agg (aL s)]  (·=.s (.int .i64 (IntKind.i64.wrap ((dJ s:Nat):Int)))):=by
 have z1:=hz.o
 have z2:=hz.u
 have z3:=hz.b
 have z4:=hz.t
 have y1:(s.opn.map seC).length=s.opn.length:=List.length_map _
 have y2:(s.sub.map enC).length=s.sub.length:=List.length_map _
 have y3:(s.tmb.map tmC).length=s.tmb.length:=List.length_map _
 refine aY Tryz.func41 rfl (Nat.le_of_ble_eq_true rfl) (fun w0 A hf=>(aC (fun K1 hK1=>(aB (aN hf rfl (cS rfl rfl (lf rfl)) (aE aA 1 rfl (aD (hK1 _ (aC (fun K2 hK2=>(aB (aE aA 6 rfl ?_))))))))))))
 refine aI rfl (bQ rfl rfl (by omega) (by omega)) ?_
 refine aE aA 3 rfl ?_
 refine aI rfl (bQ rfl rfl (by omega) (by omega)) ?_
 refine aE aA 1 rfl (aD (hK2 _ (aC (fun K3 hK3=>(aC (fun K4 hK4=>(aB (aE aA 4 rfl (aD (hK4 _ (aU (bW (ι:=Nat) (fun k=>⟨31,[(3,.s (.int .i64 (IntKind.i64.wrap ((s.opn.length+s.sub.length+s.tmb.length+fA (s.usr.take k):Nat):Int)))),(18,.sl 2 (s.usr.map usC)),(19,.s (.int .i64 ((s.usr.map usC).length:Nat))),(20,.s (.int .i64 (k:Nat)))],[]⟩) (fun k=>k≤s.usr.length) (fun k=>s.usr.length - k) 0 ?_ ?_ ?_))))))))))))
 · exact Nat.zero_le _
 · exact jU ⟨(aT (by rw[List.take_zero,show fA []=0 from rfl,wrap_i64 (by omega) (by omega)]; simp only[List.length_map]; omega)),rfl,rfl,rfl,trivial⟩
 ·
  rintro k hC
  refine aC (fun K5 hK5=>(aB (aE aA 1 rfl (aD (hK5 _ (aC (fun K6 hK6=>(aO rfl (fun hc1=>?_) (fun hc1=>?_)))))))))
  ·
   simp only[bs] at hc1
   refine aR (hK6 _ (aC (fun K7 hK7=>(aU (aC (fun K8 hK8=>(aB ?_)))))))
   refine aI rfl (bJ rfl rfl eC cV (by first | exact ixm (by omega) | assumption | exact⟨by decide,rfl⟩)) ?_
   refine aE aA 1 rfl (cC hf rfl jM rfl cV rfl rfl rfl rfl (lf rfl) (aD (hK8 _ (aB (aE aA 4 rfl (aI rfl (eO rfl rfl rfl) (aE aA 1 rfl ?_)))))))
   refine bV ?_
   refine hK7 _ (aB ?_)
   refine aI rfl (bQ rfl rfl (by omega) (by omega)) ?_
   refine aE aA 1 rfl (aD ?_)
   exact⟨k+1,by omega,by omega,jU ⟨(aT (by rw[aI5,aA8 (by omega)]; congr 1; simp only[List.length_map]; omega)),rfl,rfl,rfl,trivial⟩⟩
  ·
   simp only[bs] at hc1
   refine bI (hK3 _ (aC (fun K9 hK9=>(aB (aE aA 2 rfl (aD (hK9 _ (aM ?_))))))))
   refine⟨_,rfl,?_⟩
   unfold dJ
   rw[List.take_of_length_le (by omega)]; rfl
theorem aDt (s:Sta) (hz:SzS 140737488353280 s) :Den Tryz.prog 45 [.agg (aL s)]  (·=.s (.int .i64 (IntKind.i64.wrap ((dJ s:Nat):Int)))):=by
 have z1:=hz.o
 have z2:=hz.u
 have z3:=hz.b
 have z4:=hz.t
 have y1:(s.opn.map seC).length=s.opn.length:=List.length_map _
 have y2:(s.sub.map enC).length=s.sub.length:=List.length_map _
 have y3:(s.tmb.map tmC).length=s.tmb.length:=List.length_map _
 refine aY Tryz.func45 rfl (Nat.le_of_ble_eq_true rfl) (fun w0 A hf=>(aC (fun K1 hK1=>(aB (aN hf rfl (cS rfl rfl (lf rfl)) (aE aA 1 rfl (aD (hK1 _ (aC (fun K2 hK2=>(aB (aE aA 6 rfl ?_))))))))))))
 refine aI rfl (bQ rfl rfl (by omega) (by omega)) ?_
 refine aE aA 3 rfl ?_
 refine aI rfl (bQ rfl rfl (by omega) (by omega)) ?_
 refine aE aA 1 rfl (aD (hK2 _ (aC (fun K3 hK3=>(aC (fun K4 hK4=>(aB (aE aA 1 rfl (aD (hK4 _ (aU (bW (ι:=Nat) (fun k=>⟨33,[(1,.adr (aL s)),(3,.s (.int .i64 (IntKind.i64.wrap ((s.opn.length+s.sub.length+s.tmb.length+fA (s.usr.take k):Nat):Int)))),(4,.s (.int .i64 (k:Nat)))],[]⟩) (fun k=>k≤s.usr.length) (fun k=>s.usr.length - k) 0 ?_ ?_ ?_))))))))))))
 · exact Nat.zero_le _
 · exact jU ⟨rfl,(aT (by rw[List.take_zero,show fA []=0 from rfl,wrap_i64 (by omega) (by omega)]; simp only[List.length_map]; omega)),rfl,trivial⟩
 ·
  rintro k hC
  refine aC (fun K5 hK5=>(aC (fun K6 hK6=>(aB (aE aA 5 rfl (aD (hK6 _ (aO rfl (fun hc1=>?_) (fun hc1=>?_)))))))))
  ·
   simp only[bs] at hc1
   refine aR (hK5 _ (aC (fun K7 hK7=>(aU (aB (aE aA 4 rfl ?_))))))
   refine aI rfl (bJ rfl rfl zJ sL (by first | exact ixm (by omega) | assumption | exact⟨by decide,rfl⟩)) ?_
   refine aE aA 3 rfl (aI rfl (eO rfl rfl rfl) (aE aA 1 rfl ?_))
   refine bV ?_
   refine hK7 _ (aB (aE aA 1 rfl ?_))
   refine aI rfl (bQ rfl rfl (by omega) (by omega)) ?_
   refine aE aA 1 rfl (aD ?_)
   exact⟨k+1,by omega,by omega,jU ⟨rfl,(aT (by rw[aI5,aA8 (by omega)]; congr 1; simp only[List.length_map]; omega)),rfl,trivial⟩⟩
  ·
   simp only[bs] at hc1
   refine bI (hK3 _ (aC (fun K8 hK8=>(aB (aE aA 2 rfl (aD (hK8 _ (aM ?_))))))))
   refine⟨_,rfl,?_⟩
   unfold dJ
   rw[List.take_of_length_le (by omega)]; rfl
theorem aCz (a b:List Us) (ha:a.length≤9223372036854775807) (hb:b.length≤9223372036854775807) (hx:∀ x∈a,x.2.length≤9223372036854775807) (hy:∀ x∈b,x.2.length≤9223372036854775807) :Den Tryz.prog 77 [.sl 2 (a.map usC),.sl 2 (b.map usC),.fn 78 []]  (·=.s (.bool (decide (a=b)))):=by
 refine aY Tryz.func77 rfl (Nat.le_of_ble_eq_true rfl) (fun w0 A hf=>(aC (fun K1 hK1=>(aB (aE aA 1 rfl (aD (hK1 _ (aC (fun K2 hK2=>(aC (fun K3 hK3=>(aB (aE aA 5 rfl (aD (hK3 _ (aO rfl (fun hc1=>?_) (fun hc1=>?_)))))))))))))))))
 ·
  simp only[bs] at hc1
  refine aC (fun K4 hK4=>(aB (aE aA 1 rfl (aD (hK4 _ (aM ?_))))))
  refine⟨_,rfl,?_⟩
  refine aQ ?_
  rw[sF (by omega)]
 ·
  simp only[bs] at hc1
  refine aR (hK2 _ (aC (fun K5 hK5=>(aC (fun K6 hK6=>(aB (aE aA 3 rfl (aD (hK6 _ (aU (bW (ι:=Nat) (fun k=>⟨32,[(1,.sl 2 (b.map usC)),(2,.fn 78 []),(15,.sl 2 (a.map usC)),(16,.s (.int .i64 ((a.map usC).length:Nat))),(17,.s (.int .i64 (k:Nat)))],[]⟩) (fun k=>k≤a.length∧a.take k=b.take k) (fun k=>a.length - k) 0 ?_ ?_ ?_)))))))))))
  · exact⟨Nat.zero_le _,rfl⟩
  · exact cU rfl
  ·
   rintro k hC
   obtain ⟨h1,h2⟩:=hC
   refine aC (fun K7 hK7=>(aB (aE aA 1 rfl (aD (hK7 _ (aC (fun K8 hK8=>(aO rfl (fun hc2=>?_) (fun hc2=>?_)))))))))
   ·
    simp only[bs] at hc2
    refine aR (hK8 _ (aC (fun K9 hK9=>(aU (aC (fun K10 hK10=>(aB (aE aA 1 rfl ?_))))))))
    refine aI rfl (bJ rfl rfl eC cV (by first | exact ixm (by omega) | assumption | exact⟨by decide,rfl⟩)) ?_
    refine aE aA 1 rfl (aZ hf rfl rfl rfl jM (aE aA 1 rfl (bD hf rfl rfl cV rfl rfl (l1 rfl) (l4 rfl) rfl (cB (jC (nee 8) (sl':=[(1,_),(2,_),(7,_),(8,_),(15,_),(16,_),(17,_)]) (m':=[]) ⟨⟨_,rfl,rfl⟩,⟨_,rfl,rfl⟩,⟨_,rfl,rfl⟩,⟨_,rfl,rfl⟩,⟨_,rfl,rfl⟩,⟨_,rfl,rfl⟩,⟨_,rfl,rfl⟩,trivial⟩ rfl) (aD (hK10 _ (aC (fun K11 hK11=>(aB (aE aA 2 rfl ?_))))))))))
    refine aI rfl (bJ rfl rfl eC cV (by first | exact ixm (by omega) | assumption | exact⟨by decide,rfl⟩)) ?_
    refine aE aA 1 rfl (cC hf rfl jM rfl cV rfl rfl rfl rfl (lf rfl) (aD (hK11 _ (aC (fun K12 hK12=>(aB (aE aA 3 rfl (aN hf rfl (aP rfl rfl aPc rfl (aN0 a[k] b[k] (hx _ (List.getElem_mem _)) (hy _ (List.getElem_mem _)))) (aE aA 1 rfl (aD (hK12 _ (aO rfl (fun hc3=>?_) (fun hc3=>?_)))))))))))))
    ·
     simp only[bs] at hc3
     refine aC (fun K13 hK13=>(aB (aE aA 1 rfl (aD (hK13 _ (aM ?_))))))
     refine⟨_,rfl,?_⟩
     refine aQ ?_
     rw[qG (k:=k) (by omega) (by omega) (by simp_all)]
    ·
     simp only[bs] at hc3
     refine aR (hK9 _ (aB ?_))
     refine aI rfl (bQ rfl rfl (by omega) (by omega)) ?_
     refine aE aA 1 rfl (aD ?_)
     exact⟨k+1,⟨by omega,qF (by omega) (by omega) h2 (by simp_all)⟩,by omega,cU rfl⟩
   ·
    simp only[bs] at hc2
    refine bI (hK5 _ (aC (fun K14 hK14=>(aB (aE aA 1 rfl (aD (hK14 _ (aM ?_))))))))
    refine⟨_,rfl,?_⟩
    refine aQ ?_
    rw[sG (by omega) (by omega) h2]
end Go.Proofs.YtijnkglkchhomaaGreat
set_option linter.unusedVariables false
set_option linter.unusedSimpArgs false
namespace Go.Proofs.YtijnkglkchhomaaGreat
open Go Go.Abs
theorem aK3 (x:Us) (u:ByteArray) :Den Tryz.prog 206 [.agg (usC x),.adr [.s (.string u)]]  (·=.s (.bool (isK cM u x))):=by
 refine aY Tryz.func206 rfl (Nat.le_of_ble_eq_true rfl) (fun w0 A hf=>(aC (fun K1 hK1=>(aB (aN hf rfl (cS rfl rfl (lf rfl)) (aE aA 1 rfl (aD (hK1 _ (aC (fun K2 hK2=>(aB (aE aA 5 rfl (aD (hK2 _ (aM ?_)))))))))))))))
 refine⟨_,rfl,?_⟩
 refine aQ ?_
 rw[Bool.eq_iff_iff]
 simp [isK,toList_inj]
theorem aK2 (x:Tm) (u:ByteArray) :Den Tryz.prog 208 [.agg (tmC x),.adr [.s (.string u)]]  (·=.s (.bool (isK dH u x))):=by
 refine aY Tryz.func208 rfl (Nat.le_of_ble_eq_true rfl) (fun w0 A hf=>(aC (fun K1 hK1=>(aB (aN hf rfl (cS rfl rfl (lf rfl)) (aE aA 1 rfl (aD (hK1 _ (aC (fun K2 hK2=>(aB (aE aA 5 rfl (aD (hK2 _ (aM ?_)))))))))))))))
 refine⟨_,rfl,?_⟩
 refine aQ ?_
 rw[Bool.eq_iff_iff]
 simp [isK,toList_inj]
theorem aG5 (g k off n:Nat):AV.fromE g (.own E0 k off n)=.own g k off n:=by simp [AV.fromE]
theorem lR (s:Sta):(AV.agg (eA s E0 E1)).ren [(E0,G0),(E1,G1)]=.agg (eA s G0 G1):=rfl
theorem aOl (s:Sta) (u:ByteArray) (t:Int) (hz:SzS 140737488355200 s) (hr:dG cM s.usr) (hr2:dG dH s.tmb) :DenX Tryz.prog 159 [.agg (eA s E0 E1),.s (.string u),.s (.int .i64 t)] [(E0,.buf 2 (s.usr.map usC)),(E1,.buf 2 (s.tmb.map tmC))] (fun r m=>r=.agg (eA (fO s u t) E0 E1)∧m=[(E0,.buf 2 ((fO s u t).usr.map usC)),(E1,.buf 2 ((fO s u t).tmb.map tmC))]):=by
 have z1:=hz.o
 have z2:=hz.u
 have z3:=hz.b
 have z4:=hz.t
 have tf:=List.length_filter_le (fun x=>!isK dH u x) s.tmb
 have hpl:=yN (key:=dH) (s.tmb.filter fun x=>!isK dH u x) u
 refine iH [(E0,G0),(E1,G1)] Tryz.func159 rfl (Nat.le_of_ble_eq_true rfl) (args':=[.agg (eA s G0 G1),.s (.string u),.s (.int .i64 t)]) (m':=[(G0,.buf 2 (s.usr.map usC)),(G1,.buf 2 (s.tmb.map tmC))]) rfl rfl (by decide) (by decide) rfl (fun w0 o0 A hf=>?_)
 refine aC (fun K1 hK1=>(aB (rQ hf rfl rfl rfl rfl (l1 rfl) ?_)))
 refine aN hf rfl (cS rfl rfl (lf rfl)) (aZ hf rfl rfl rfl aX (aD (hK1 _ (aC (fun K2 hK2=>(kV hf (L:=#[true,true,true,true,true,true,true,true,true,false,false,false]) 9 3 bK (by kernel_rfl) rfl (by kernel_rfl) rfl ?_))))))
 refine bC aA 3 rfl (bT [(10,_),(11,_)] rfl rfl ⟨⟨rfl,rfl⟩,⟨rfl,rfl⟩,trivial⟩ rfl (aP rfl rfl aBx rfl (wL s.opn u (by omega))) (bC aA 3 rfl (bT [(14,_),(15,_)] rfl rfl ⟨⟨rfl,rfl⟩,⟨rfl,rfl⟩,trivial⟩ rfl (aP rfl rfl aBw rfl (aAq s.sub u (by omega))) (bC aA 1 rfl (aAc [2,3,4,6,12,16,17] rfl rfl rfl ?_)))))
 refine aH 9 [] (by kernel_rfl) ⟨?_,trivial⟩
 ·
  refine⟨_,rfl,rfl,(ao rfl (bD hf rfl rfl jI rfl rfl (l1 rfl) (l4 rfl) rfl (aF (aH 10 [] (by kernel_rfl) ⟨?_,trivial⟩))))⟩
  ·
   refine⟨_,rfl,rfl,(ao rfl (aE aA 1 rfl (aF (aH 11 [] (by kernel_rfl) ⟨?_,trivial⟩))))⟩
   ·
    refine⟨_,rfl,rfl,(ao rfl (bD hf rfl rfl kM rfl rfl (l1 rfl) (l4 rfl) rfl (aF (dF (by kernel_rfl) ?_))))⟩
    refine hK2 _ (aC (fun K3 hK3=>(aB (aE aA 2 rfl (aI rfl (eK rfl) (gE hf G0 rfl rfl rfl rfl rfl aL8 (aB4 aL7 rfl (fun _=>rfl) (isK cM u) s.usr _ (by rw[List.length_map]) (by omega) (fun x _=>aK3 x u)) ?_))))))
    rintro r zs ⟨rfl,rfl⟩
    rw[aG5]
    refine aE aA 1 rfl (bD hf rfl rfl mZ rfl rfl (l1 rfl) (l4 rfl) rfl (aD (hK3 _ (aC (fun K4 hK4=>(aB (aE aA 2 rfl (aI rfl (eK rfl) (gE hf G1 rfl rfl rfl rfl rfl aL6 (aB5 aL5 rfl (fun _=>rfl) (isK dH u) s.tmb _ (by rw[List.length_map]) (by omega) (fun x _=>aK2 x u)) ?_)))))))))
    rintro r zs ⟨rfl,rfl⟩
    rw[aG5]
    refine aE aA 1 rfl (bD hf rfl rfl qP rfl rfl (l1 rfl) (l4 rfl) rfl (aD (hK4 _ (aC (fun K5 hK5=>(aB (aE aA 3 rfl (aN hf rfl (qW rfl rfl (by show [AV.conv _ _,_,_]=_; rw[cL (g:=G1) rfl (by rw[List.length_map])]; rfl) aBy (aC2 (s.tmb.filter fun x=>!isK dH u x) u (by omega) (gW hr2 _)) rfl) ?_))))))))
    refine aE aA 5 rfl (aD (hK5 _ (aC (fun K6 hK6=>(aB (aE aA 5 rfl (aI rfl (dD rfl wC aOz (l3 rfl) rfl) (cR hf rfl rfl rfl kX rfl rfl rfl rfl (l2 rfl) ?_))))))))
    refine gO hf [(E0,G1),(E1,42)] [(E0,43)] rfl rfl rfl rfl rfl rfl (by decide) (by decide) (by decide) rfl aL4 (aKn ((s.tmb.filter fun x=>!isK dH u x).map tmC) [.s (.string u),.s (.int .i64 t)] _ (dM dH (s.tmb.filter fun x=>!isK dH u x) u) (by rw[List.length_map]) hpl (by omega)) ?_
    rintro r m1 ⟨rfl,rfl⟩
    refine cB (cN (sl':=[(3,.ref 3 0 0 0),(6,.ref 6 0 0 0),(43,.own 43 2 0 ((s.tmb.filter fun x=>!isK dH u x).length+1))]) (m':=[(43,.buf 2 (((s.tmb.filter fun x=>!isK dH u x).map tmC).take (dM dH (s.tmb.filter fun x=>!isK dH u x) u)++[.s (.string u),.s (.int .i64 t)]::((s.tmb.filter fun x=>!isK dH u x).map tmC).drop (dM dH (s.tmb.filter fun x=>!isK dH u x) u))),(6,.box [.s (.int .i64 0),.s (.int .i64 0),.s (.slice none 0 0),.s (.slice none 0 0),.s (.slice none 0 0),.s (.slice none 0 0)]),(3,.box [.s (.int .i64 s.now),.s (.int .i64 s.hor),.sl 4 ((s.opn.filter fun e=>!oI u e).map seC),.own G0 2 0 (s.usr.filter fun x=>!isK cM u x).length,.sl 4 ((s.sub.filter fun e=>!lV u e).map enC),.bad]),(G0,.buf 2 ((s.usr.filter fun x=>!isK cM u x).map usC))]) ⟨rfl,rfl,rfl,trivial⟩ rfl) ?_
    refine aE aA 1 rfl (bD hf rfl rfl qP rfl rfl (l1 rfl) (l4 rfl) rfl (aD (hK6 _ (aC (fun K7 hK7=>(aB ?_))))))
    rw[aQq hr2,erTl (t:=t) hr2,erUl (t:=t) hr,erU (t:=t) hr]
    refine aI rfl (cD (cs':=eA (fO s u t) G0 43) rfl jH bS rfl rfl rfl) (bD hf rfl rfl bS rfl rfl (l1 rfl) (l4 rfl) rfl (aD (hK7 _ (aM ?_))))
    exact⟨_,[(E0,G0),(E1,43)],_,Le.refl _,by decide,rfl,rfl,⟨rfl,rfl⟩⟩
end Go.Proofs.YtijnkglkchhomaaGreat
set_option linter.unusedVariables false
set_option linter.unusedSimpArgs false
namespace Go.Proofs.YtijnkglkchhomaaGreat
open Go Go.Abs
theorem aIq (l:List Se) (n:Int) (u:ByteArray) (st t:Int) (hl:l.length*40+40≤140737488355328) :Den Tryz.prog 156 [.sl 4 (l.map seC),.s (.int .i64 n),.s (.string u),.s (.int .i64 st),.s (.int .i64 t)]  (·=.tup [.sl 4 ((oW l n u st t).map seC),.agg (stC (stR l n u t)),.s (.int .i64 (fJ l n u))]):=by
 refine aY Tryz.func156 rfl (Nat.le_of_ble_eq_true rfl) (fun w0 A hf=>(aC (fun K1 hK1=>(aB (aI rfl (bX) (aZ hf rfl rfl rfl dX (aE aA 1 rfl (aD (hK1 _ (aC (fun K2 hK2=>(aB (aE aA 3 rfl (aN hf rfl (aP rfl rfl vK rfl (aEz _ _ _ (by omega))) (aE aA 5 rfl ?_)))))))))))))))
 refine aD (hK2 _ (aC (fun K3 hK3=>(aC (fun K4 hK4=>(aB (aE aA 2 rfl (aD (hK4 _ (aO rfl (fun hc1=>?_) (fun hc1=>?_)))))))))))
 ·
  simp only[bs] at hc1
  refine aC (fun K5 hK5=>(aB (aI rfl (dD rfl dX tI (l3 rfl) rfl) (aE aA 1 rfl (aI rfl (aD0 (k:=4)) (bD hf rfl rfl bB rfl rfl (l1 rfl) (l4 rfl) rfl (aE aA 1 rfl (aD (hK5 _ (aM ?_))))))))))
  refine⟨_,rfl,?_⟩
  rw[oW,stR,if_neg (by assumption),if_neg (by assumption)]; rfl
 ·
  simp only[bs] at hc1
  obtain ⟨k,hk,ek,hk1,hk2,hk3⟩:=aIm (show fJ l n u=0 by assumption)
  obtain ⟨c1,c2,c3⟩:=aTo hk hk1 hk2 hk3
  obtain ⟨_,_,_,c4,c5⟩:=oX n u st t l k hk hk3 hk1
  rw[ek]
  refine aR (hK3 _ (aC (fun K6 hK6=>(aB (aE aA 1 rfl (gP hf rfl rfl rfl rfl rfl iI rfl (iF _ (by omega)) ?_))))))
  rintro _ rfl
  refine aE aA 1 rfl (aD (hK6 _ (aC (fun K7 hK7=>(aB ?_)))))
  have hml:(l.map seC).length=l.length:=List.length_map _
  refine aE aA 6 rfl ?_
  refine aI rfl (cF rfl rfl dY cX (by omega)) ?_
  refine aE aA 1 rfl (bD hf rfl rfl cP rfl rfl (by simp [AV.cells,AV.one,Value.oneCell']) (by simp [AV.cells,AV.leaf,Value.oneCell']) (hU (c:=4) (k:=k) (f:=2) (enc:=seC) (v:=(l[k].1,(st,l[k].2.2))) (by omega) (by first | omega | (rw[List.length_set]; omega)) (by first | rfl | (simp only[List.getElem_set_self]; rfl)) (Nat.le_of_ble_eq_true rfl)) ?_)
  refine aI rfl (cF rfl rfl dY cX (by omega)) ?_
  refine aE aA 1 rfl (bD hf rfl rfl cP rfl rfl (by simp [AV.cells,AV.one,Value.oneCell']) (by simp [AV.cells,AV.leaf,Value.oneCell']) (hU (c:=4) (k:=k) (f:=3) (enc:=seC) (v:=(l[k].1,(st,t))) (by omega) (by first | omega | (rw[List.length_set]; omega)) (by first | rfl | (simp only[List.getElem_set_self]; rfl)) (Nat.le_of_ble_eq_true rfl)) ?_)
  refine aD (hK7 _ (aC (fun K8 hK8=>(aB (aE aA 3 rfl ?_)))))
  refine aI rfl (bJ rfl rfl dY cX (by first | exact ixm (by omega) | assumption | exact⟨by decide,rfl⟩)) ?_
  refine aE aA 2 rfl (aN hf rfl (aP rfl rfl vM rfl (wX _ _)) (aE aA 1 rfl (bD hf rfl rfl bB rfl rfl (l1 rfl) (l4 rfl) rfl (aE aA 1 rfl (aD (hK8 _ (aM ?_)))))))
  refine⟨_,rfl,?_⟩
  refine(congrArg (fun z=>AV.tup [z,.agg (stC (eW l[k] t)),.s (.int .i64 0)]) (cL (g:=28) rfl (by simp only[List.length_map,List.length_set]))).trans ?_
  rw[oW,stR,if_pos c1,if_pos c1,c1,c2,c4,List.set_set]
end Go.Proofs.YtijnkglkchhomaaGreat
set_option linter.unusedVariables false
set_option linter.unusedSimpArgs false
namespace Go.Proofs.YtijnkglkchhomaaGreat
open Go Go.Abs
theorem aBa (l:List Se) (n:Int) (u:ByteArray) (t:Int) (hl:l.length*40+40≤140737488355328) :Den Tryz.prog 89 [.sl 4 (l.map seC),.s (.int .i64 n),.s (.string u),.s (.int .i64 t)]  (·=.tup [.sl 4 ((oJ l n u).map seC),.agg (stC (stR l n u t)),.s (.int .i64 (fJ l n u))]):=by
 refine aY Tryz.func89 rfl (Nat.le_of_ble_eq_true rfl) (fun w0 A hf=>(aC (fun K1 hK1=>(aB (aI rfl (bX) (aZ hf rfl rfl rfl dX (aE aA 1 rfl (aD (hK1 _ (aC (fun K2 hK2=>(aB (aE aA 3 rfl (aN hf rfl (aP rfl rfl vK rfl (aEz _ _ _ (by omega))) (aE aA 5 rfl ?_)))))))))))))))
 refine aD (hK2 _ (aC (fun K3 hK3=>(aC (fun K4 hK4=>(aB (aE aA 2 rfl (aD (hK4 _ (aO rfl (fun hc1=>?_) (fun hc1=>?_)))))))))))
 ·
  simp only[bs] at hc1
  refine aC (fun K5 hK5=>(aB (aI rfl (dD rfl dX tI (l3 rfl) rfl) (aE aA 1 rfl (aI rfl (aD0 (k:=4)) (bD hf rfl rfl bB rfl rfl (l1 rfl) (l4 rfl) rfl (aE aA 1 rfl (aD (hK5 _ (aM ?_))))))))))
  refine⟨_,rfl,?_⟩
  rw[oJ,stR,if_neg (by assumption),if_neg (by assumption)]; rfl
 ·
  simp only[bs] at hc1
  obtain ⟨k,hk,ek,hk1,hk2,hk3⟩:=aIm (show fJ l n u=0 by assumption)
  obtain ⟨c1,c2,c3⟩:=aTo hk hk1 hk2 hk3
  obtain ⟨_,_,_,c4,c5⟩:=oX n u 0 t l k hk hk3 hk1
  rw[ek]
  refine aR (hK3 _ (aC (fun K6 hK6=>(kV hf (L:=#[true,true,true,true,true,true,true,true,true,true,true,true,true,true,true,true,false,false]) 16 2 bK (by kernel_rfl) rfl (by kernel_rfl) rfl ?_))))
  refine bC aA 2 rfl (bN [(24,_),(25,_)] rfl rfl ⟨⟨rfl,rfl⟩,⟨rfl,rfl⟩,trivial⟩ rfl (eX rfl dY cX rfl (mU rfl (by omega)) (by omega) (by simp only[List.length_map,Int.toNat_natCast] <;> omega) (mM (k:=k) (by omega))) ?_)
  refine bC aA 2 rfl ?_
  refine bN [(28,_)] rfl rfl ⟨⟨rfl,rfl⟩,trivial⟩ rfl (bQ rfl rfl (by omega) (by omega)) ?_
  refine bN [(27,_),(29,_)] rfl rfl ⟨⟨rfl,rfl⟩,⟨rfl,rfl⟩,trivial⟩ rfl (eX rfl dY cX (mU rfl (by omega)) rfl (by simp only[List.length_map,Int.toNat_natCast] <;> omega) (by omega) (iZ (k:=k+1) (by omega))) ?_
  refine bT [(26,_),(30,_)] rfl rfl ⟨⟨rfl,rfl⟩,⟨rfl,rfl⟩,trivial⟩ rfl (bR xW rfl rfl rfl rfl (l2 rfl)) (bT [(31,_)] rfl rfl ⟨⟨rfl,rfl⟩,trivial⟩ rfl (aP rfl rfl vJ rfl ((show Den Tryz.prog _ _ (·=.sl 4 ((l.take k++l.drop (k+1)).map seC)) from (cZ (uA [l.take k,l.drop (k+1)] (by simp) (by simp only[List.flatten_cons,List.flatten_nil,List.length_append,List.length_take,List.length_drop,List.length_nil]; omega))).mono fun r h=>h.trans (by simp)))) ?_)
  refine bC aA 2 rfl ?_
  refine bN [(33,_),(34,_)] rfl rfl ⟨⟨rfl,rfl⟩,⟨rfl,rfl⟩,trivial⟩ rfl (bJ rfl rfl dY cX (by first | exact ixm (by omega) | assumption | exact⟨by decide,rfl⟩)) ?_
  refine bC aA 2 rfl (bT [(36,_),(37,_)] rfl rfl ⟨⟨rfl,rfl⟩,⟨rfl,rfl⟩,trivial⟩ rfl (aP rfl rfl vM rfl (wX l[k] t)) (bC aA 1 rfl (aAc [8,9,38] rfl rfl rfl ?_)))
  refine aH 16 [] (by kernel_rfl) ⟨?_,trivial⟩
  ·
   refine⟨_,rfl,rfl,(ao rfl (bD hf rfl rfl bB rfl rfl (l1 rfl) (l4 rfl) rfl (aF (aH 17 [] (by kernel_rfl) ⟨?_,trivial⟩))))⟩
   ·
    refine⟨_,rfl,rfl,(ao rfl (aE aA 1 rfl (aF (dF (by kernel_rfl) ?_))))⟩
    refine hK6 _ (aM ?_)
    refine⟨_,rfl,?_⟩
    rw[oJ,stR,if_pos c1,if_pos c1,c1,c2,c5]; rfl
end Go.Proofs.YtijnkglkchhomaaGreat
set_option linter.unusedVariables false
set_option linter.unusedSimpArgs false
namespace Go.Proofs.YtijnkglkchhomaaGreat
open Go Go.Abs
theorem aOc (l:List Se) (e:Se) (hl:l.length*40+40≤140737488355328) :Den Tryz.prog 155 [.sl 4 (l.map seC),.agg (seC e)]  (·=.tup [.sl 4 ((oS l e).map seC),.s (.int .i64 (sZ l e))]):=by
 refine aY Tryz.func155 rfl (Nat.le_of_ble_eq_true rfl) (fun w0 A hf=>(aC (fun K1 hK1=>(aB (aN hf rfl (cS rfl rfl (lf rfl)) (aI rfl (bX) (aE aA 1 rfl (aD (hK1 _ (aC (fun K2 hK2=>(aB (aE aA 5 rfl (aN hf rfl (aP rfl rfl vK rfl (aEz _ _ _ (by omega))) (aE aA 5 rfl ?_)))))))))))))))
 refine aD (hK2 _ (aC (fun K3 hK3=>(aU (aC (fun K4 hK4=>(aB (aE aA 3 rfl (aD (hK4 _ (aO rfl (fun hc1=>?_) (fun hc1=>?_))))))))))))
 ·
  simp only[bs] at hc1
  refine aC (fun K5 hK5=>(aB (aI rfl (aD0 (k:=4)) (aE aA 1 rfl (aD (hK5 _ (aM ?_)))))))
  refine⟨_,rfl,?_⟩
  have ho:sZ l e=100:=by
   unfold sZ
   rw[if_pos (by have:=(aLc (l:=l) (n:=e.1.1) (u:=e.1.2)); cases hh:aCb l e.1.1 <;> simp_all)]
  rw[oS,if_neg (by omega),ho]; rfl
 ·
  simp only[bs] at hc1
  have hno:aCb l e.1.1=false:=(aLc (u:=e.1.2)).1 (by assumption)
  refine aC (fun K6 hK6=>(aB (aE aA 4 rfl (aD (hK6 _ (aO rfl (fun hc2=>?_) (fun hc2=>?_)))))))
  ·
   simp only[bs] at hc2
   refine aC (fun K7 hK7=>(aB (aI rfl (aD0 (k:=4)) (aE aA 1 rfl (aD (hK7 _ (aM ?_)))))))
   refine⟨_,rfl,?_⟩
   have ho:sZ l e=103:=by
    unfold sZ
    rw[if_neg (by simp [hno]),if_pos (by omega)]
   rw[oS,if_neg (by omega),ho]; rfl
  ·
   simp only[bs] at hc2
   refine aR (hK3 _ (aC (fun K8 hK8=>(aB (aE aA 1 rfl (aI rfl (eK rfl) (aN hf rfl (aP rfl rfl vH rfl (pK aMc rfl (kI e.1.1) l (by omega) (fun x _=>aQ8 x e))) (aE aA 1 rfl (aD (hK8 _ (aC (fun K9 hK9=>(aC (fun K10 hK10=>(aB ?_)))))))))))))))
   refine aE aA 2 rfl (aD (hK10 _ (aO rfl (fun hc3=>?_) (fun hc3=>?_))))
   ·
    simp only[bs] at hc3
    obtain ⟨k,hk⟩:∃ k:Nat,k=l.length:=⟨_,rfl⟩
    have hnA:∀ x∈l,kI e.1.1 x=false:=by
     rcases eE (kI e.1.1) l with ⟨_,h⟩ | ⟨k',_,e0,_⟩
     · exact h
     · exfalso; omega
    have hins:=aH7 (kI e.1.1) e l k (by omega) (fun j hj _=>hnA _ (List.getElem_mem hj)) (fun h=>by omega)
    refine aB (aE aA 2 rfl ?_)
    rw[List.length_map,← hk]
    refine aE aA 1 rfl (aD (hK9 _ (aC (fun K11 hK11=>(dE hf bK (by kernel_rfl) rfl (bC aA 2 rfl (bN [(32,_),(33,_)] rfl rfl ⟨⟨rfl,rfl⟩,⟨rfl,rfl⟩,trivial⟩ rfl (eX rfl dY cX rfl (mU rfl (by omega)) (by omega) (by simp only[List.length_map,Int.toNat_natCast] <;> omega) (mM (k:=k) (by omega))) ?_)))))))
    refine bC aA 1 rfl (bT [(35,_)] rfl rfl ⟨⟨rfl,rfl⟩,trivial⟩ rfl (bR jQ rfl rfl rfl rfl (l2 rfl)) (bC aA 2 rfl (bN [(37,_),(38,_)] rfl rfl ⟨⟨rfl,rfl⟩,⟨rfl,rfl⟩,trivial⟩ rfl (eX rfl dY cX (mU rfl (by omega)) rfl (by simp only[List.length_map,Int.toNat_natCast] <;> omega) (by omega) (iZ (k:=k) (by omega))) ?_)))
    refine bT [(34,_),(36,_),(39,_)] rfl rfl ⟨⟨rfl,rfl⟩,⟨rfl,rfl⟩,⟨rfl,rfl⟩,trivial⟩ rfl (bR xW rfl rfl rfl rfl (l2 rfl)) (bT [(40,_)] rfl rfl ⟨⟨rfl,rfl⟩,trivial⟩ rfl (aP rfl rfl vJ rfl ((show Den Tryz.prog _ _ (·=.sl 4 ((l.take k++e::l.drop k).map seC)) from (cZ (uA [l.take k,[e],l.drop k] (by simp) (by simp only[List.flatten_cons,List.flatten_nil,List.length_append,List.length_take,List.length_drop,List.length_cons,List.length_nil]; omega))).mono fun r h=>h.trans (by simp)))) ?_)
    refine bC aA 2 rfl (dC [4,5] rfl rfl rfl (hK11 _ (aM ?_)))
    refine⟨_,rfl,?_⟩
    have ho:sZ l e=0:=by
     unfold sZ
     rw[if_neg (by simp [hno]),if_neg (by omega)]
    rw[oS,if_pos ho,ho,yO,hins]; rfl
   ·
    simp only[bs] at hc3
    obtain ⟨k,hk,ek,hk1,hk2⟩:∃ k:Nat,∃ h:k<l.length,oO (kI e.1.1) l=(k:Nat)∧kI e.1.1 l[k]=true∧∀ (j:Nat) (hj:j<l.length),j<k→kI e.1.1 l[j]=false:=by
     rcases eE (kI e.1.1) l with ⟨e0,_⟩ | ⟨k',h1,e0,h2,h3⟩
     · exfalso; omega
     · exact⟨k',h1,e0,h2,h3⟩
    rw[ek]
    have hins:=aH7 (kI e.1.1) e l k (by omega) hk2 (fun _=>hk1)
    refine aR (hK9 _ (aC (fun K12 hK12=>(dE hf bK (by kernel_rfl) rfl (bC aA 2 rfl (bN [(32,_),(33,_)] rfl rfl ⟨⟨rfl,rfl⟩,⟨rfl,rfl⟩,trivial⟩ rfl (eX rfl dY cX rfl (mU rfl (by omega)) (by omega) (by simp only[List.length_map,Int.toNat_natCast] <;> omega) (mM (k:=k) (by omega))) ?_))))))
    refine bC aA 1 rfl (bT [(35,_)] rfl rfl ⟨⟨rfl,rfl⟩,trivial⟩ rfl (bR jQ rfl rfl rfl rfl (l2 rfl)) (bC aA 2 rfl (bN [(37,_),(38,_)] rfl rfl ⟨⟨rfl,rfl⟩,⟨rfl,rfl⟩,trivial⟩ rfl (eX rfl dY cX (mU rfl (by omega)) rfl (by simp only[List.length_map,Int.toNat_natCast] <;> omega) (by omega) (iZ (k:=k) (by omega))) ?_)))
    refine bT [(34,_),(36,_),(39,_)] rfl rfl ⟨⟨rfl,rfl⟩,⟨rfl,rfl⟩,⟨rfl,rfl⟩,trivial⟩ rfl (bR xW rfl rfl rfl rfl (l2 rfl)) (bT [(40,_)] rfl rfl ⟨⟨rfl,rfl⟩,trivial⟩ rfl (aP rfl rfl vJ rfl ((show Den Tryz.prog _ _ (·=.sl 4 ((l.take k++e::l.drop k).map seC)) from (cZ (uA [l.take k,[e],l.drop k] (by simp) (by simp only[List.flatten_cons,List.flatten_nil,List.length_append,List.length_take,List.length_drop,List.length_cons,List.length_nil]; omega))).mono fun r h=>h.trans (by simp)))) ?_)
    refine bC aA 2 rfl (dC [4,5] rfl rfl rfl (hK12 _ (aM ?_)))
    refine⟨_,rfl,?_⟩
    have ho:sZ l e=0:=by
     unfold sZ
     rw[if_neg (by simp [hno]),if_neg (by omega)]
    rw[oS,if_pos ho,ho,yO,hins]; rfl
end Go.Proofs.YtijnkglkchhomaaGreat
set_option linter.unusedVariables false
set_option linter.unusedSimpArgs false
namespace Go.Proofs.YtijnkglkchhomaaGreat
open Go Go.Abs
theorem aN5 (l:List En) (hl:l.length≤9223372036854775807) (ht:∀ e∈l,TS e.1.1∧TS e.1.2) :Den Tryz.prog 148 [.sl 4 (l.map enC)]  (·=.s (.bool (qQ l))):=by
 refine aY Tryz.func148 rfl (Nat.le_of_ble_eq_true rfl) (fun w0 A hf=>(aC (fun K1 hK1=>(aB (aE aA 1 rfl (aD (hK1 _ (aC (fun K2 hK2=>(aC (fun K3 hK3=>(aB (aE aA 3 rfl (aD (hK3 _ (aU ?_))))))))))))))))
 refine bW (ι:=Nat) (fun k=>⟨58,[(0,.sl 4 (l.map enC)),(5,.sl 4 (l.map enC)),(6,.s (.int .i64 ((l.map enC).length:Nat))),(7,.s (.int .i64 (k:Nat)))],[]⟩) (fun k=>k≤l.length∧qQ l=mK okE aGz (gU l k) (l.drop k)) (fun k=>l.length - k) 0 ?_ ?_ ?_
 · exact⟨Nat.zero_le _,rfl⟩
 · exact cU rfl
 ·
  rintro k hC
  obtain ⟨h1,h2⟩:=hC
  refine aC (fun K4 hK4=>(aB (aE aA 1 rfl (aD (hK4 _ (aC (fun K5 hK5=>(aO rfl (fun hc1=>?_) (fun hc1=>?_)))))))))
  ·
   simp only[bs] at hc1
   refine aR (hK5 _ (aC (fun K6 hK6=>(aU (aC (fun K7 hK7=>(aB (aE aA 1 rfl ?_))))))))
   refine aI rfl (bJ rfl rfl eV dP (by first | exact ixm (by omega) | assumption | exact⟨by decide,rfl⟩)) ?_
   refine aE aA 1 rfl (aZ hf rfl rfl rfl mD (aE aA 1 rfl (bD hf rfl rfl dP rfl rfl (l1 rfl) (l4 rfl) rfl (cB (jC (nee 4) (sl':=[(0,_),(3,_),(4,_),(5,_),(6,_),(7,_)]) (m':=[]) ⟨⟨_,rfl,rfl⟩,⟨_,rfl,rfl⟩,⟨_,rfl,rfl⟩,⟨_,rfl,rfl⟩,⟨_,rfl,rfl⟩,⟨_,rfl,rfl⟩,trivial⟩ rfl) (aD (hK7 _ (aC (fun K8 hK8=>(aC (fun K9 hK9=>(aB (aE aA 2 rfl (aN hf rfl (aP rfl rfl mG rfl (sA _)) (aE aA 1 rfl ?_))))))))))))))
   refine bA rfl rfl rfl (fun hg2=>?_) (fun hg2=>?_)
   ·
    simp only[bs] at hg2
    refine aI rfl (bM rfl aI0 oL rfl) ?_
    refine aE aA 1 rfl (bF rfl rfl rfl (aN hf rfl (aP rfl rfl aMg rfl (Nm.pairRight_den _ _ (ht _ (List.getElem_mem _)).1 (ht _ (List.getElem_mem _)).2)) (aE aA 2 rfl (aD (hK9 _ (aO rfl (fun hc3=>?_) (fun hc3=>?_)))))))
    ·
     simp only[bs] at hc3
     refine aC (fun K10 hK10=>(aB (aE aA 1 rfl (aD (hK10 _ (aM ?_))))))
     refine⟨_,rfl,?_⟩
     refine aQ ?_
     rw[eT h2 (by omega) (aKe (by first | exact .inl (by omega) | exact .inr (.inl (by assumption)) | exact .inr (.inr (.inl (by assumption))) | exact .inr (.inr (.inr (by assumption))) | (simp_all; done)))]
    ·
     simp only[bs] at hc3
     refine aR (hK8 _ (aC (fun K11 hK11=>(dE hf bK (by kernel_rfl) rfl (bC aA 3 rfl (eI 23 true rfl (fun hg4=>?_) (fun hg4=>?_)))))))
     ·
      simp only[bs] at hg4
      refine bC aA 2 rfl ?_
      refine bN [(25,_)] rfl rfl ⟨⟨rfl,rfl⟩,trivial⟩ rfl (eU rfl rfl (by omega) (by omega)) ?_
      refine bN [(24,_),(26,_)] rfl rfl ⟨⟨rfl,rfl⟩,⟨rfl,rfl⟩,trivial⟩ rfl (bJ rfl rfl eV dP (gQ (k:=k - 1) (by omega) (by omega))) (bC aA 2 rfl (bT [(28,_),(29,_)] rfl rfl ⟨⟨rfl,rfl⟩,⟨rfl,rfl⟩,trivial⟩ rfl (aP rfl rfl aBr rfl (aGx _ _)) (bC aA 2 rfl (eI 32 false rfl (fun hg5=>?_) (fun hg5=>?_)))))
      ·
       simp only[bs] at hg5
       refine bC aA 2 rfl ?_
       refine bN [(34,_)] rfl rfl ⟨⟨rfl,rfl⟩,trivial⟩ rfl (eU rfl rfl (by omega) (by omega)) ?_
       refine bN [(33,_),(35,_)] rfl rfl ⟨⟨rfl,rfl⟩,⟨rfl,rfl⟩,trivial⟩ rfl (bJ rfl rfl eV dP (gQ (k:=k - 1) (by omega) (by omega))) (bC aA 4 rfl (bN [(38,_),(40,_)] rfl rfl ⟨⟨rfl,rfl⟩,⟨rfl,rfl⟩,trivial⟩ rfl (iA rfl rfl aLq (aeq_pr (x:=l[k - 1].1) (y:=l[k].1))) (bC aA 1 rfl (eI 42 true rfl (fun hg6=>?_) (fun hg6=>?_)))))
       ·
        simp only[bs] at hg6
        refine bC aA 2 rfl ?_
        refine bN [(44,_)] rfl rfl ⟨⟨rfl,rfl⟩,trivial⟩ rfl (eU rfl rfl (by omega) (by omega)) ?_
        refine bN [(43,_),(45,_)] rfl rfl ⟨⟨rfl,rfl⟩,⟨rfl,rfl⟩,trivial⟩ rfl (bJ rfl rfl eV dP (gQ (k:=k - 1) (by omega) (by omega))) (bC aA 10 rfl (dC [0,5,6,7,56] rfl rfl rfl (hK11 _ (aO rfl (fun hc7=>?_) (fun hc7=>?_)))))
        ·
         simp only[bs] at hc7
         refine aC (fun K12 hK12=>(aB (aE aA 1 rfl (aD (hK12 _ (aM ?_))))))
         refine⟨_,rfl,?_⟩
         refine aQ ?_
         rw[fF h2 (by omega) (by omega) (aCn (by first | exact .inl (by omega) | exact .inr ⟨by first | assumption | exact aHz (by assumption) (by assumption),by omega⟩))]
        ·
         simp only[bs] at hc7
         refine aR (hK6 _ (aB ?_))
         refine aI rfl (bQ rfl rfl (by omega) (by omega)) ?_
         refine aE aA 1 rfl (aD ?_)
         exact⟨k+1,⟨by omega,fL h2 (by omega) (aD7 (by omega) (by simp_all) (by simp_all)) (fun h0=>oT.2 ⟨by omega,fun e=>by first | omega | exact absurd e (by assumption) | exact absurd e (xH (by assumption)) | exact absurd e (xG (by assumption))⟩)⟩,by omega,cU rfl⟩
       ·
        simp only[bs] at hg6
        refine bC aA 14 rfl (dC [0,5,6,7,56] rfl rfl rfl (hK11 _ (bZ rfl (aR (hK6 _ (aB ?_))))))
        refine aI rfl (bQ rfl rfl (by omega) (by omega)) ?_
        refine aE aA 1 rfl (aD ?_)
        exact⟨k+1,⟨by omega,fL h2 (by omega) (aD7 (by omega) (by simp_all) (by simp_all)) (fun h0=>oT.2 ⟨by omega,fun e=>by first | omega | exact absurd e (by assumption) | exact absurd e (xH (by assumption)) | exact absurd e (xG (by assumption))⟩)⟩,by omega,cU rfl⟩
      ·
       simp only[bs] at hg5
       refine bC aA 10 rfl (bE rfl rfl ?_)
       refine bE rfl rfl ?_
       refine bE rfl rfl ?_
       refine bE rfl rfl ?_
       refine bE rfl rfl ?_
       refine bE rfl rfl ?_
       refine bE rfl rfl ?_
       refine bE rfl rfl ?_
       refine bE rfl rfl ?_
       refine bE rfl rfl ?_
       refine bE rfl rfl ?_
       refine bC aA 3 rfl (dC [0,5,6,7,56] rfl rfl rfl (hK11 _ (bP rfl (aC (fun K13 hK13=>(aB (aE aA 1 rfl (aD (hK13 _ (aM ?_))))))))))
       refine⟨_,rfl,?_⟩
       refine aQ ?_
       rw[fF h2 (by omega) (by omega) (aCn (by first | exact .inl (by omega) | exact .inr ⟨by first | assumption | exact aHz (by assumption) (by assumption),by omega⟩))]
     ·
      simp only[bs] at hg4
      refine bC aA 9 rfl (bE rfl rfl ?_)
      refine bE rfl rfl ?_
      refine bE rfl rfl ?_
      refine bE rfl rfl ?_
      refine bE rfl rfl ?_
      refine bE rfl rfl ?_
      refine bE rfl rfl ?_
      refine bE rfl rfl ?_
      refine bE rfl rfl ?_
      refine bE rfl rfl ?_
      refine bE rfl rfl ?_
      refine bE rfl rfl ?_
      refine bE rfl rfl ?_
      refine bE rfl rfl ?_
      refine bE rfl rfl ?_
      refine bE rfl rfl ?_
      refine bE rfl rfl ?_
      refine bE rfl rfl ?_
      refine bE rfl rfl ?_
      refine bE rfl rfl ?_
      refine bE rfl rfl ?_
      refine bE rfl rfl ?_
      refine bC aA 2 rfl (dC [0,5,6,7,56] rfl rfl rfl (hK11 _ (bZ rfl (aR (hK6 _ (aB ?_))))))
      refine aI rfl (bQ rfl rfl (by omega) (by omega)) ?_
      refine aE aA 1 rfl (aD ?_)
      exact⟨k+1,⟨by omega,fL h2 (by omega) (aD7 (by omega) (by simp_all) (by simp_all)) (fun h0=>oT.2 ⟨by omega,fun e=>by first | omega | exact absurd e (by assumption) | exact absurd e (xH (by assumption)) | exact absurd e (xG (by assumption))⟩)⟩,by omega,cU rfl⟩
   ·
    simp only[bs] at hg2
    refine aE aA 4 rfl (aD (hK9 _ (bP rfl (aC (fun K14 hK14=>(aB (aE aA 1 rfl (aD (hK14 _ (aM ?_))))))))))
    refine⟨_,rfl,?_⟩
    refine aQ ?_
    rw[eT h2 (by omega) (aKe (by first | exact .inl (by omega) | exact .inr (.inl (by assumption)) | exact .inr (.inr (.inl (by assumption))) | exact .inr (.inr (.inr (by assumption))) | (simp_all; done)))]
  ·
   simp only[bs] at hc1
   refine bI (hK2 _ (aC (fun K15 hK15=>(aB (aE aA 1 rfl (aD (hK15 _ (aM ?_))))))))
   refine⟨_,rfl,?_⟩
   refine aQ ?_
   rw[oA h2 (by omega)]
theorem aF0 (l:List En) (hl:l.length≤9223372036854775807) (ht:∀ e∈l,TS e.1.1∧TS e.1.2) :Den Tryz.prog 47 [.sl 4 (l.map enC)]  (·=.s (.bool (qQ l))):=by
 refine aY Tryz.func47 rfl (Nat.le_of_ble_eq_true rfl) (fun w0 A hf=>(aC (fun K1 hK1=>(aB (aE aA 1 rfl (aD (hK1 _ (aC (fun K2 hK2=>(aC (fun K3 hK3=>(aB (aE aA 1 rfl (aD (hK3 _ (aU ?_))))))))))))))))
 refine bW (ι:=Nat) (fun k=>⟨75,[(0,.sl 4 (l.map enC)),(3,.s (.int .i64 (k:Nat)))],[]⟩) (fun k=>k≤l.length∧qQ l=mK okE aGz (gU l k) (l.drop k)) (fun k=>l.length - k) 0 ?_ ?_ ?_
 · exact⟨Nat.zero_le _,rfl⟩
 · exact cU rfl
 ·
  rintro k hC
  obtain ⟨h1,h2⟩:=hC
  refine aC (fun K4 hK4=>(aC (fun K5 hK5=>(aB (aE aA 4 rfl (aD (hK5 _ (aO rfl (fun hc1=>?_) (fun hc1=>?_)))))))))
  ·
   simp only[bs] at hc1
   refine aR (hK4 _ (aC (fun K6 hK6=>(aU (aC (fun K7 hK7=>(aB (aE aA 2 rfl ?_))))))))
   refine aI rfl (bJ rfl rfl qN lF (by first | exact ixm (by omega) | assumption | exact⟨by decide,rfl⟩)) ?_
   refine aE aA 1 rfl (cC hf rfl aE6 rfl lF rfl rfl rfl rfl (lf rfl) (aD (hK7 _ (aC (fun K8 hK8=>(aC (fun K9 hK9=>(aB (aE aA 6 rfl (bA rfl rfl rfl (fun hg2=>?_) (fun hg2=>?_)))))))))))
   ·
    simp only[bs] at hg2
    refine aI rfl (bM rfl aLu cT rfl) ?_
    refine aE aA 1 rfl (bF rfl rfl rfl (aN hf rfl (aP rfl rfl nO rfl (Nm.refRight_den _ (by first | assumption | exact(ht _ (List.getElem_mem _)).1 | exact(ht _ (List.getElem_mem _)).2))) ?_))
    refine aE aA 3 rfl (bA rfl rfl rfl (fun hg3=>?_) (fun hg3=>?_))
    ·
     simp only[bs] at hg3
     refine aI rfl (bM rfl aLt cT rfl) ?_
     refine aE aA 1 rfl (bF rfl rfl rfl (aN hf rfl (aP rfl rfl nO rfl (Nm.refRight_den _ (by first | assumption | exact(ht _ (List.getElem_mem _)).1 | exact(ht _ (List.getElem_mem _)).2))) ?_))
     refine aE aA 2 rfl (aD (hK9 _ (aO rfl (fun hc4=>?_) (fun hc4=>?_))))
     ·
      simp only[bs] at hc4
      refine aC (fun K10 hK10=>(aB (aE aA 1 rfl (aD (hK10 _ (aM ?_))))))
      refine⟨_,rfl,?_⟩
      refine aQ ?_
      rw[eT h2 (by omega) (aKe (by first | exact .inl (by omega) | exact .inr (.inl (by assumption)) | exact .inr (.inr (.inl (by assumption))) | exact .inr (.inr (.inr (by assumption))) | (simp_all; done)))]
     ·
      simp only[bs] at hc4
      refine aR (hK8 _ (aC (fun K11 hK11=>(aC (fun K12 hK12=>(aB (aE aA 2 rfl (aD (hK12 _ (aO rfl (fun hc5=>?_) (fun hc5=>?_)))))))))))
      ·
       simp only[bs] at hc5
       refine bI (hK6 _ (aB (aE aA 1 rfl ?_)))
       refine aI rfl (bQ rfl rfl (by omega) (by omega)) ?_
       refine aE aA 1 rfl (aD ?_)
       exact⟨k+1,⟨by omega,fL h2 (by omega) (aD7 (by omega) (by simp_all) (by simp_all)) (fun h0=>oT.2 ⟨by omega,fun e=>by first | omega | exact absurd e (by assumption) | exact absurd e (xH (by assumption)) | exact absurd e (xG (by assumption))⟩)⟩,by omega,cU rfl⟩
      ·
       simp only[bs] at hc5
       refine aR (hK11 _ (aC (fun K13 hK13=>(dE hf bK (by kernel_rfl) rfl (bC aA 2 rfl ?_)))))
       refine bN [(35,_)] rfl rfl ⟨⟨rfl,rfl⟩,trivial⟩ rfl (eU rfl rfl (by omega) (by omega)) ?_
       refine bN [(34,_),(36,_)] rfl rfl ⟨⟨rfl,rfl⟩,⟨rfl,rfl⟩,trivial⟩ rfl (bJ rfl rfl qN lF (gQ (k:=k - 1) (by omega) (by omega))) (bC aA 2 rfl (bT [(38,_),(39,_)] rfl rfl ⟨⟨rfl,rfl⟩,⟨rfl,rfl⟩,trivial⟩ rfl (aP rfl rfl aO2 rfl (aOu _ _ (ht _ (List.getElem_mem _)).1 (ht _ (List.getElem_mem _)).2 (ht _ (List.getElem_mem _)).1 (ht _ (List.getElem_mem _)).2)) (bC aA 2 rfl (eI 42 false rfl (fun hg6=>?_) (fun hg6=>?_)))))
       ·
        simp only[bs] at hg6
        refine bC aA 2 rfl ?_
        refine bN [(44,_)] rfl rfl ⟨⟨rfl,rfl⟩,trivial⟩ rfl (eU rfl rfl (by omega) (by omega)) ?_
        refine bN [(43,_),(45,_)] rfl rfl ⟨⟨rfl,rfl⟩,⟨rfl,rfl⟩,trivial⟩ rfl (bJ rfl rfl qN lF (gQ (k:=k - 1) (by omega) (by omega))) (bC aA 6 rfl (eI 52 true rfl (fun hg7=>?_) (fun hg7=>?_)))
        ·
         simp only[bs] at hg7
         refine bC aA 2 rfl ?_
         refine bN [(54,_)] rfl rfl ⟨⟨rfl,rfl⟩,trivial⟩ rfl (eU rfl rfl (by omega) (by omega)) ?_
         refine bN [(53,_),(55,_)] rfl rfl ⟨⟨rfl,rfl⟩,⟨rfl,rfl⟩,trivial⟩ rfl (bJ rfl rfl qN lF (gQ (k:=k - 1) (by omega) (by omega))) (bC aA 7 rfl (eI 63 true rfl (fun hg8=>?_) (fun hg8=>?_)))
         ·
          simp only[bs] at hg8
          refine bC aA 2 rfl ?_
          refine bN [(65,_)] rfl rfl ⟨⟨rfl,rfl⟩,trivial⟩ rfl (eU rfl rfl (by omega) (by omega)) ?_
          refine bN [(64,_),(66,_)] rfl rfl ⟨⟨rfl,rfl⟩,⟨rfl,rfl⟩,trivial⟩ rfl (bJ rfl rfl qN lF (gQ (k:=k - 1) (by omega) (by omega))) (bC aA 7 rfl (dC [0,3,74] rfl rfl rfl (hK13 _ (aO rfl (fun hc9=>?_) (fun hc9=>?_)))))
          ·
           simp only[bs] at hc9
           refine aC (fun K14 hK14=>(aB (aE aA 1 rfl (aD (hK14 _ (aM ?_))))))
           refine⟨_,rfl,?_⟩
           refine aQ ?_
           rw[fF h2 (by omega) (by omega) (aCn (by first | exact .inl (by omega) | exact .inr ⟨by first | assumption | exact aHz (by assumption) (by assumption),by omega⟩))]
          ·
           simp only[bs] at hc9
           refine aR (hK6 _ (aB (aE aA 1 rfl ?_)))
           refine aI rfl (bQ rfl rfl (by omega) (by omega)) ?_
           refine aE aA 1 rfl (aD ?_)
           exact⟨k+1,⟨by omega,fL h2 (by omega) (aD7 (by omega) (by simp_all) (by simp_all)) (fun h0=>oT.2 ⟨by omega,fun e=>by first | omega | exact absurd e (by assumption) | exact absurd e (xH (by assumption)) | exact absurd e (xG (by assumption))⟩)⟩,by omega,cU rfl⟩
         ·
          simp only[bs] at hg8
          refine bC aA 11 rfl (dC [0,3,74] rfl rfl rfl (hK13 _ (bZ rfl (aR (hK6 _ (aB (aE aA 1 rfl ?_)))))))
          refine aI rfl (bQ rfl rfl (by omega) (by omega)) ?_
          refine aE aA 1 rfl (aD ?_)
          exact⟨k+1,⟨by omega,fL h2 (by omega) (aD7 (by omega) (by simp_all) (by simp_all)) (fun h0=>oT.2 ⟨by omega,fun e=>by first | omega | exact absurd e (by assumption) | exact absurd e (xH (by assumption)) | exact absurd e (xG (by assumption))⟩)⟩,by omega,cU rfl⟩
        ·
         simp only[bs] at hg7
         refine bC aA 22 rfl (dC [0,3,74] rfl rfl rfl (hK13 _ (bZ rfl (aR (hK6 _ (aB (aE aA 1 rfl ?_)))))))
         refine aI rfl (bQ rfl rfl (by omega) (by omega)) ?_
         refine aE aA 1 rfl (aD ?_)
         exact⟨k+1,⟨by omega,fL h2 (by omega) (aD7 (by omega) (by simp_all) (by simp_all)) (fun h0=>oT.2 ⟨by omega,fun e=>by first | omega | exact absurd e (by assumption) | exact absurd e (xH (by assumption)) | exact absurd e (xG (by assumption))⟩)⟩,by omega,cU rfl⟩
       ·
        simp only[bs] at hg6
        refine bC aA 10 rfl (bE rfl rfl ?_)
        refine bE rfl rfl ?_
        refine bE rfl rfl ?_
        refine bE rfl rfl ?_
        refine bE rfl rfl ?_
        refine bE rfl rfl ?_
        refine bE rfl rfl ?_
        refine bE rfl rfl ?_
        refine bE rfl rfl ?_
        refine bC aA 2 rfl (bE rfl rfl ?_)
        refine bE rfl rfl ?_
        refine bE rfl rfl ?_
        refine bE rfl rfl ?_
        refine bE rfl rfl ?_
        refine bE rfl rfl ?_
        refine bE rfl rfl ?_
        refine bE rfl rfl ?_
        refine bE rfl rfl ?_
        refine bC aA 2 rfl (dC [0,3,74] rfl rfl rfl (hK13 _ (bP rfl (aC (fun K15 hK15=>(aB (aE aA 1 rfl (aD (hK15 _ (aM ?_))))))))))
        refine⟨_,rfl,?_⟩
        refine aQ ?_
        rw[fF h2 (by omega) (by omega) (aCn (by first | exact .inl (by omega) | exact .inr ⟨by first | assumption | exact aHz (by assumption) (by assumption),by omega⟩))]
    ·
     simp only[bs] at hg3
     refine aE aA 4 rfl (aD (hK9 _ (bP rfl (aC (fun K16 hK16=>(aB (aE aA 1 rfl (aD (hK16 _ (aM ?_))))))))))
     refine⟨_,rfl,?_⟩
     refine aQ ?_
     rw[eT h2 (by omega) (aKe (by first | exact .inl (by omega) | exact .inr (.inl (by assumption)) | exact .inr (.inr (.inl (by assumption))) | exact .inr (.inr (.inr (by assumption))) | (simp_all; done)))]
   ·
    simp only[bs] at hg2
    refine aE aA 10 rfl (aD (hK9 _ (bP rfl (aC (fun K17 hK17=>(aB (aE aA 1 rfl (aD (hK17 _ (aM ?_))))))))))
    refine⟨_,rfl,?_⟩
    refine aQ ?_
    rw[eT h2 (by omega) (aKe (by first | exact .inl (by omega) | exact .inr (.inl (by assumption)) | exact .inr (.inr (.inl (by assumption))) | exact .inr (.inr (.inr (by assumption))) | (simp_all; done)))]
  ·
   simp only[bs] at hc1
   refine bI (hK2 _ (aC (fun K18 hK18=>(aB (aE aA 1 rfl (aD (hK18 _ (aM ?_))))))))
   refine⟨_,rfl,?_⟩
   refine aQ ?_
   rw[oA h2 (by omega)]
theorem aQw (a b:List En) (ha:a.length≤9223372036854775807) (hb:b.length≤9223372036854775807) :Den Tryz.prog 81 [.sl 4 (a.map enC),.sl 4 (b.map enC)]  (·=.s (.bool (decide (a=b)))):=by
 refine aY Tryz.func81 rfl (Nat.le_of_ble_eq_true rfl) (fun w0 A hf=>(aC (fun K1 hK1=>(aB (aE aA 1 rfl (aD (hK1 _ (aC (fun K2 hK2=>(aB (aE aA 2 rfl (aN hf rfl (aP rfl rfl aNf rfl (aOm a b ha hb)) (aE aA 1 rfl (aD (hK2 _ ?_)))))))))))))))
 refine aM ?_
 refine⟨_,rfl,?_⟩
 rfl
theorem lT (l:List En) (hl:l.length*48+48≤140737488355328) :Den Tryz.prog 52 [.sl 4 (l.map enC)]  (·=.sl 4 (l.map enC)):=by
 refine aY Tryz.func52 rfl (Nat.le_of_ble_eq_true rfl) (fun w0 A hf=>(aC (fun K1 hK1=>(aB (aI rfl (bX) (aD (hK1 _ (aC (fun K2 hK2=>(aB (qS hf 4 rfl rfl rfl (aD (hK2 _ (aC (fun K3 hK3=>(aC (fun K4 hK4=>?_)))))))))))))))))
 refine aB (aE aA 3 rfl (aD (hK4 _ (aU (bW (ι:=Nat) (fun k=>⟨26,[(3,.own 3 4 0 (l.take k).length),(6,.sl 4 (l.map enC)),(7,.s (.int .i64 ((l.map enC).length:Nat))),(8,.s (.int .i64 (k:Nat)))],[(3,.buf 4 ((l.take k).map enC))]⟩) (fun k=>k≤l.length) (fun k=>l.length - k) 0 ?_ ?_ ?_)))))
 · exact Nat.zero_le _
 · exact cU rfl
 ·
  rintro k hC
  refine aC (fun K5 hK5=>(aB (aE aA 1 rfl (aD (hK5 _ (aC (fun K6 hK6=>(aO rfl (fun hc1=>?_) (fun hc1=>?_)))))))))
  ·
   simp only[bs] at hc1
   refine aR (hK6 _ (aC (fun K7 hK7=>(aU (aC (fun K8 hK8=>(aB ?_)))))))
   refine aI rfl (bJ rfl rfl qN lF (by first | exact ixm (by omega) | assumption | exact⟨by decide,rfl⟩)) ?_
   refine aE aA 1 rfl (cC hf rfl aE6 rfl lF rfl rfl rfl rfl (lf rfl) (aD (hK8 _ (aB ?_))))
   have htl:(l.take k).length=k:=by rw[List.length_take]; omega
   refine aE aA 9 rfl (aN hf rfl (aP rfl rfl aO0 rfl (one_den _ _ _ _)) (aN hf rfl (bR jO rfl rfl rfl rfl (l2 rfl)) (dQ hf rfl jO rfl rfl rfl (.inl rfl) (by rw[List.length_map]) rfl (by first | rfl | simp [iS,bU]) (by first | (simp only[maxLen,List.length_map,List.length_append,List.length_cons,List.length_nil]; omega) | (simp [maxLen] <;> omega)) (by first | (simp only[List.length_map,List.length_append,List.length_cons,List.length_nil]; omega) | (simp <;> omega)) ?_)))
   refine cB (iK [6,7,8,23] rfl) (aE aA 1 rfl ?_)
   refine bV ?_
   refine hK7 _ (aB ?_)
   refine aI rfl (bQ rfl rfl (by omega) (by omega)) ?_
   refine aE aA 1 rfl (aD ?_)
   exact⟨k+1,by omega,by omega,cN ⟨(by rw[pB l k (by omega)]; rfl),rfl,rfl,rfl,trivial⟩ (by rw[pM l enC k (by omega)]; rfl)⟩
  ·
   simp only[bs] at hc1
   refine bI (hK3 _ (aC (fun K9 hK9=>(aB (aE aA 2 rfl (aD (hK9 _ (aM ?_))))))))
   refine⟨_,rfl,?_⟩
   refine(cL (g:=3) rfl (by rw[List.length_map])).trans ?_
   rw[List.take_of_length_le (by omega)]
end Go.Proofs.YtijnkglkchhomaaGreat
set_option linter.unusedVariables false
set_option linter.unusedSimpArgs false
namespace Go.Proofs.YtijnkglkchhomaaGreat
open Go Go.Abs
end Go.Proofs.YtijnkglkchhomaaGreat
set_option linter.unusedVariables false
set_option linter.unusedSimpArgs false
namespace Go.Proofs.YtijnkglkchhomaaGreat
open Go Go.Abs
end Go.Proofs.YtijnkglkchhomaaGreat
set_option linter.unusedVariables false
namespace Go.Proofs.YtijnkglkchhomaaGreat
open Go Go.Abs Go.RowKit Go.Lib Go.Sort
theorem yB {P:Program} {ops:Array Oper} {o:Oper} {a:Act} {w:World} {K:Act→World→Prop} {Q:Exit→Act→World→Prop} {E:Prop}
    (hg:o.guard=none) (s x:Operand) (t:TypeId) (hop:o.op=Op.call { callee:=Callee.builtin Builtin.append,args:=#[s,x],argTypes:=#[t,t] })
    {e k:Nat} (ht:elem? P t=some e) (hk:cells? P e=some k) {T:TypeId} (g n cap:Nat) (hs:a.eval s=.slice (some ⟨g,0,none⟩) n cap)
    (cur:Array Value) (hg0:w.heap[g]?=some (.cells cur T (0,0))) (ad:Addr) (m c:Nat) (news:List Value) (hx:a.eval x=.slice (some ad) m c) (hl:news.length=m*k)
    (hnews:∀ j u,news[j]?=some u→w.cell? (ad.add j)=some u) (h1:∀ u∈news,u.oneCell'=true) (hroom:n+m≤cap) (hfit:n*k+news.length≤cur.size)
    (hK:K (a.put o.dst (.slice (some ⟨g,0,none⟩) (n+m) cap)) (w.setRow g (cur.toList.take (n*k)++news++cur.toList.drop (n*k+news.length)).toArray)) :
    if Region.wanted o (yielded ops a.tmps)=true then Oper.wp P o a w K Q else E:=by
  have hw:Region.wanted o (yielded ops a.tmps)=true:=by simp [Region.wanted,hg]
  rw[if_pos hw]
  have hrun:=nF (P:=P) (t:=t) (ty:=o.type) ht hk g n cap cur hg0 ad m c news hl hnews h1 hroom hfit
  unfold Oper.wp
  have he:(execOp a.eval o).run P w=((Builtin.append_ #[t,t] o.type #[a.eval s,a.eval x]).run P w).andThen fun v w'=>.ok (.value v) w':=by
    simp [execOp,hop,resolve,invoke,builtin]
  rw[he,hs,hx,hrun]
  exact hK
theorem aHr (w:World) (b:Nat) (c1 c2:Array Value):(w.setRow b c1).setRow b c2=w.setRow b c2:=by
  unfold World.setRow
  congr 1
  apply Array.ext
  · simp
  · intro i h1 h2
    simp only[Array.getElem_modify]
    split
    · generalize w.heap[i]'(by simpa using h2)=x
      cases x <;> rfl
    · rfl
set_option maxRecDepth 1000000 in
theorem aIk (b cap n i j:Nat) (cur:Array Value) (T:TypeId) (w:World) (hh:w.heap[b]?=some (.cells cur T (0,0))) (hsz:cap*4≤cur.size) (hn:n≤cap) (hm:cap≤9223372036854775807) (hij:j=i+1) (hi:i<n)
    (hone:∀ (j:Nat) (v:Value),j<n*4→cur[j]?=some v→v.oneCell'=true) :
    Calls Tryz.prog 204 #[.slice (some ⟨b,0,none⟩) n cap,.int .i64 i,.int .i64 ((j:Nat):Int)] w fun e w'=>e=.returned (.slice (some ⟨b,0,none⟩) (n - 1) cap) ∧
      ∃ cs,w'=w.drew.setRow b cs∧cs.size=cur.size∧∀ q,q<(n - 1)*4→cs[q]?=if q<i*4 then cur[q]? else cur[q+4]?:=by
  have hh':w.drew.heap[b]?=some (.cells cur T (0,0)):=hh
  have hcell:∀ j,j<cap*4→w.drew.cell? ⟨b,j,none⟩=cur[j]?:=fun j hj=>by simp [World.cell?,hh']
  obtain ⟨news,hnews⟩:∃ news,news=(cur.toList.drop (j*4)).take ((n - j)*4):=⟨_,rfl⟩
  have hlen:news.length=(n - j)*4:=by
    rw[hnews]; simp only[List.length_take,List.length_drop,Array.length_toList]; omega
  have hget:∀ t,t<(n - j)*4→news[t]?=cur[j*4+t]?:=fun t ht=>by
    rw[hnews,List.getElem?_take,if_pos ht,List.getElem?_drop,Array.getElem?_toList]
  obtain ⟨A,hA,hsrc⟩:∃ A:Addr,(if cap=j then some (⟨b,0,none⟩:Addr) else some ⟨b,j*4,none⟩)=some A∧Hid (∀ t u,news[t]?=some u→w.drew.cell? (A.add t)=some u):=by
    by_cases h:cap=j
    · refine⟨⟨b,0,none⟩,by simp [h],fun t u hu=>?_⟩
      have h0:news.length=0:=by rw[hlen]; omega
      rw[List.length_eq_zero_iff.1 h0] at hu
      simp at hu
    · refine⟨⟨b,j*4,none⟩,by simp [h],fun t u hu=>?_⟩
      have ht:t<(n - j)*4:=by
        have:=(List.getElem?_eq_some_iff.1 hu).1
        rwa [hlen] at this
      rw[hget t ht] at hu
      rw[Addr.add_lit]
      exact(hcell _ (by omega)).trans hu
  obtain ⟨he,hck,hk0,i0,z,hi0,hzz,hik,hby,hzc⟩:=appT?_inv jO
  have s1:Hid (news.length=(n - j)*4):=hlen
  have s2:Hid (∀ u∈news,u.oneCell'=true):=by
    intro u hu
    obtain ⟨t,ht⟩:=List.getElem?_of_mem hu
    have ht2:=(List.getElem?_eq_some_iff.1 ht).1
    rw[hlen] at ht2
    rw[hget t ht2] at ht
    exact hone _ _ (by omega) ht
  have s3:Hid (i*4+news.length≤cur.size):=by show i*4+news.length≤cur.size; rw[hlen]; omega
  have s4:Hid (w.drew.heap[b]?=some (.cells cur T (0,0))):=hh'
  obtain ⟨cs1,hcs1⟩:∃ cs1,cs1=(cur.toList.take (i*4)++news++cur.toList.drop (i*4+news.length)).toArray:=⟨_,rfl⟩
  have hc1s:cs1.size=cur.size:=by
    rw[hcs1]; simp only[List.size_toArray,List.length_append,List.length_take,List.length_drop,Array.length_toList,hlen]; omega
  obtain ⟨W1,hW1⟩:∃ W1,W1=w.drew.setRow b cs1:=⟨_,rfl⟩
  have hb1:W1.heap[b]?=some (.cells cs1 T (0,0)):=by rw[hW1]; exact setRow_heap _ b cur cs1 T _ hh'
  have hW:Hid (W1=w.drew.setRow b (cur.toList.take (i*4)++news++cur.toList.drop (i*4+news.length)).toArray):=by rw[← hcs1]; exact hW1
  have hrz:(zeroValue 147).run Tryz.prog W1=.ok z W1:=by simp [zeroValue,typeInfo,hi0,hzz]
  have hz1:∀ u∈z.cells.toList,u.oneCell'=true:=by
    have hz:=mD
    unfold zeros? at hz
    simp [hi0,hzz] at hz
    intro u hu
    rw[hz] at hu
    simp at hu
    rcases hu with rfl | rfl <;> rfl
  have hzl:(Builtin.zeroCells z.cells (n - (i+(n - j)))).toList.length=4:=by rw[Array.length_toList,size_zeroCells,hzc]; omega
  have hst:=run_storeCells_at Tryz.prog b ((i+(n - j))*4) T (Builtin.zeroCells z.cells (n - (i+(n - j)))).toList 0 cs1 W1 hb1 (by rw[hzl,hc1s]; omega) (fun u hu=>hz1 u (wO (by rw[hzc]; exact hk0) hu))
  simp only[Nat.add_zero] at hst
  obtain ⟨cs2,hcs2⟩:∃ cs2,cs2=(cs1.toList.take ((i+(n - j))*4)++(Builtin.zeroCells z.cells (n - (i+(n - j)))).toList++cs1.toList.drop ((i+(n - j))*4+(Builtin.zeroCells z.cells (n - (i+(n - j)))).toList.length)).toArray:=⟨_,rfl⟩
  rw[← hcs2] at hst
  have hcl:∀ ty,(Builtin.clear_ #[36] ty #[.slice (some ⟨b,(i+(n - j))*4,none⟩) (n - (i+(n - j))) (cap - (i+(n - j)))]).run Tryz.prog W1=.ok (.tuple #[]) (W1.setRow b cs2):=fun ty=>by
    have h0:¬ (n - (i+(n - j))=0):=by omega
    simp [Builtin.clear_,run_underlying (elem?_inv he),h0,hrz,hst]
  have hlt:i<j:=by omega
  have hjn:j≤n:=by omega
  have hic:i≤cap:=by omega
  have hjc:j≤cap:=by omega
  have hfin:W1.setRow b cs2=w.drew.setRow b cs2∧cs2.size=cur.size∧∀ q,q<(n - 1)*4→cs2[q]?=if q<i*4 then cur[q]? else cur[q+4]?:=by
    have hnj:(i+(n - j))*4=(n - 1)*4:=by rw[hij]; omega
    refine⟨?_,?_,?_⟩
    · rw[hW1]; exact aHr _ _ _ _
    · rw[hcs2]; simp only[List.size_toArray,List.length_append,List.length_take,List.length_drop,hzl,Array.length_toList,hc1s]; omega
    · intro q hq
      have e2:cs2[q]?=cs1[q]?:=by
        rw[hcs2,List.getElem?_toArray,List.append_assoc,List.getElem?_append_left (by simp only[List.length_take,Array.length_toList]; omega),List.getElem?_take,if_pos (by omega),Array.getElem?_toList]
      rw[e2,hcs1,List.getElem?_toArray,List.append_assoc]
      by_cases h:q<i*4
      · rw[if_pos h,List.getElem?_append_left (by simp only[List.length_take,Array.length_toList]; omega),List.getElem?_take,if_pos h,Array.getElem?_toList]
      · have hlt:(cur.toList.take (i*4)).length=i*4:=by simp only[List.length_take,Array.length_toList]; omega
        rw[if_neg h,List.getElem?_append_right (by omega),hlt,List.getElem?_append_left (by rw[hlen]; omega),hget _ (by omega)]
        congr 1
        omega
  have hfin':=show Hid _ from hfin
  clear hW1 hb1 hcs1 hcs2 hst hnews hget hfin hh' hcell hh hone hc1s hzl
  have hij2:Hid (j=i+1):=hij
  clear hij
  go_enter Tryz.func204,Tryz.ntmps204
  go_wp2_with fail
  go_region_law (refine yB rfl (.tmp 22) (.tmp 25) 36 rfl he hck b i cap (by simp [Act.eval,Act.put]) cur s4.out A (n - j) (cap - j) news (by simp [Act.eval,Act.put]) s1.out hsrc.out s2.out (by omega) s3.out ?_; rw[← hW.out])
  go_wp2
  go_ret
  have h1:j=i+1:=hij2
  refine⟨?_,cs2,hfin'⟩
  rw[show n - 1=i+(n - j) by omega]
  rfl
theorem aK8 (xs:List (List AV)) (n i:Nat) (z:Int) (hz:z=((i+1:Nat):Int)) (hn:n=xs.length) (hi:i<n):DenM Tryz.prog 204 [.own E0 4 0 n,.s (.int .i64 (i:Nat)),.s (.int .i64 z)] 4 xs (fun r ys=>r=.own E0 4 0 (n - 1)∧ys=xs.take i++xs.drop (i+1)):=by
  subst hz
  intro A w x vals hA hx hr hb
  obtain ⟨v0,v1,v2,rfl⟩:∃ v0 v1 v2,vals=[v0,v1,v2]:=by
    have:=hr.1
    match vals,this with
    | [a,b,c],_=>exact⟨a,b,c,rfl⟩
  have r0:=hr.2 0 _ v0 rfl rfl
  have r1:=hr.2 1 _ v1 rfl rfl
  have r2:=hr.2 2 _ v2 rfl rfl
  cases r1
  cases r2
  rcases hb with ⟨hb,_⟩ | ⟨b,cur,T,hbE,hh,hcs,hck,hcell⟩
  · rw[hb] at hn; simp at hn; omega
  have hxb:=(jB hbE).2
  subst hxb
  have hbs:b<w.heap.size:=(Array.getElem?_eq_some_iff.1 hh).1
  obtain ⟨cap,hcap,hcm,hsz,rfl⟩:∃ cap,n≤cap∧cap≤9223372036854775807∧cap*4≤cur.size∧v0=.slice (some ⟨b,0,none⟩) n cap:=by
    cases r0 with
    | ownn _ _ _=>omega
    | own _ _ _ _ b' cap cur' T' hg h1 h2 h3 h4 =>
      have:=(jB hg).2; cases this
      rw[hh] at h3; cases h3
      exact⟨cap,h1,by simpa [maxLen] using h2,by omega,by simp⟩
    | own0 _ _ _ _ _ _=>omega
  have hleaf:∀ (j:Nat) (y:List AV) (q:Nat) (a:AV),xs[j]?=some y→y[q]?=some a→a.leaf=true∧q<4:=fun j y q a hy ha =>
    ⟨(hck y (List.mem_of_getElem? hy)).2 a (List.mem_of_getElem? ha),by rw[← (hck y (List.mem_of_getElem? hy)).1]; exact(List.getElem?_eq_some_iff.1 ha).1⟩
  have hone:∀ (j:Nat) (v:Value),j<n*4→cur[j]?=some v→v.oneCell'=true:=fun j v hj hv=>by
    have hj4:j / 4<xs.length:=by rw[← hn]; omega
    have hy:xs[j / 4]?=some xs[j / 4]:=List.getElem?_eq_getElem hj4
    have hl:=(hck _ (List.mem_of_getElem? hy)).1
    obtain ⟨u,hu,hru⟩:=hcell (j / 4) _ (j % 4) _ hy (List.getElem?_eq_getElem (by rw[hl]; omega))
    rw[show j / 4*4+j % 4=j by omega,hv] at hu
    cases hu
    exact hru.one (AV.one_of_leaf (hleaf _ _ (j % 4) _ hy (List.getElem?_eq_getElem (by rw[hl]; omega))).1)
  refine(aIk b cap n i (i+1) cur T w hh hsz hcap hcm rfl hi hone).mono ?_
  rintro e w' ⟨rfl,cs,rfl,hcsz,hget⟩
  have hb':(w.drew.setRow b cs).heap[b]?=some (.cells cs T (0,0)):=setRow_heap _ b cur cs T _ hh
  have hoth:∀ b',b'≠b→(w.drew.setRow b cs).heap[b']?=w.heap[b']?:=fun b' hne=>setRow_other w.drew b b' cs hne
  have hwsz:(w.drew.setRow b cs).heap.size=w.heap.size:=by
    show (w.drew.setRow b cs).heap.size=w.drew.heap.size
    simp [World.setRow]
  have hne:∀ b',Stable w (gB (some b) A) b'→b'≠b:=fun b' hb' h=>hb'.2.1 E0 (by rw[gH,h])
  have hstab:∀ b',Stable w (gB (some b) A) b'→Stable (w.drew.setRow b cs) (gB (some b) A) b':=fun b' hb'=>⟨by rw[hwsz]; exact hb'.1,hb'.2⟩
  have hmv:∀ (a:AV) (v:Value),a.leaf=true→RelV w (gB (some b) A) a v→RelV (w.drew.setRow b cs) (gB (some b) A) a v :=
    fun a v hlf h=>h.move (ok:=fun _=>false) (fun b' hb'=>⟨hstab b' hb',hoth b' (hne b' hb')⟩) (fun _ _ h _=>by cases h) (AV.clean_of_leaf hlf)
  have hl2:(xs.take i++xs.drop (i+1)).length=n - 1:=by simp only[List.length_append,List.length_take,List.length_drop]; omega
  refine⟨_,.own E0 4 0 (n - 1),xs.take i++xs.drop (i+1),rfl,⟨rfl,rfl⟩,?_,?_,?_⟩
  · refine⟨rfl,⟨rfl,Nat.le_add_right _ _⟩,rfl,by rw[hwsz]; omega,rfl,fun b' hb'=>⟨hstab b' hb',hoth b' (hne b' hb')⟩,fun b' hb' hAb=>hoth b' (fun h=>hx b' (by rw[h]) hAb),fun g' x hg'=>?_⟩
    have:=jB hg'
    obtain ⟨rfl,rfl⟩:=this
    refine .inr ⟨gH _ _,fun b' hb' cur' T' hh'=>?_⟩
    cases hb'
    rw[hh] at hh'; cases hh'
    exact⟨_,by assumption,hcsz⟩
  · refine .inr ⟨b,cs,T,gH _ _,hb',?_,?_,?_⟩
    · rw[hl2,hcsz]; omega
    · intro y hy
      rcases List.mem_append.1 hy with hy | hy
      · exact hck y (List.mem_of_mem_take hy)
      · exact hck y (List.mem_of_mem_drop hy)
    · intro j y q a hy ha
      have hj:j<n - 1:=by rw[← hl2]; exact(List.getElem?_eq_some_iff.1 hy).1
      by_cases h:j<i
      · rw[List.getElem?_append_left (by simp only[List.length_take]; omega),List.getElem?_take,if_pos h] at hy
        obtain ⟨hlf,hq⟩:=hleaf j y q a hy ha
        obtain ⟨u,hu,hru⟩:=hcell j y q a hy ha
        refine⟨u,?_,hmv _ _ hlf hru⟩
        rw[hget _ (by omega),if_pos (by omega)]; exact hu
      · have htl:(xs.take i).length=i:=by simp only[List.length_take]; omega
        rw[List.getElem?_append_right (by omega),htl,List.getElem?_drop,show i+1+(j - i)=j+1 by omega] at hy
        obtain ⟨hlf,hq⟩:=hleaf (j+1) y q a hy ha
        obtain ⟨u,hu,hru⟩:=hcell (j+1) y q a hy ha
        refine⟨u,?_,hmv _ _ hlf hru⟩
        rw[hget _ (by omega),if_neg (by omega),← hu]
        congr 1; omega
  · have:=RelV.own (w:=w.drew.setRow b cs) (p:=gB (some b) A) E0 4 0 (n - 1) b cap cs T (gH _ _) (by omega) (by simpa [maxLen] using hcm) hb' (by omega)
    simpa using this
end Go.Proofs.YtijnkglkchhomaaGreat
set_option linter.unusedVariables false
set_option linter.unusedSimpArgs false
namespace Go.Proofs.YtijnkglkchhomaaGreat
open Go Go.Abs
theorem aN8 (l:List En) (p:Pr) (t:Int) (hl:l.length*48+48≤140737488355328) :Den Tryz.prog 158 [.sl 4 (l.map enC),.agg (prC p),.s (.int .i64 t)]  (·=.tup [.sl 4 ((if onB l p then jA l p t else []).map enC),.s (.int .i64 (if onB l p then 0 else 91))]):=by
 refine aY Tryz.func158 rfl (Nat.le_of_ble_eq_true rfl) (fun w0 A hf=>(aC (fun K1 hK1=>(aB (aN hf rfl (cS rfl rfl (lf rfl)) (aI rfl (bX) (aE aA 1 rfl (aD (hK1 _ (aC (fun K2 hK2=>(aB (aE aA 2 rfl (aN hf rfl (aP rfl rfl aBo rfl (aG6 _ _ (by omega))) (aE aA 1 rfl ?_)))))))))))))))
 refine aD (hK2 _ (aC (fun K3 hK3=>(aC (fun K4 hK4=>(aB (aE aA 2 rfl (aD (hK4 _ (aO rfl (fun hc1=>?_) (fun hc1=>?_)))))))))))
 ·
  simp only[bs] at hc1
  refine aC (fun K5 hK5=>(aB (aI rfl (aD0 (k:=4)) (aE aA 1 rfl (aD (hK5 _ (aM ?_)))))))
  refine⟨_,rfl,?_⟩
  rw[show onB l p=false from onB_f (by omega)]; rfl
 ·
  simp only[bs] at hc1
  obtain ⟨k,hk,ek,hk1,hk2⟩:∃ k:Nat,∃ h:k<l.length,oO (fX p) l=(k:Nat)∧fX p l[k]=true∧∀ (j:Nat) (hj:j<l.length),j<k→fX p l[j]=false:=by
    rcases eE (fX p) l with ⟨e,_⟩ | ⟨k',h1,e,h2,h3⟩
    · exfalso; omega
    · exact⟨k',h1,e,h2,h3⟩
  rw[ek]
  refine aR (hK3 _ (aC (fun K6 hK6=>(aB (aE aA 1 rfl (gP hf rfl rfl rfl rfl rfl nM rfl (nI _ (by omega)) ?_))))))
  rintro _ rfl
  refine aE aA 1 rfl (aD (hK6 _ (aC (fun K7 hK7=>(aB ?_)))))
  have hml:(l.map enC).length=l.length:=List.length_map _
  refine aE aA 3 rfl ?_
  refine aI rfl (cF rfl rfl eV dP (by omega)) ?_
  refine aE aA 2 rfl (bD hf rfl rfl cP rfl rfl (by simp [AV.cells,AV.one,Value.oneCell']) (by simp [AV.cells,AV.leaf,Value.oneCell']) (hU (c:=4) (k:=k) (f:=3) (enc:=enC) (v:=(l[k].1,(l[k].2.1,t))) (by omega) (by omega) rfl (Nat.le_refl _)) ?_)
  refine aD (hK7 _ (aC (fun K8 hK8=>(aC (fun K9 hK9=>(aB (aE aA 2 rfl ?_)))))))
  refine aI rfl (cF rfl rfl eV dP (by omega)) ?_
  refine aE aA 1 rfl (aI rfl (cD rfl aSh mI rfl (by rw[aD3 (c:=4) (k:=k) (enc:=enC) (by omega) (by rw[List.length_set]; omega),List.getElem_set_self]; rfl) (cs':=spC (l[k].2.1,t)) (by rw[aD3 (c:=4) (k:=k) (enc:=enC) (by omega) (by rw[List.length_set]; omega),List.getElem_set_self]; rfl)) ?_)
  refine aN hf rfl (aP rfl rfl mG rfl (sA _)) (aD (hK9 _ (aO rfl (fun hc2=>?_) (fun hc2=>?_))))
  ·
   simp only[bs] at hc2
   refine aB (aE aA 3 rfl ?_)
   refine aI rfl (bQ rfl rfl (by omega) (by omega)) ?_
   refine gE hf 16 rfl rfl rfl rfl rfl aL9 (aK8 (List.map enC (l.set k (l[k].1,(l[k].2.1,t)))) _ k _ (by omega) (by simp only[List.length_map,List.length_set] <;> omega) (by simp only[List.length_map] <;> omega)) ?_
   rintro r zs ⟨rfl,rfl⟩
   refine aE aA 1 rfl (aD (hK8 _ (aC (fun K10 hK10=>(aB (aE aA 3 rfl (aD (hK10 _ (aM ?_)))))))))
   refine⟨_,rfl,?_⟩
   rw[show onB l p=true from aTd hk hk1]
   (refine(congrArg (fun z=>AV.tup [z,.s (.int .i64 0)]) (cL (g:=16) rfl (by first | rfl | (simp only[List.length_map,List.length_append,List.length_take,List.length_drop,List.length_set]; omega)))).trans ?_; rw[if_pos rfl,if_pos rfl,← rev_del (v:=(l[k].1,(l[k].2.1,t))) hk hk2 hk1 (by omega),List.map_append,List.map_take,List.map_drop])
  ·
   simp only[bs] at hc2
   refine aR (hK8 _ (aC (fun K11 hK11=>(aB (aE aA 3 rfl (aD (hK11 _ (aM ?_))))))))
   refine⟨_,rfl,?_⟩
   rw[show onB l p=true from aTd hk hk1]
   (refine(congrArg (fun z=>AV.tup [z,.s (.int .i64 0)]) (cL (g:=16) rfl (by rw[List.length_map,List.length_map,List.length_set]))).trans ?_; rw[if_pos rfl,if_pos rfl,rev_set hk hk2 hk1 (by omega)])
end Go.Proofs.YtijnkglkchhomaaGreat
set_option linter.unusedVariables false
set_option linter.unusedSimpArgs false
namespace Go.Proofs.YtijnkglkchhomaaGreat
open Go Go.Abs
theorem aRt (s:Sta) (e:Ev) (hz:SzS 140737488355100 s) (hr:dG cM s.usr) (hr2:dG dH s.tmb) (hk:e.kind=1) :DenX Tryz.prog 88 [.agg (eA s E0 E1),.agg (evC e)] [(E0,.buf 2 (s.usr.map usC)),(E1,.buf 2 (s.tmb.map tmC))] (fun r m=>r=.tup [.agg (eA (bL s e).1 E0 E1),.s (.int .i64 (bL s e).2)]∧m=[(E0,.buf 2 ((bL s e).1.usr.map usC)),(E1,.buf 2 ((bL s e).1.tmb.map tmC))]):=by
 have z1:=hz.o
 have z2:=hz.u
 have z3:=hz.b
 have z4:=hz.t
 have q:=aD6 s.opn ((e.n,e.user),(e.st,e.at'))
 have hz2:SzS 140737488355200 ({ s with opn:=oS s.opn ((e.n,e.user),(e.st,e.at')) }):=⟨by show (oS s.opn ((e.n,e.user),(e.st,e.at'))).length*40≤_; omega,by show s.usr.length*40≤_; omega,by show s.sub.length*48≤_; omega,by show s.tmb.length*24≤_; omega,fun x hx=>by have:=hz.y x hx; omega⟩
 have hr3:dG cM (({ s with opn:=oS s.opn ((e.n,e.user),(e.st,e.at')) })).usr:=hr
 have hd:bL s e=(dZ ({ s with opn:=oS s.opn ((e.n,e.user),(e.st,e.at')) }) e.user (st0),sZ s.opn ((e.n,e.user),(e.st,e.at'))):=by
  rw[bL,if_pos hk]
  rw[mC (show st0.1.2≤st0.1.1 from Int.le_refl _)]
 rw[hd]
 refine iH [(E0,G0),(E1,G1)] Tryz.func88 rfl (Nat.le_of_ble_eq_true rfl) (args':=[.agg (eA s G0 G1),.agg (evC e)]) (m':=[(G0,.buf 2 (s.usr.map usC)),(G1,.buf 2 (s.tmb.map tmC))]) rfl rfl (by decide) (by decide) rfl (fun w0 o0 A hf=>?_)
 refine aC (fun K1 hK1=>(aB (rQ hf rfl rfl rfl rfl (l1 rfl) ?_)))
 refine aN hf rfl (cS rfl rfl (lf rfl)) (aZ hf rfl rfl rfl aX (aE aA 1 rfl (aD (hK1 _ (aC (fun K2 hK2=>(aB (aE aA 4 rfl (aI rfl (dD rfl gX mE (l3 rfl) rfl) (cC hf rfl gX rfl oL rfl rfl rfl rfl (lf rfl) (aD (hK2 _ (aC (fun K3 hK3=>?_))))))))))))))
 refine aB (aE aA 1 rfl (aD (hK3 _ (aC (fun K4 hK4=>(aB (aZ hf rfl rfl rfl dX (aD (hK4 _ (aC (fun K5 hK5=>(aC (fun K6 hK6=>(aB (aE aA 2 rfl ?_)))))))))))))))
 refine aD (hK6 _ (aU (aC (fun K7 hK7=>(aB (aI rfl (eO rfl rfl (rB (by omega))) (aE aA 1 rfl (aD (hK7 _ (bP rfl (aB (aE aA 10 rfl (aI rfl (dD rfl nK aOy (l3 rfl) rfl) ?_)))))))))))))
 refine aN hf rfl (aP rfl rfl aMz rfl (aOc s.opn ((e.n,e.user),(e.st,e.at')) (by omega))) (aE aA 4 rfl (bD hf rfl rfl jI rfl rfl (l1 rfl) (l4 rfl) rfl (aE aA 1 rfl ?_)))
 refine bV ?_
 refine hK5 _ (aC (fun K8 hK8=>(aB (aE aA 4 rfl (gO hf [(E0,G0),(E1,G1)] [(E0,G0),(E1,G1)] rfl rfl rfl rfl rfl rfl (by decide) (by decide) (by decide) rfl kJ (mB ({ s with opn:=oS s.opn ((e.n,e.user),(e.st,e.at')) }) e.user (st0) hz2 hr3) ?_)))))
 rintro r m1 ⟨rfl,rfl⟩
 rw[lR]
 refine cB (cN (sl':=[(4,.ref 4 0 0 0),(7,.s (.int .i64 (sZ s.opn ((e.n,e.user),(e.st,e.at'))))),(112,.agg (eA (dZ ({ s with opn:=oS s.opn ((e.n,e.user),(e.st,e.at')) }) e.user (st0)) G0 G1))]) (m':=[(G0,.buf 2 ((dZ ({ s with opn:=oS s.opn ((e.n,e.user),(e.st,e.at')) }) e.user (st0)).usr.map usC)),(G1,.buf 2 ((dZ ({ s with opn:=oS s.opn ((e.n,e.user),(e.st,e.at')) }) e.user (st0)).tmb.map tmC)),(8,.box (stC (st0))),(4,.box [.s (.int .i64 0),.s (.int .i64 0),.s (.slice none 0 0),.s (.slice none 0 0),.s (.slice none 0 0),.s (.slice none 0 0)]),(2,.box [.s (.int .i64 (({ s with opn:=oS s.opn ((e.n,e.user),(e.st,e.at')) })).now),.s (.int .i64 (({ s with opn:=oS s.opn ((e.n,e.user),(e.st,e.at')) })).hor),.sl 4 ((({ s with opn:=oS s.opn ((e.n,e.user),(e.st,e.at')) })).opn.map seC),.bad,.sl 4 ((({ s with opn:=oS s.opn ((e.n,e.user),(e.st,e.at')) })).sub.map enC),.bad])]) ⟨rfl,rfl,rfl,trivial⟩ rfl) ?_
 refine aE aA 1 rfl (bD hf rfl rfl bS rfl rfl (l1 rfl) (l4 rfl) rfl (aE aA 1 rfl (aD (hK8 _ (aM ?_)))))
 exact⟨_,[(E0,G0),(E1,G1)],_,Le.refl _,by decide,rfl,rfl,⟨rfl,rfl⟩⟩
theorem aRs (s:Sta) (e:Ev) (hz:SzS 140737488355100 s) (hr:dG cM s.usr) (hr2:dG dH s.tmb) (hk:e.kind=2) :DenX Tryz.prog 88 [.agg (eA s E0 E1),.agg (evC e)] [(E0,.buf 2 (s.usr.map usC)),(E1,.buf 2 (s.tmb.map tmC))] (fun r m=>r=.tup [.agg (eA (bL s e).1 E0 E1),.s (.int .i64 (bL s e).2)]∧m=[(E0,.buf 2 ((bL s e).1.usr.map usC)),(E1,.buf 2 ((bL s e).1.tmb.map tmC))]):=by
 have z1:=hz.o
 have z2:=hz.u
 have z3:=hz.b
 have z4:=hz.t
 have q:=aEv s.opn e.n e.user e.st e.at'
 have hz2:SzS 140737488355200 ({ s with opn:=oW s.opn e.n e.user e.st e.at' }):=⟨by show (oW s.opn e.n e.user e.st e.at').length*40≤_; omega,by show s.usr.length*40≤_; omega,by show s.sub.length*48≤_; omega,by show s.tmb.length*24≤_; omega,fun x hx=>by have:=hz.y x hx; omega⟩
 have hr3:dG cM (({ s with opn:=oW s.opn e.n e.user e.st e.at' })).usr:=hr
 have hd:bL s e=(dZ ({ s with opn:=oW s.opn e.n e.user e.st e.at' }) e.user (stR s.opn e.n e.user e.at'),fJ s.opn e.n e.user):=by
  rw[bL,if_neg (by omega),if_pos hk]
  rfl
 rw[hd]
 refine iH [(E0,G0),(E1,G1)] Tryz.func88 rfl (Nat.le_of_ble_eq_true rfl) (args':=[.agg (eA s G0 G1),.agg (evC e)]) (m':=[(G0,.buf 2 (s.usr.map usC)),(G1,.buf 2 (s.tmb.map tmC))]) rfl rfl (by decide) (by decide) rfl (fun w0 o0 A hf=>?_)
 refine aC (fun K1 hK1=>(aB (rQ hf rfl rfl rfl rfl (l1 rfl) ?_)))
 refine aN hf rfl (cS rfl rfl (lf rfl)) (aZ hf rfl rfl rfl aX (aE aA 1 rfl (aD (hK1 _ (aC (fun K2 hK2=>(aB (aE aA 4 rfl (aI rfl (dD rfl gX mE (l3 rfl) rfl) (cC hf rfl gX rfl oL rfl rfl rfl rfl (lf rfl) (aD (hK2 _ (aC (fun K3 hK3=>?_))))))))))))))
 refine aB (aE aA 1 rfl (aD (hK3 _ (aC (fun K4 hK4=>(aB (aZ hf rfl rfl rfl dX (aD (hK4 _ (aC (fun K5 hK5=>(aC (fun K6 hK6=>(aB (aE aA 2 rfl ?_)))))))))))))))
 refine aD (hK6 _ (aU (aC (fun K7 hK7=>(aB (aI rfl (eO rfl rfl (fZ (by omega))) (aE aA 1 rfl (aD (hK7 _ (bZ rfl (aC (fun K8 hK8=>(aB (aI rfl (eO rfl rfl (rB (by omega))) ?_))))))))))))))
 refine aE aA 1 rfl (aD (hK8 _ (bP rfl (aB (aE aA 10 rfl (aN hf rfl (aP rfl rfl aMy rfl (aIq s.opn e.n e.user e.st e.at' (by omega))) (aE aA 5 rfl (bD hf rfl rfl jI rfl rfl (l1 rfl) (l4 rfl) rfl (bD hf rfl rfl bB rfl rfl (l1 rfl) (l4 rfl) rfl (aE aA 1 rfl ?_))))))))))
 refine bV ?_
 refine hK5 _ (aC (fun K9 hK9=>(aB (aE aA 4 rfl (gO hf [(E0,G0),(E1,G1)] [(E0,G0),(E1,G1)] rfl rfl rfl rfl rfl rfl (by decide) (by decide) (by decide) rfl kJ (mB ({ s with opn:=oW s.opn e.n e.user e.st e.at' }) e.user (stR s.opn e.n e.user e.at') hz2 hr3) ?_)))))
 rintro r m1 ⟨rfl,rfl⟩
 rw[lR]
 refine cB (cN (sl':=[(4,.ref 4 0 0 0),(7,.s (.int .i64 (fJ s.opn e.n e.user))),(112,.agg (eA (dZ ({ s with opn:=oW s.opn e.n e.user e.st e.at' }) e.user (stR s.opn e.n e.user e.at')) G0 G1))]) (m':=[(G0,.buf 2 ((dZ ({ s with opn:=oW s.opn e.n e.user e.st e.at' }) e.user (stR s.opn e.n e.user e.at')).usr.map usC)),(G1,.buf 2 ((dZ ({ s with opn:=oW s.opn e.n e.user e.st e.at' }) e.user (stR s.opn e.n e.user e.at')).tmb.map tmC)),(8,.box (stC (stR s.opn e.n e.user e.at'))),(4,.box [.s (.int .i64 0),.s (.int .i64 0),.s (.slice none 0 0),.s (.slice none 0 0),.s (.slice none 0 0),.s (.slice none 0 0)]),(2,.box [.s (.int .i64 (({ s with opn:=oW s.opn e.n e.user e.st e.at' })).now),.s (.int .i64 (({ s with opn:=oW s.opn e.n e.user e.st e.at' })).hor),.sl 4 ((({ s with opn:=oW s.opn e.n e.user e.st e.at' })).opn.map seC),.bad,.sl 4 ((({ s with opn:=oW s.opn e.n e.user e.st e.at' })).sub.map enC),.bad])]) ⟨rfl,rfl,rfl,trivial⟩ rfl) ?_
 refine aE aA 1 rfl (bD hf rfl rfl bS rfl rfl (l1 rfl) (l4 rfl) rfl (aE aA 1 rfl (aD (hK9 _ (aM ?_)))))
 exact⟨_,[(E0,G0),(E1,G1)],_,Le.refl _,by decide,rfl,rfl,⟨rfl,rfl⟩⟩
theorem aRr (s:Sta) (e:Ev) (hz:SzS 140737488355100 s) (hr:dG cM s.usr) (hr2:dG dH s.tmb) (hk:e.kind=3) :DenX Tryz.prog 88 [.agg (eA s E0 E1),.agg (evC e)] [(E0,.buf 2 (s.usr.map usC)),(E1,.buf 2 (s.tmb.map tmC))] (fun r m=>r=.tup [.agg (eA (bL s e).1 E0 E1),.s (.int .i64 (bL s e).2)]∧m=[(E0,.buf 2 ((bL s e).1.usr.map usC)),(E1,.buf 2 ((bL s e).1.tmb.map tmC))]):=by
 have z1:=hz.o
 have z2:=hz.u
 have z3:=hz.b
 have z4:=hz.t
 have q:=aEu s.opn e.n e.user
 have hz2:SzS 140737488355200 ({ s with opn:=oJ s.opn e.n e.user }):=⟨by show (oJ s.opn e.n e.user).length*40≤_; omega,by show s.usr.length*40≤_; omega,by show s.sub.length*48≤_; omega,by show s.tmb.length*24≤_; omega,fun x hx=>by have:=hz.y x hx; omega⟩
 have hr3:dG cM (({ s with opn:=oJ s.opn e.n e.user })).usr:=hr
 have hd:bL s e=(dZ ({ s with opn:=oJ s.opn e.n e.user }) e.user (stR s.opn e.n e.user e.at'),fJ s.opn e.n e.user):=by
  rw[bL,if_neg (by omega),if_neg (by omega),if_pos hk]
  rfl
 rw[hd]
 refine iH [(E0,G0),(E1,G1)] Tryz.func88 rfl (Nat.le_of_ble_eq_true rfl) (args':=[.agg (eA s G0 G1),.agg (evC e)]) (m':=[(G0,.buf 2 (s.usr.map usC)),(G1,.buf 2 (s.tmb.map tmC))]) rfl rfl (by decide) (by decide) rfl (fun w0 o0 A hf=>?_)
 refine aC (fun K1 hK1=>(aB (rQ hf rfl rfl rfl rfl (l1 rfl) ?_)))
 refine aN hf rfl (cS rfl rfl (lf rfl)) (aZ hf rfl rfl rfl aX (aE aA 1 rfl (aD (hK1 _ (aC (fun K2 hK2=>(aB (aE aA 4 rfl (aI rfl (dD rfl gX mE (l3 rfl) rfl) (cC hf rfl gX rfl oL rfl rfl rfl rfl (lf rfl) (aD (hK2 _ (aC (fun K3 hK3=>?_))))))))))))))
 refine aB (aE aA 1 rfl (aD (hK3 _ (aC (fun K4 hK4=>(aB (aZ hf rfl rfl rfl dX (aD (hK4 _ (aC (fun K5 hK5=>(aC (fun K6 hK6=>(aB (aE aA 2 rfl ?_)))))))))))))))
 refine aD (hK6 _ (aU (aC (fun K7 hK7=>(aB (aI rfl (eO rfl rfl (fZ (by omega))) (aE aA 1 rfl (aD (hK7 _ (bZ rfl (aC (fun K8 hK8=>(aB (aI rfl (eO rfl rfl (fZ (by omega))) ?_))))))))))))))
 refine aE aA 1 rfl (aD (hK8 _ (bZ rfl (aC (fun K9 hK9=>(aB (aI rfl (eO rfl rfl (rB (by omega))) (aE aA 1 rfl (aD (hK9 _ (bP rfl (aB (aE aA 8 rfl ?_)))))))))))))
 refine aN hf rfl (aP rfl rfl aFa rfl (aBa s.opn e.n e.user e.at' (by omega))) (aE aA 5 rfl (bD hf rfl rfl jI rfl rfl (l1 rfl) (l4 rfl) rfl (bD hf rfl rfl bB rfl rfl (l1 rfl) (l4 rfl) rfl (aE aA 1 rfl ?_))))
 refine bV ?_
 refine hK5 _ (aC (fun K10 hK10=>(aB (aE aA 4 rfl (gO hf [(E0,G0),(E1,G1)] [(E0,G0),(E1,G1)] rfl rfl rfl rfl rfl rfl (by decide) (by decide) (by decide) rfl kJ (mB ({ s with opn:=oJ s.opn e.n e.user }) e.user (stR s.opn e.n e.user e.at') hz2 hr3) ?_)))))
 rintro r m1 ⟨rfl,rfl⟩
 rw[lR]
 refine cB (cN (sl':=[(4,.ref 4 0 0 0),(7,.s (.int .i64 (fJ s.opn e.n e.user))),(112,.agg (eA (dZ ({ s with opn:=oJ s.opn e.n e.user }) e.user (stR s.opn e.n e.user e.at')) G0 G1))]) (m':=[(G0,.buf 2 ((dZ ({ s with opn:=oJ s.opn e.n e.user }) e.user (stR s.opn e.n e.user e.at')).usr.map usC)),(G1,.buf 2 ((dZ ({ s with opn:=oJ s.opn e.n e.user }) e.user (stR s.opn e.n e.user e.at')).tmb.map tmC)),(8,.box (stC (stR s.opn e.n e.user e.at'))),(4,.box [.s (.int .i64 0),.s (.int .i64 0),.s (.slice none 0 0),.s (.slice none 0 0),.s (.slice none 0 0),.s (.slice none 0 0)]),(2,.box [.s (.int .i64 (({ s with opn:=oJ s.opn e.n e.user })).now),.s (.int .i64 (({ s with opn:=oJ s.opn e.n e.user })).hor),.sl 4 ((({ s with opn:=oJ s.opn e.n e.user })).opn.map seC),.bad,.sl 4 ((({ s with opn:=oJ s.opn e.n e.user })).sub.map enC),.bad])]) ⟨rfl,rfl,rfl,trivial⟩ rfl) ?_
 refine aE aA 1 rfl (bD hf rfl rfl bS rfl rfl (l1 rfl) (l4 rfl) rfl (aE aA 1 rfl (aD (hK10 _ (aM ?_)))))
 exact⟨_,[(E0,G0),(E1,G1)],_,Le.refl _,by decide,rfl,rfl,⟨rfl,rfl⟩⟩
theorem aRq (s:Sta) (e:Ev) (hz:SzS 140737488355100 s) (hr:dG cM s.usr) (hr2:dG dH s.tmb) (hk:e.kind=4) :DenX Tryz.prog 88 [.agg (eA s E0 E1),.agg (evC e)] [(E0,.buf 2 (s.usr.map usC)),(E1,.buf 2 (s.tmb.map tmC))] (fun r m=>r=.tup [.agg (eA (bL s e).1 E0 E1),.s (.int .i64 (bL s e).2)]∧m=[(E0,.buf 2 ((bL s e).1.usr.map usC)),(E1,.buf 2 ((bL s e).1.tmb.map tmC))]):=by
 have z1:=hz.o
 have z2:=hz.u
 have z3:=hz.b
 have z4:=hz.t
 have q:=aEd s.sub (e.user,e.other) e.at'
 have hz2:SzS 140737488355200 ({ s with sub:=if onB s.sub (e.user,e.other)=true then [] else iQ s.sub (e.user,e.other) e.at' }):=⟨by show s.opn.length*40≤_; omega,by show s.usr.length*40≤_; omega,by show (if onB s.sub (e.user,e.other)=true then [] else iQ s.sub (e.user,e.other) e.at').length*48≤_; omega,by show s.tmb.length*24≤_; omega,fun x hx=>by have:=hz.y x hx; omega⟩
 have hr3:dG cM (({ s with sub:=if onB s.sub (e.user,e.other)=true then [] else iQ s.sub (e.user,e.other) e.at' })).usr:=hr
 have hd:bL s e=(dZ ({ s with sub:=if onB s.sub (e.user,e.other)=true then [] else iQ s.sub (e.user,e.other) e.at' }) e.user (st0),if onB s.sub (e.user,e.other)=true then 90 else 0):=by
  rw[bL,if_neg (by omega),if_neg (by omega),if_neg (by omega),if_pos hk]
  rw[mC (show st0.1.2≤st0.1.1 from Int.le_refl _)]
 rw[hd]
 refine iH [(E0,G0),(E1,G1)] Tryz.func88 rfl (Nat.le_of_ble_eq_true rfl) (args':=[.agg (eA s G0 G1),.agg (evC e)]) (m':=[(G0,.buf 2 (s.usr.map usC)),(G1,.buf 2 (s.tmb.map tmC))]) rfl rfl (by decide) (by decide) rfl (fun w0 o0 A hf=>?_)
 refine aC (fun K1 hK1=>(aB (rQ hf rfl rfl rfl rfl (l1 rfl) ?_)))
 refine aN hf rfl (cS rfl rfl (lf rfl)) (aZ hf rfl rfl rfl aX (aE aA 1 rfl (aD (hK1 _ (aC (fun K2 hK2=>(aB (aE aA 4 rfl (aI rfl (dD rfl gX mE (l3 rfl) rfl) (cC hf rfl gX rfl oL rfl rfl rfl rfl (lf rfl) (aD (hK2 _ (aC (fun K3 hK3=>?_))))))))))))))
 refine aB (aE aA 1 rfl (aD (hK3 _ (aC (fun K4 hK4=>(aB (aZ hf rfl rfl rfl dX (aD (hK4 _ (aC (fun K5 hK5=>(aC (fun K6 hK6=>(aB (aE aA 2 rfl ?_)))))))))))))))
 refine aD (hK6 _ (aU (aC (fun K7 hK7=>(aB (aI rfl (eO rfl rfl (fZ (by omega))) (aE aA 1 rfl (aD (hK7 _ (bZ rfl (aC (fun K8 hK8=>(aB (aI rfl (eO rfl rfl (fZ (by omega))) ?_))))))))))))))
 refine aE aA 1 rfl (aD (hK8 _ (bZ rfl (aC (fun K9 hK9=>(aB (aI rfl (eO rfl rfl (fZ (by omega))) (aE aA 1 rfl (aD (hK9 _ (bZ rfl (aC (fun K10 hK10=>(aB ?_))))))))))))))
 refine aI rfl (eO rfl rfl (rB (by omega))) (aE aA 1 rfl (aD (hK10 _ (bP rfl (aB (aE aA 5 rfl (aN hf rfl (aP rfl rfl aMx rfl (aRh s.sub (e.user,e.other) e.at' (by omega))) (aE aA 4 rfl (bD hf rfl rfl kM rfl rfl (l1 rfl) (l4 rfl) rfl (aE aA 1 rfl ?_))))))))))
 refine bV ?_
 refine hK5 _ (aC (fun K11 hK11=>(aB (aE aA 4 rfl (gO hf [(E0,G0),(E1,G1)] [(E0,G0),(E1,G1)] rfl rfl rfl rfl rfl rfl (by decide) (by decide) (by decide) rfl kJ (mB ({ s with sub:=if onB s.sub (e.user,e.other)=true then [] else iQ s.sub (e.user,e.other) e.at' }) e.user (st0) hz2 hr3) ?_)))))
 rintro r m1 ⟨rfl,rfl⟩
 rw[lR]
 refine cB (cN (sl':=[(4,.ref 4 0 0 0),(7,.s (.int .i64 (if onB s.sub (e.user,e.other)=true then 90 else 0))),(112,.agg (eA (dZ ({ s with sub:=if onB s.sub (e.user,e.other)=true then [] else iQ s.sub (e.user,e.other) e.at' }) e.user (st0)) G0 G1))]) (m':=[(G0,.buf 2 ((dZ ({ s with sub:=if onB s.sub (e.user,e.other)=true then [] else iQ s.sub (e.user,e.other) e.at' }) e.user (st0)).usr.map usC)),(G1,.buf 2 ((dZ ({ s with sub:=if onB s.sub (e.user,e.other)=true then [] else iQ s.sub (e.user,e.other) e.at' }) e.user (st0)).tmb.map tmC)),(8,.box (stC (st0))),(4,.box [.s (.int .i64 0),.s (.int .i64 0),.s (.slice none 0 0),.s (.slice none 0 0),.s (.slice none 0 0),.s (.slice none 0 0)]),(2,.box [.s (.int .i64 (({ s with sub:=if onB s.sub (e.user,e.other)=true then [] else iQ s.sub (e.user,e.other) e.at' })).now),.s (.int .i64 (({ s with sub:=if onB s.sub (e.user,e.other)=true then [] else iQ s.sub (e.user,e.other) e.at' })).hor),.sl 4 ((({ s with sub:=if onB s.sub (e.user,e.other)=true then [] else iQ s.sub (e.user,e.other) e.at' })).opn.map seC),.bad,.sl 4 ((({ s with sub:=if onB s.sub (e.user,e.other)=true then [] else iQ s.sub (e.user,e.other) e.at' })).sub.map enC),.bad])]) ⟨rfl,rfl,rfl,trivial⟩ rfl) ?_
 refine aE aA 1 rfl (bD hf rfl rfl bS rfl rfl (l1 rfl) (l4 rfl) rfl (aE aA 1 rfl (aD (hK11 _ (aM ?_)))))
 exact⟨_,[(E0,G0),(E1,G1)],_,Le.refl _,by decide,rfl,rfl,⟨rfl,rfl⟩⟩
theorem aRp (s:Sta) (e:Ev) (hz:SzS 140737488355100 s) (hr:dG cM s.usr) (hr2:dG dH s.tmb) (hk:e.kind=5) :DenX Tryz.prog 88 [.agg (eA s E0 E1),.agg (evC e)] [(E0,.buf 2 (s.usr.map usC)),(E1,.buf 2 (s.tmb.map tmC))] (fun r m=>r=.tup [.agg (eA (bL s e).1 E0 E1),.s (.int .i64 (bL s e).2)]∧m=[(E0,.buf 2 ((bL s e).1.usr.map usC)),(E1,.buf 2 ((bL s e).1.tmb.map tmC))]):=by
 have z1:=hz.o
 have z2:=hz.u
 have z3:=hz.b
 have z4:=hz.t
 have q:=aEc s.sub (e.user,e.other) e.at'
 have hz2:SzS 140737488355200 ({ s with sub:=if onB s.sub (e.user,e.other)=true then jA s.sub (e.user,e.other) e.at' else [] }):=⟨by show s.opn.length*40≤_; omega,by show s.usr.length*40≤_; omega,by show (if onB s.sub (e.user,e.other)=true then jA s.sub (e.user,e.other) e.at' else []).length*48≤_; omega,by show s.tmb.length*24≤_; omega,fun x hx=>by have:=hz.y x hx; omega⟩
 have hr3:dG cM (({ s with sub:=if onB s.sub (e.user,e.other)=true then jA s.sub (e.user,e.other) e.at' else [] })).usr:=hr
 have hd:bL s e=(dZ ({ s with sub:=if onB s.sub (e.user,e.other)=true then jA s.sub (e.user,e.other) e.at' else [] }) e.user (st0),if onB s.sub (e.user,e.other)=true then 0 else 91):=by
  rw[bL,if_neg (by omega),if_neg (by omega),if_neg (by omega),if_neg (by omega),if_pos hk]
  rw[mC (show st0.1.2≤st0.1.1 from Int.le_refl _)]
 rw[hd]
 refine iH [(E0,G0),(E1,G1)] Tryz.func88 rfl (Nat.le_of_ble_eq_true rfl) (args':=[.agg (eA s G0 G1),.agg (evC e)]) (m':=[(G0,.buf 2 (s.usr.map usC)),(G1,.buf 2 (s.tmb.map tmC))]) rfl rfl (by decide) (by decide) rfl (fun w0 o0 A hf=>?_)
 refine aC (fun K1 hK1=>(aB (rQ hf rfl rfl rfl rfl (l1 rfl) ?_)))
 refine aN hf rfl (cS rfl rfl (lf rfl)) (aZ hf rfl rfl rfl aX (aE aA 1 rfl (aD (hK1 _ (aC (fun K2 hK2=>(aB (aE aA 4 rfl (aI rfl (dD rfl gX mE (l3 rfl) rfl) (cC hf rfl gX rfl oL rfl rfl rfl rfl (lf rfl) (aD (hK2 _ (aC (fun K3 hK3=>?_))))))))))))))
 refine aB (aE aA 1 rfl (aD (hK3 _ (aC (fun K4 hK4=>(aB (aZ hf rfl rfl rfl dX (aD (hK4 _ (aC (fun K5 hK5=>(aC (fun K6 hK6=>(aB (aE aA 2 rfl ?_)))))))))))))))
 refine aD (hK6 _ (aU (aC (fun K7 hK7=>(aB (aI rfl (eO rfl rfl (fZ (by omega))) (aE aA 1 rfl (aD (hK7 _ (bZ rfl (aC (fun K8 hK8=>(aB (aI rfl (eO rfl rfl (fZ (by omega))) ?_))))))))))))))
 refine aE aA 1 rfl (aD (hK8 _ (bZ rfl (aC (fun K9 hK9=>(aB (aI rfl (eO rfl rfl (fZ (by omega))) (aE aA 1 rfl (aD (hK9 _ (bZ rfl (aC (fun K10 hK10=>(aB ?_))))))))))))))
 refine aI rfl (eO rfl rfl (fZ (by omega))) (aE aA 1 rfl (aD (hK10 _ (bZ rfl (aC (fun K11 hK11=>(aB (aI rfl (eO rfl rfl (rB (by omega))) (aE aA 1 rfl (aD (hK11 _ (bP rfl (aB ?_)))))))))))))
 refine aE aA 5 rfl (aN hf rfl (aP rfl rfl aMw rfl (aN8 s.sub (e.user,e.other) e.at' (by omega))) (aE aA 4 rfl (bD hf rfl rfl kM rfl rfl (l1 rfl) (l4 rfl) rfl (aE aA 1 rfl ?_))))
 refine bV ?_
 refine hK5 _ (aC (fun K12 hK12=>(aB (aE aA 4 rfl (gO hf [(E0,G0),(E1,G1)] [(E0,G0),(E1,G1)] rfl rfl rfl rfl rfl rfl (by decide) (by decide) (by decide) rfl kJ (mB ({ s with sub:=if onB s.sub (e.user,e.other)=true then jA s.sub (e.user,e.other) e.at' else [] }) e.user (st0) hz2 hr3) ?_)))))
 rintro r m1 ⟨rfl,rfl⟩
 rw[lR]
 refine cB (cN (sl':=[(4,.ref 4 0 0 0),(7,.s (.int .i64 (if onB s.sub (e.user,e.other)=true then 0 else 91))),(112,.agg (eA (dZ ({ s with sub:=if onB s.sub (e.user,e.other)=true then jA s.sub (e.user,e.other) e.at' else [] }) e.user (st0)) G0 G1))]) (m':=[(G0,.buf 2 ((dZ ({ s with sub:=if onB s.sub (e.user,e.other)=true then jA s.sub (e.user,e.other) e.at' else [] }) e.user (st0)).usr.map usC)),(G1,.buf 2 ((dZ ({ s with sub:=if onB s.sub (e.user,e.other)=true then jA s.sub (e.user,e.other) e.at' else [] }) e.user (st0)).tmb.map tmC)),(8,.box (stC (st0))),(4,.box [.s (.int .i64 0),.s (.int .i64 0),.s (.slice none 0 0),.s (.slice none 0 0),.s (.slice none 0 0),.s (.slice none 0 0)]),(2,.box [.s (.int .i64 (({ s with sub:=if onB s.sub (e.user,e.other)=true then jA s.sub (e.user,e.other) e.at' else [] })).now),.s (.int .i64 (({ s with sub:=if onB s.sub (e.user,e.other)=true then jA s.sub (e.user,e.other) e.at' else [] })).hor),.sl 4 ((({ s with sub:=if onB s.sub (e.user,e.other)=true then jA s.sub (e.user,e.other) e.at' else [] })).opn.map seC),.bad,.sl 4 ((({ s with sub:=if onB s.sub (e.user,e.other)=true then jA s.sub (e.user,e.other) e.at' else [] })).sub.map enC),.bad])]) ⟨rfl,rfl,rfl,trivial⟩ rfl) ?_
 refine aE aA 1 rfl (bD hf rfl rfl bS rfl rfl (l1 rfl) (l4 rfl) rfl (aE aA 1 rfl (aD (hK12 _ (aM ?_)))))
 exact⟨_,[(E0,G0),(E1,G1)],_,Le.refl _,by decide,rfl,rfl,⟨rfl,rfl⟩⟩
theorem aRo (s:Sta) (e:Ev) (hz:SzS 140737488355100 s) (hr:dG cM s.usr) (hr2:dG dH s.tmb) (hk:e.kind=6) :DenX Tryz.prog 88 [.agg (eA s E0 E1),.agg (evC e)] [(E0,.buf 2 (s.usr.map usC)),(E1,.buf 2 (s.tmb.map tmC))] (fun r m=>r=.tup [.agg (eA (bL s e).1 E0 E1),.s (.int .i64 (bL s e).2)]∧m=[(E0,.buf 2 ((bL s e).1.usr.map usC)),(E1,.buf 2 ((bL s e).1.tmb.map tmC))]):=by
 have z1:=hz.o
 have z2:=hz.u
 have z3:=hz.b
 have z4:=hz.t
 skip
 have hz2:SzS 140737488355200 ({ s with hor:=max s.hor e.n }):=⟨by show s.opn.length*40≤_; omega,by show s.usr.length*40≤_; omega,by show (s.sub).length*48≤_; omega,by show s.tmb.length*24≤_; omega,fun x hx=>by have:=hz.y x hx; omega⟩
 have hr3:dG cM (({ s with hor:=max s.hor e.n })).usr:=hr
 have hd:bL s e=(dZ ({ s with hor:=max s.hor e.n }) e.user (st0),0):=by
  rw[bL,if_neg (by omega),if_neg (by omega),if_neg (by omega),if_neg (by omega),if_neg (by omega),if_pos hk]
  rw[mC (show st0.1.2≤st0.1.1 from Int.le_refl _)]
 rw[hd]
 refine iH [(E0,G0),(E1,G1)] Tryz.func88 rfl (Nat.le_of_ble_eq_true rfl) (args':=[.agg (eA s G0 G1),.agg (evC e)]) (m':=[(G0,.buf 2 (s.usr.map usC)),(G1,.buf 2 (s.tmb.map tmC))]) rfl rfl (by decide) (by decide) rfl (fun w0 o0 A hf=>?_)
 refine aC (fun K1 hK1=>(aB (rQ hf rfl rfl rfl rfl (l1 rfl) ?_)))
 refine aN hf rfl (cS rfl rfl (lf rfl)) (aZ hf rfl rfl rfl aX (aE aA 1 rfl (aD (hK1 _ (aC (fun K2 hK2=>(aB (aE aA 4 rfl (aI rfl (dD rfl gX mE (l3 rfl) rfl) (cC hf rfl gX rfl oL rfl rfl rfl rfl (lf rfl) (aD (hK2 _ (aC (fun K3 hK3=>?_))))))))))))))
 refine aB (aE aA 1 rfl (aD (hK3 _ (aC (fun K4 hK4=>(aB (aZ hf rfl rfl rfl dX (aD (hK4 _ (aC (fun K5 hK5=>(aC (fun K6 hK6=>(aB (aE aA 2 rfl ?_)))))))))))))))
 refine aD (hK6 _ (aU (aC (fun K7 hK7=>(aB (aI rfl (eO rfl rfl (fZ (by omega))) (aE aA 1 rfl (aD (hK7 _ (bZ rfl (aC (fun K8 hK8=>(aB (aI rfl (eO rfl rfl (fZ (by omega))) ?_))))))))))))))
 refine aE aA 1 rfl (aD (hK8 _ (bZ rfl (aC (fun K9 hK9=>(aB (aI rfl (eO rfl rfl (fZ (by omega))) (aE aA 1 rfl (aD (hK9 _ (bZ rfl (aC (fun K10 hK10=>(aB ?_))))))))))))))
 refine aI rfl (eO rfl rfl (fZ (by omega))) (aE aA 1 rfl (aD (hK10 _ (bZ rfl (aC (fun K11 hK11=>(aB (aI rfl (eO rfl rfl (fZ (by omega))) (aE aA 1 rfl (aD (hK11 _ (bZ rfl (aC (fun K12 hK12=>?_))))))))))))))
 refine aB (aI rfl (eO rfl rfl (rB (by omega))) (aE aA 1 rfl (aD (hK12 _ (bP rfl (aB (aE aA 4 rfl (aI rfl (p_max rfl rfl) (aE aA 1 rfl (bD hf rfl rfl cP rfl rfl (l1 rfl) (l4 rfl) rfl ?_))))))))))
 refine bV ?_
 refine hK5 _ (aC (fun K13 hK13=>(aB (aE aA 4 rfl (gO hf [(E0,G0),(E1,G1)] [(E0,G0),(E1,G1)] rfl rfl rfl rfl rfl rfl (by decide) (by decide) (by decide) rfl kJ (mB ({ s with hor:=max s.hor e.n }) e.user (st0) hz2 hr3) ?_)))))
 rintro r m1 ⟨rfl,rfl⟩
 rw[lR]
 refine cB (cN (sl':=[(4,.ref 4 0 0 0),(7,.s (.int .i64 (0))),(112,.agg (eA (dZ ({ s with hor:=max s.hor e.n }) e.user (st0)) G0 G1))]) (m':=[(G0,.buf 2 ((dZ ({ s with hor:=max s.hor e.n }) e.user (st0)).usr.map usC)),(G1,.buf 2 ((dZ ({ s with hor:=max s.hor e.n }) e.user (st0)).tmb.map tmC)),(8,.box (stC (st0))),(4,.box [.s (.int .i64 0),.s (.int .i64 0),.s (.slice none 0 0),.s (.slice none 0 0),.s (.slice none 0 0),.s (.slice none 0 0)]),(2,.box [.s (.int .i64 (({ s with hor:=max s.hor e.n })).now),.s (.int .i64 (({ s with hor:=max s.hor e.n })).hor),.sl 4 ((({ s with hor:=max s.hor e.n })).opn.map seC),.bad,.sl 4 ((({ s with hor:=max s.hor e.n })).sub.map enC),.bad])]) ⟨rfl,rfl,rfl,trivial⟩ rfl) ?_
 refine aE aA 1 rfl (bD hf rfl rfl bS rfl rfl (l1 rfl) (l4 rfl) rfl (aE aA 1 rfl (aD (hK13 _ (aM ?_)))))
 exact⟨_,[(E0,G0),(E1,G1)],_,Le.refl _,by decide,rfl,rfl,⟨rfl,rfl⟩⟩
theorem aRn (s:Sta) (e:Ev) (hz:SzS 140737488355100 s) (hr:dG cM s.usr) (hr2:dG dH s.tmb) (hk:e.kind=7) :DenX Tryz.prog 88 [.agg (eA s E0 E1),.agg (evC e)] [(E0,.buf 2 (s.usr.map usC)),(E1,.buf 2 (s.tmb.map tmC))] (fun r m=>r=.tup [.agg (eA (bL s e).1 E0 E1),.s (.int .i64 (bL s e).2)]∧m=[(E0,.buf 2 ((bL s e).1.usr.map usC)),(E1,.buf 2 ((bL s e).1.tmb.map tmC))]):=by
 have z1:=hz.o
 have z2:=hz.u
 have z3:=hz.b
 have z4:=hz.t
 skip
 have hz2:SzS 140737488355200 (fO s e.user e.at'):=erSz hz hr (by omega)
 have hr3:dG cM ((fO s e.user e.at')).usr:=rU hr
 have hd:bL s e=(dZ (fO s e.user e.at') e.user (st0),0):=by
  rw[bL,if_neg (by omega),if_neg (by omega),if_neg (by omega),if_neg (by omega),if_neg (by omega),if_neg (by omega)]
  rw[mC (show st0.1.2≤st0.1.1 from Int.le_refl _)]
 rw[hd]
 refine iH [(E0,G0),(E1,G1)] Tryz.func88 rfl (Nat.le_of_ble_eq_true rfl) (args':=[.agg (eA s G0 G1),.agg (evC e)]) (m':=[(G0,.buf 2 (s.usr.map usC)),(G1,.buf 2 (s.tmb.map tmC))]) rfl rfl (by decide) (by decide) rfl (fun w0 o0 A hf=>?_)
 refine aC (fun K1 hK1=>(aB (rQ hf rfl rfl rfl rfl (l1 rfl) ?_)))
 refine aN hf rfl (cS rfl rfl (lf rfl)) (aZ hf rfl rfl rfl aX (aE aA 1 rfl (aD (hK1 _ (aC (fun K2 hK2=>(aB (aE aA 4 rfl (aI rfl (dD rfl gX mE (l3 rfl) rfl) (cC hf rfl gX rfl oL rfl rfl rfl rfl (lf rfl) (aD (hK2 _ (aC (fun K3 hK3=>?_))))))))))))))
 refine aB (aE aA 1 rfl (aD (hK3 _ (aC (fun K4 hK4=>(aB (aZ hf rfl rfl rfl dX (aD (hK4 _ (aC (fun K5 hK5=>(aC (fun K6 hK6=>(aB (aE aA 2 rfl ?_)))))))))))))))
 refine aD (hK6 _ (aU (aC (fun K7 hK7=>(aB (aI rfl (eO rfl rfl (fZ (by omega))) (aE aA 1 rfl (aD (hK7 _ (bZ rfl (aC (fun K8 hK8=>(aB (aI rfl (eO rfl rfl (fZ (by omega))) ?_))))))))))))))
 refine aE aA 1 rfl (aD (hK8 _ (bZ rfl (aC (fun K9 hK9=>(aB (aI rfl (eO rfl rfl (fZ (by omega))) (aE aA 1 rfl (aD (hK9 _ (bZ rfl (aC (fun K10 hK10=>(aB ?_))))))))))))))
 refine aI rfl (eO rfl rfl (fZ (by omega))) (aE aA 1 rfl (aD (hK10 _ (bZ rfl (aC (fun K11 hK11=>(aB (aI rfl (eO rfl rfl (fZ (by omega))) (aE aA 1 rfl (aD (hK11 _ (bZ rfl (aC (fun K12 hK12=>?_))))))))))))))
 refine aB (aI rfl (eO rfl rfl (fZ (by omega))) (aE aA 1 rfl (aD (hK12 _ (bZ rfl (aC (fun K13 hK13=>(aB (aI rfl (eO rfl rfl (rB (by omega))) (aE aA 1 rfl (aD (hK13 _ (bP rfl ?_)))))))))))))
 refine aB (aE aA 5 rfl (gO hf [(E0,G0),(E1,G1)] [(E0,G0),(E1,G1)] rfl rfl rfl rfl rfl rfl (by decide) (by decide) (by decide) rfl aMv (aOl s e.user e.at' (hz.mono (by omega)) hr hr2) ?_))
 rintro r m1 ⟨rfl,rfl⟩
 rw[lR]
 refine cB (cN (sl':=[(2,.ref 2 0 0 0),(3,.adr (evC e)),(4,.ref 4 0 0 0),(7,.s (.int .i64 0)),(8,.ref 8 0 0 0),(107,.agg (eA (fO s e.user e.at') G0 G1))]) (m':=[(G0,.buf 2 ((fO s e.user e.at').usr.map usC)),(G1,.buf 2 ((fO s e.user e.at').tmb.map tmC)),(8,.box (stC st0)),(4,.box [.s (.int .i64 0),.s (.int .i64 0),.s (.slice none 0 0),.s (.slice none 0 0),.s (.slice none 0 0),.s (.slice none 0 0)]),(2,.box [.s (.int .i64 s.now),.s (.int .i64 s.hor),.sl 4 (s.opn.map seC),.bad,.sl 4 (s.sub.map enC),.bad])]) ⟨rfl,rfl,rfl,rfl,rfl,rfl,trivial⟩ rfl) ?_
 refine bD hf rfl rfl bS rfl rfl (l1 rfl) (l4 rfl) rfl ?_
 refine bV ?_
 refine hK5 _ (aC (fun K14 hK14=>(aB (aE aA 4 rfl (gO hf [(E0,G0),(E1,G1)] [(E0,G0),(E1,G1)] rfl rfl rfl rfl rfl rfl (by decide) (by decide) (by decide) rfl kJ (mB (fO s e.user e.at') e.user (st0) hz2 hr3) ?_)))))
 rintro r m1 ⟨rfl,rfl⟩
 rw[lR]
 refine cB (cN (sl':=[(4,.ref 4 0 0 0),(7,.s (.int .i64 (0))),(112,.agg (eA (dZ (fO s e.user e.at') e.user (st0)) G0 G1))]) (m':=[(G0,.buf 2 ((dZ (fO s e.user e.at') e.user (st0)).usr.map usC)),(G1,.buf 2 ((dZ (fO s e.user e.at') e.user (st0)).tmb.map tmC)),(8,.box (stC (st0))),(4,.box [.s (.int .i64 0),.s (.int .i64 0),.s (.slice none 0 0),.s (.slice none 0 0),.s (.slice none 0 0),.s (.slice none 0 0)]),(2,.box [.s (.int .i64 ((fO s e.user e.at')).now),.s (.int .i64 ((fO s e.user e.at')).hor),.sl 4 (((fO s e.user e.at')).opn.map seC),.bad,.sl 4 (((fO s e.user e.at')).sub.map enC),.bad])]) ⟨rfl,rfl,rfl,trivial⟩ rfl) ?_
 refine aE aA 1 rfl (bD hf rfl rfl bS rfl rfl (l1 rfl) (l4 rfl) rfl (aE aA 1 rfl (aD (hK14 _ (aM ?_)))))
 exact⟨_,[(E0,G0),(E1,G1)],_,Le.refl _,by decide,rfl,rfl,⟨rfl,rfl⟩⟩
end Go.Proofs.YtijnkglkchhomaaGreat
set_option linter.unusedVariables false
set_option linter.unusedSimpArgs false
namespace Go.Proofs.YtijnkglkchhomaaGreat
open Go Go.Abs
theorem aJu (e:Ev) (hu:TS e.user) (ho:TS e.other) :Den Tryz.prog 87 [.agg (evC e)]  (·=.s (.bool (cH e))):=by
 refine aY Tryz.func87 rfl (Nat.le_of_ble_eq_true rfl) (fun w0 A hf=>(aC (fun K1 hK1=>(aB (aN hf rfl (cS rfl rfl (lf rfl)) (aE aA 1 rfl (aD (hK1 _ (aC (fun K2 hK2=>(aB (aE aA 4 rfl (aI rfl (dD rfl gD jN (l3 rfl) rfl) (aZ hf rfl rfl rfl gD (bD hf rfl rfl cY rfl rfl (l1 rfl) (l4 rfl) rfl ?_)))))))))))))))
 refine aD (hK2 _ (aC (fun K3 hK3=>(aB (aE aA 2 rfl (aN hf rfl (aP rfl rfl kL rfl (jV _ _ _)) (aE aA 1 rfl (aD (hK3 _ (aC (fun K4 hK4=>(aC (fun K5 hK5=>(aB (aE aA 2 rfl ?_)))))))))))))))
 refine aD (hK5 _ (aU (aC (fun K6 hK6=>(aU (aC (fun K7 hK7=>(aU (aC (fun K8 hK8=>(aU (aC (fun K9 hK9=>(aU (aC (fun K10 hK10=>(aU ?_)))))))))))))))))
 refine aC (fun K11 hK11=>(aU (aC (fun K12 hK12=>(aC (fun K13 hK13=>(aC (fun K14 hK14=>(aC (fun K15 hK15=>(aB (aE aA 2 rfl (aD (hK15 _ (dV rfl rfl (fun hc1=>?_) (fun hc1=>?_))))))))))))))))
 ·
  simp only[bs] at hc1
  refine aR (hK14 _ (bP rfl (bI (hK11 _ (aC (fun K16 hK16=>(aB (aE aA 3 rfl (bD hf rfl rfl cP rfl rfl (l1 rfl) (l4 rfl) rfl (aD (hK16 _ (aB (aE aA 2 rfl ?_)))))))))))))
  refine bA rfl rfl rfl (fun hg3=>?_) (fun hg3=>?_)
  ·
   simp only[bs] at hg3
   refine aI rfl (bM rfl aBh cP rfl) ?_
   refine aE aA 1 rfl (bF rfl rfl rfl (aN hf rfl (aP rfl rfl kL rfl (jV _ _ _)) (aE aA 2 rfl ?_)))
   refine bV ?_
   refine hK10 _ (aC (fun K17 hK17=>(aB (aE aA 3 rfl (bD hf rfl rfl cP rfl rfl (l1 rfl) (l4 rfl) rfl (aD (hK17 _ (aB (aE aA 2 rfl (bA rfl rfl rfl (fun hg4=>?_) (fun hg4=>?_)))))))))))
   ·
    simp only[bs] at hg4
    refine aI rfl (bM rfl rI cP rfl) ?_
    refine aE aA 1 rfl (bF rfl rfl rfl (aN hf rfl (aP rfl rfl kL rfl (jV _ _ _)) (aE aA 2 rfl ?_)))
    refine bV ?_
    refine hK9 _ (aC (fun K18 hK18=>(aC (fun K19 hK19=>(aB (aE aA 3 rfl (bD hf rfl rfl cT rfl rfl (l1 rfl) (l4 rfl) rfl (aD (hK19 _ (aB (aE aA 2 rfl (bA rfl rfl rfl (fun hg5=>?_) (fun hg5=>?_)))))))))))))
    ·
     simp only[bs] at hg5
     refine aI rfl (bM rfl fD cT rfl) ?_
     refine aE aA 1 rfl (bF rfl rfl rfl (aN hf rfl (aP rfl rfl iX rfl (Nm.right_den e.user hu)) (aE aA 2 rfl (aD (hK18 _ (bI (hK4 _ (aC (fun K20 hK20=>(aB (aE aA 2 rfl (bA rfl rfl rfl (fun hg6=>?_) (fun hg6=>?_)))))))))))))
     ·
      refine aI rfl (cD rfl iD cY rfl rfl rfl) ?_
      refine aE aA 1 rfl (bF rfl rfl rfl (aI rfl (iA rfl rfl iC rfl) (aE aA 2 rfl (aD (hK20 _ (aM ?_))))))
      refine⟨_,rfl,?_⟩
      refine aQ ?_
      rw[Bool.eq_iff_iff]
      simp only[cH,eH]
      (have hlt:e.at'<1099511627776:=(by omega); simp_all[toList_inj,cA,eq_comm (a:=(0:Int)) (b:=e.st),eq_comm (a:=(0:Int)) (b:=e.n)]; done)
     ·
      simp only[bs] at hg6
      refine aE aA 4 rfl (aD (hK20 _ (aM ?_)))
      refine⟨_,rfl,?_⟩
      refine aQ ?_
      rw[Bool.eq_iff_iff]
      simp only[cH,eH]
      (simp_all[toList_inj,cA]; done)
    ·
     simp only[bs] at hg5
     refine aE aA 4 rfl (aD (hK18 _ (bI (hK4 _ (aC (fun K21 hK21=>(aB (aE aA 7 rfl (aD (hK21 _ (aM ?_)))))))))))
     refine⟨_,rfl,?_⟩
     refine aQ ?_
     rw[Bool.eq_iff_iff]
     simp only[cH,eH]
     (simp_all[toList_inj,cA]; omega)
   ·
    simp only[bs] at hg4
    refine aE aA 4 rfl ?_
    refine bV ?_
    refine hK9 _ (aC (fun K22 hK22=>(aC (fun K23 hK23=>(aB (aE aA 3 rfl (bD hf rfl rfl cT rfl rfl (l1 rfl) (l4 rfl) rfl (aD (hK23 _ (aB (aE aA 7 rfl (aD (hK22 _ (bI ?_))))))))))))))
    refine hK4 _ (aC (fun K24 hK24=>(aB (aE aA 7 rfl (aD (hK24 _ (aM ?_)))))))
    refine⟨_,rfl,?_⟩
    refine aQ ?_
    rw[Bool.eq_iff_iff]
    simp only[cH,eH]
    (simp_all[toList_inj,cA]; done)
  ·
   simp only[bs] at hg3
   refine aE aA 4 rfl ?_
   refine bV ?_
   refine hK10 _ (aC (fun K25 hK25=>(aB (aE aA 3 rfl (bD hf rfl rfl cP rfl rfl (l1 rfl) (l4 rfl) rfl (aD (hK25 _ (aB (aE aA 7 rfl ?_)))))))))
   refine bV ?_
   refine hK9 _ (aC (fun K26 hK26=>(aC (fun K27 hK27=>(aB (aE aA 3 rfl (bD hf rfl rfl cT rfl rfl (l1 rfl) (l4 rfl) rfl (aD (hK27 _ (aB (aE aA 7 rfl (aD (hK26 _ (bI ?_))))))))))))))
   refine hK4 _ (aC (fun K28 hK28=>(aB (aE aA 7 rfl (aD (hK28 _ (aM ?_)))))))
   refine⟨_,rfl,?_⟩
   refine aQ ?_
   rw[Bool.eq_iff_iff]
   simp only[cH,eH]
   (simp_all[toList_inj,cA]; omega)
 ·
  simp only[bs] at hc1
  refine aB (aE aA 2 rfl (aD (hK14 _ (dV rfl rfl (fun hc7=>?_) (fun hc7=>?_)))))
  ·
   simp only[bs] at hc7
   refine bI (hK11 _ (aC (fun K29 hK29=>(aB (aE aA 3 rfl (bD hf rfl rfl cP rfl rfl (l1 rfl) (l4 rfl) rfl (aD (hK29 _ (aB (aE aA 2 rfl (bA rfl rfl rfl (fun hg8=>?_) (fun hg8=>?_))))))))))))
   ·
    simp only[bs] at hg8
    refine aI rfl (bM rfl aBh cP rfl) ?_
    refine aE aA 1 rfl (bF rfl rfl rfl (aN hf rfl (aP rfl rfl kL rfl (jV _ _ _)) (aE aA 2 rfl ?_)))
    refine bV ?_
    refine hK10 _ (aC (fun K30 hK30=>(aB (aE aA 3 rfl (bD hf rfl rfl cP rfl rfl (l1 rfl) (l4 rfl) rfl (aD (hK30 _ (aB (aE aA 2 rfl (bA rfl rfl rfl (fun hg9=>?_) (fun hg9=>?_)))))))))))
    ·
     simp only[bs] at hg9
     refine aI rfl (bM rfl rI cP rfl) ?_
     refine aE aA 1 rfl (bF rfl rfl rfl (aN hf rfl (aP rfl rfl kL rfl (jV _ _ _)) (aE aA 2 rfl ?_)))
     refine bV ?_
     refine hK9 _ (aC (fun K31 hK31=>(aC (fun K32 hK32=>(aB (aE aA 3 rfl (bD hf rfl rfl cT rfl rfl (l1 rfl) (l4 rfl) rfl (aD (hK32 _ (aB (aE aA 2 rfl (bA rfl rfl rfl (fun hg10=>?_) (fun hg10=>?_)))))))))))))
     ·
      simp only[bs] at hg10
      refine aI rfl (bM rfl fD cT rfl) ?_
      refine aE aA 1 rfl (bF rfl rfl rfl (aN hf rfl (aP rfl rfl iX rfl (Nm.right_den e.user hu)) (aE aA 2 rfl (aD (hK31 _ (bI (hK4 _ (aC (fun K33 hK33=>(aB (aE aA 2 rfl (bA rfl rfl rfl (fun hg11=>?_) (fun hg11=>?_)))))))))))))
      ·
       refine aI rfl (cD rfl iD cY rfl rfl rfl) ?_
       refine aE aA 1 rfl (bF rfl rfl rfl (aI rfl (iA rfl rfl iC rfl) (aE aA 2 rfl (aD (hK33 _ (aM ?_))))))
       refine⟨_,rfl,?_⟩
       refine aQ ?_
       rw[Bool.eq_iff_iff]
       simp only[cH,eH]
       (have hlt:e.at'<1099511627776:=(by omega); simp_all[toList_inj,cA,eq_comm (a:=(0:Int)) (b:=e.st),eq_comm (a:=(0:Int)) (b:=e.n)]; done)
      ·
       simp only[bs] at hg11
       refine aE aA 4 rfl (aD (hK33 _ (aM ?_)))
       refine⟨_,rfl,?_⟩
       refine aQ ?_
       rw[Bool.eq_iff_iff]
       simp only[cH,eH]
       (simp_all[toList_inj,cA]; done)
     ·
      simp only[bs] at hg10
      refine aE aA 4 rfl (aD (hK31 _ (bI (hK4 _ (aC (fun K34 hK34=>(aB (aE aA 7 rfl (aD (hK34 _ (aM ?_)))))))))))
      refine⟨_,rfl,?_⟩
      refine aQ ?_
      rw[Bool.eq_iff_iff]
      simp only[cH,eH]
      (simp_all[toList_inj,cA]; omega)
    ·
     simp only[bs] at hg9
     refine aE aA 4 rfl ?_
     refine bV ?_
     refine hK9 _ (aC (fun K35 hK35=>(aC (fun K36 hK36=>(aB (aE aA 3 rfl (bD hf rfl rfl cT rfl rfl (l1 rfl) (l4 rfl) rfl (aD (hK36 _ (aB (aE aA 7 rfl (aD (hK35 _ (bI ?_))))))))))))))
     refine hK4 _ (aC (fun K37 hK37=>(aB (aE aA 7 rfl (aD (hK37 _ (aM ?_)))))))
     refine⟨_,rfl,?_⟩
     refine aQ ?_
     rw[Bool.eq_iff_iff]
     simp only[cH,eH]
     (simp_all[toList_inj,cA]; done)
   ·
    simp only[bs] at hg8
    refine aE aA 4 rfl ?_
    refine bV ?_
    refine hK10 _ (aC (fun K38 hK38=>(aB (aE aA 3 rfl (bD hf rfl rfl cP rfl rfl (l1 rfl) (l4 rfl) rfl (aD (hK38 _ (aB (aE aA 7 rfl ?_)))))))))
    refine bV ?_
    refine hK9 _ (aC (fun K39 hK39=>(aC (fun K40 hK40=>(aB (aE aA 3 rfl (bD hf rfl rfl cT rfl rfl (l1 rfl) (l4 rfl) rfl (aD (hK40 _ (aB (aE aA 7 rfl (aD (hK39 _ (bI ?_))))))))))))))
    refine hK4 _ (aC (fun K41 hK41=>(aB (aE aA 7 rfl (aD (hK41 _ (aM ?_)))))))
    refine⟨_,rfl,?_⟩
    refine aQ ?_
    rw[Bool.eq_iff_iff]
    simp only[cH,eH]
    (simp_all[toList_inj,cA]; omega)
  ·
   simp only[bs] at hc7
   refine aR (hK13 _ (aC (fun K42 hK42=>(aC (fun K43 hK43=>(aB (aE aA 2 rfl (aD (hK43 _ (dV rfl rfl (fun hc12=>?_) (fun hc12=>?_)))))))))))
   ·
    simp only[bs] at hc12
    refine bI (hK10 _ (aC (fun K44 hK44=>(aB (aE aA 3 rfl (bD hf rfl rfl cP rfl rfl (l1 rfl) (l4 rfl) rfl (aD (hK44 _ (aB (aE aA 2 rfl (bA rfl rfl rfl (fun hg13=>?_) (fun hg13=>?_))))))))))))
    ·
     simp only[bs] at hg13
     refine aI rfl (bM rfl rI cP rfl) ?_
     refine aE aA 1 rfl (bF rfl rfl rfl (aN hf rfl (aP rfl rfl kL rfl (jV _ _ _)) (aE aA 2 rfl ?_)))
     refine bV ?_
     refine hK9 _ (aC (fun K45 hK45=>(aC (fun K46 hK46=>(aB (aE aA 3 rfl (bD hf rfl rfl cT rfl rfl (l1 rfl) (l4 rfl) rfl (aD (hK46 _ (aB (aE aA 2 rfl (bA rfl rfl rfl (fun hg14=>?_) (fun hg14=>?_)))))))))))))
     ·
      simp only[bs] at hg14
      refine aI rfl (bM rfl fD cT rfl) ?_
      refine aE aA 1 rfl (bF rfl rfl rfl (aN hf rfl (aP rfl rfl iX rfl (Nm.right_den e.user hu)) (aE aA 2 rfl (aD (hK45 _ (bI (hK4 _ (aC (fun K47 hK47=>(aB (aE aA 2 rfl (bA rfl rfl rfl (fun hg15=>?_) (fun hg15=>?_)))))))))))))
      ·
       refine aI rfl (cD rfl iD cY rfl rfl rfl) ?_
       refine aE aA 1 rfl (bF rfl rfl rfl (aI rfl (iA rfl rfl iC rfl) (aE aA 2 rfl (aD (hK47 _ (aM ?_))))))
       refine⟨_,rfl,?_⟩
       refine aQ ?_
       rw[Bool.eq_iff_iff]
       simp only[cH,eH]
       (have hlt:e.at'<1099511627776:=(by omega); simp_all[toList_inj,cA,eq_comm (a:=(0:Int)) (b:=e.st),eq_comm (a:=(0:Int)) (b:=e.n)]; done)
      ·
       simp only[bs] at hg15
       refine aE aA 4 rfl (aD (hK47 _ (aM ?_)))
       refine⟨_,rfl,?_⟩
       refine aQ ?_
       rw[Bool.eq_iff_iff]
       simp only[cH,eH]
       (simp_all[toList_inj,cA]; done)
     ·
      simp only[bs] at hg14
      refine aE aA 4 rfl (aD (hK45 _ (bI (hK4 _ (aC (fun K48 hK48=>(aB (aE aA 7 rfl (aD (hK48 _ (aM ?_)))))))))))
      refine⟨_,rfl,?_⟩
      refine aQ ?_
      rw[Bool.eq_iff_iff]
      simp only[cH,eH]
      (simp_all[toList_inj,cA]; omega)
    ·
     simp only[bs] at hg13
     refine aE aA 4 rfl ?_
     refine bV ?_
     refine hK9 _ (aC (fun K49 hK49=>(aC (fun K50 hK50=>(aB (aE aA 3 rfl (bD hf rfl rfl cT rfl rfl (l1 rfl) (l4 rfl) rfl (aD (hK50 _ (aB (aE aA 7 rfl (aD (hK49 _ (bI ?_))))))))))))))
     refine hK4 _ (aC (fun K51 hK51=>(aB (aE aA 7 rfl (aD (hK51 _ (aM ?_)))))))
     refine⟨_,rfl,?_⟩
     refine aQ ?_
     rw[Bool.eq_iff_iff]
     simp only[cH,eH]
     (simp_all[toList_inj,cA]; omega)
   ·
    simp only[bs] at hc12
    refine aR (hK42 _ (aC (fun K52 hK52=>(aC (fun K53 hK53=>(aB (aE aA 2 rfl (aD (hK53 _ (dV rfl rfl (fun hc16=>?_) (fun hc16=>?_)))))))))))
    ·
     simp only[bs] at hc16
     refine bI (hK9 _ (aC (fun K54 hK54=>(aC (fun K55 hK55=>(aB (aE aA 3 rfl (bD hf rfl rfl cT rfl rfl (l1 rfl) (l4 rfl) rfl (aD (hK55 _ (aB (aE aA 2 rfl (bA rfl rfl rfl (fun hg17=>?_) (fun hg17=>?_))))))))))))))
     ·
      simp only[bs] at hg17
      refine aI rfl (bM rfl fD cT rfl) ?_
      refine aE aA 1 rfl (bF rfl rfl rfl (aN hf rfl (aP rfl rfl iX rfl (Nm.right_den e.user hu)) (aE aA 2 rfl (aD (hK54 _ (bI (hK4 _ (aC (fun K56 hK56=>(aB (aE aA 2 rfl (bA rfl rfl rfl (fun hg18=>?_) (fun hg18=>?_)))))))))))))
      ·
       refine aI rfl (cD rfl iD cY rfl rfl rfl) ?_
       refine aE aA 1 rfl (bF rfl rfl rfl (aI rfl (iA rfl rfl iC rfl) (aE aA 2 rfl (aD (hK56 _ (aM ?_))))))
       refine⟨_,rfl,?_⟩
       refine aQ ?_
       rw[Bool.eq_iff_iff]
       simp only[cH,eH]
       (have hlt:e.at'<1099511627776:=(by omega); simp_all[toList_inj,cA,eq_comm (a:=(0:Int)) (b:=e.st),eq_comm (a:=(0:Int)) (b:=e.n)]; done)
      ·
       simp only[bs] at hg18
       refine aE aA 4 rfl (aD (hK56 _ (aM ?_)))
       refine⟨_,rfl,?_⟩
       refine aQ ?_
       rw[Bool.eq_iff_iff]
       simp only[cH,eH]
       (simp_all[toList_inj,cA]; done)
     ·
      simp only[bs] at hg17
      refine aE aA 4 rfl (aD (hK54 _ (bI (hK4 _ (aC (fun K57 hK57=>(aB (aE aA 7 rfl (aD (hK57 _ (aM ?_)))))))))))
      refine⟨_,rfl,?_⟩
      refine aQ ?_
      rw[Bool.eq_iff_iff]
      simp only[cH,eH]
      (simp_all[toList_inj,cA]; omega)
    ·
     simp only[bs] at hc16
     refine aR (hK52 _ (aC (fun K58 hK58=>(aC (fun K59 hK59=>(aC (fun K60 hK60=>(aB (aE aA 2 rfl (aD (hK60 _ (dV rfl rfl (fun hc19=>?_) (fun hc19=>?_)))))))))))))
     ·
      simp only[bs] at hc19
      refine aR (hK59 _ (bP rfl (bI (hK8 _ (aC (fun K61 hK61=>(aC (fun K62 hK62=>(dK bK ?_)))))))))
      refine bY (listed':=#[true,false,false,false,false,false,false,false]) 0 rfl (by kernel_rfl) (by kernel_rfl) (by kernel_rfl) rfl (fun _ _ h=>h) (lQ rfl fD cT rfl) ?_
      refine bY (listed':=#[true,false,true,false,false,false,false,false]) 2 rfl (by kernel_rfl) (by kernel_rfl) (by kernel_rfl) rfl (fun _ _ h=>h) (lQ rfl vC cT rfl) ?_
      refine gZ (iK [1,3,4,54,56] rfl) (aH 1 [3] (by kernel_rfl) ⟨?_,?_,trivial⟩)
      ·
       refine⟨_,rfl,rfl,(ao rfl (aE aA 1 rfl (aF (aH 3 [4] (by kernel_rfl) ⟨?_,?_,trivial⟩))))⟩
       ·
        refine⟨_,rfl,rfl,(ao rfl (aE aA 1 rfl (aF (aH 4 [] (by kernel_rfl) ⟨?_,trivial⟩))))⟩
        ·
         refine⟨_,rfl,rfl,(ao rfl (aE aA 1 rfl (aF (aH 5 [] (by kernel_rfl) ⟨?_,trivial⟩))))⟩
         ·
          refine⟨_,rfl,rfl,(ao rfl (bD hf rfl rfl cT rfl rfl (l1 rfl) (l4 rfl) rfl (aF (aH 6 [] (by kernel_rfl) ⟨?_,trivial⟩))))⟩
          ·
           refine⟨_,rfl,rfl,(ao rfl (aE aA 1 rfl (aF (aH 7 [] (by kernel_rfl) ⟨?_,trivial⟩))))⟩
           ·
            refine⟨_,rfl,rfl,(ao rfl (bD hf rfl rfl cT rfl rfl (l1 rfl) (l4 rfl) rfl (aF (dF (by kernel_rfl) ?_))))⟩
            refine hK62 _ (aB (aE aA 2 rfl (bA rfl rfl rfl (fun hg21=>?_) (fun hg21=>?_))))
            ·
             simp only[bs] at hg21
             refine aI rfl (bM rfl fD cT rfl) ?_
             refine aE aA 3 rfl (bF rfl rfl rfl (aN hf rfl (bR jF rfl rfl rfl rfl (l2 rfl)) (bF rfl rfl rfl (aN hf rfl (aP rfl rfl iE rfl (Nm.all_den [e.user,e.other] (by refine⟨by simp,fun x hx=>?_⟩; simp at hx; rcases hx with rfl | rfl <;> assumption))) ?_))))
             refine aE aA 2 rfl (aD (hK61 _ (bI (hK4 _ (aC (fun K63 hK63=>(aB (aE aA 2 rfl (bA rfl rfl rfl (fun hg22=>?_) (fun hg22=>?_))))))))))
             ·
              refine aI rfl (cD rfl iD cY rfl rfl rfl) ?_
              refine aE aA 1 rfl (bF rfl rfl rfl (aI rfl (iA rfl rfl iC rfl) (aE aA 2 rfl (aD (hK63 _ (aM ?_))))))
              refine⟨_,rfl,?_⟩
              refine aQ ?_
              rw[Bool.eq_iff_iff]
              simp only[cH,eH]
              (have hlt:e.at'<1099511627776:=(by omega); simp_all[toList_inj,cA,eq_comm (a:=(0:Int)) (b:=e.st),eq_comm (a:=(0:Int)) (b:=e.n)]; done)
             ·
              simp only[bs] at hg22
              refine aE aA 4 rfl (aD (hK63 _ (aM ?_)))
              refine⟨_,rfl,?_⟩
              refine aQ ?_
              rw[Bool.eq_iff_iff]
              simp only[cH,eH]
              (simp_all[toList_inj,cA]; done)
            ·
             simp only[bs] at hg21
             refine aE aA 7 rfl (aD (hK61 _ (bI (hK4 _ (aC (fun K64 hK64=>(aB (aE aA 7 rfl (aD (hK64 _ (aM ?_)))))))))))
             refine⟨_,rfl,?_⟩
             refine aQ ?_
             rw[Bool.eq_iff_iff]
             simp only[cH,eH]
             (simp_all[toList_inj,cA]; omega)
       ·
        refine⟨_,rfl,rfl,(ao rfl (aE aA 1 rfl (aF (aH 3 [5] (by kernel_rfl) ⟨?_,?_,trivial⟩))))⟩
        ·
         refine⟨_,rfl,rfl,(ao rfl (aE aA 1 rfl (aF (aH 5 [] (by kernel_rfl) ⟨?_,trivial⟩))))⟩
         ·
          refine⟨_,rfl,rfl,(ao rfl (bD hf rfl rfl cT rfl rfl (l1 rfl) (l4 rfl) rfl (aF (aH 6 [] (by kernel_rfl) ⟨?_,trivial⟩))))⟩
          ·
           refine⟨_,rfl,rfl,(ao rfl (aE aA 1 rfl (aF (aH 7 [] (by kernel_rfl) ⟨?_,trivial⟩))))⟩
           ·
            refine⟨_,rfl,rfl,(ao rfl (bD hf rfl rfl cT rfl rfl (l1 rfl) (l4 rfl) rfl (aF (dF (by kernel_rfl) ?_))))⟩
            refine hK62 _ (aB (aE aA 2 rfl (bA rfl rfl rfl (fun hg23=>?_) (fun hg23=>?_))))
            ·
             simp only[bs] at hg23
             refine aI rfl (bM rfl fD cT rfl) ?_
             refine aE aA 3 rfl (bF rfl rfl rfl (aN hf rfl (bR jF rfl rfl rfl rfl (l2 rfl)) (bF rfl rfl rfl (aN hf rfl (aP rfl rfl iE rfl (Nm.all_den [e.user,e.other] (by refine⟨by simp,fun x hx=>?_⟩; simp at hx; rcases hx with rfl | rfl <;> assumption))) ?_))))
             refine aE aA 2 rfl (aD (hK61 _ (bI (hK4 _ (aC (fun K65 hK65=>(aB (aE aA 2 rfl (bA rfl rfl rfl (fun hg24=>?_) (fun hg24=>?_))))))))))
             ·
              refine aI rfl (cD rfl iD cY rfl rfl rfl) ?_
              refine aE aA 1 rfl (bF rfl rfl rfl (aI rfl (iA rfl rfl iC rfl) (aE aA 2 rfl (aD (hK65 _ (aM ?_))))))
              refine⟨_,rfl,?_⟩
              refine aQ ?_
              rw[Bool.eq_iff_iff]
              simp only[cH,eH]
              (have hlt:e.at'<1099511627776:=(by omega); simp_all[toList_inj,cA,eq_comm (a:=(0:Int)) (b:=e.st),eq_comm (a:=(0:Int)) (b:=e.n)]; done)
             ·
              simp only[bs] at hg24
              refine aE aA 4 rfl (aD (hK65 _ (aM ?_)))
              refine⟨_,rfl,?_⟩
              refine aQ ?_
              rw[Bool.eq_iff_iff]
              simp only[cH,eH]
              (simp_all[toList_inj,cA]; done)
            ·
             simp only[bs] at hg23
             refine aE aA 7 rfl (aD (hK61 _ (bI (hK4 _ (aC (fun K66 hK66=>(aB (aE aA 7 rfl (aD (hK66 _ (aM ?_)))))))))))
             refine⟨_,rfl,?_⟩
             refine aQ ?_
             rw[Bool.eq_iff_iff]
             simp only[cH,eH]
             (simp_all[toList_inj,cA]; omega)
        ·
         refine⟨_,rfl,rfl,(ao rfl (bD hf rfl rfl cT rfl rfl (l1 rfl) (l4 rfl) rfl (aF (aH 3 [] (by kernel_rfl) ⟨?_,trivial⟩))))⟩
         ·
          refine⟨_,rfl,rfl,(ao rfl (aE aA 1 rfl (aF (aH 6 [] (by kernel_rfl) ⟨?_,trivial⟩))))⟩
          ·
           refine⟨_,rfl,rfl,(ao rfl (aE aA 1 rfl (aF (aH 7 [] (by kernel_rfl) ⟨?_,trivial⟩))))⟩
           ·
            refine⟨_,rfl,rfl,(ao rfl (bD hf rfl rfl cT rfl rfl (l1 rfl) (l4 rfl) rfl (aF (dF (by kernel_rfl) ?_))))⟩
            refine hK62 _ (aB (aE aA 2 rfl (bA rfl rfl rfl (fun hg25=>?_) (fun hg25=>?_))))
            ·
             simp only[bs] at hg25
             refine aI rfl (bM rfl fD cT rfl) ?_
             refine aE aA 3 rfl (bF rfl rfl rfl (aN hf rfl (bR jF rfl rfl rfl rfl (l2 rfl)) (bF rfl rfl rfl (aN hf rfl (aP rfl rfl iE rfl (Nm.all_den [e.user,e.other] (by refine⟨by simp,fun x hx=>?_⟩; simp at hx; rcases hx with rfl | rfl <;> assumption))) ?_))))
             refine aE aA 2 rfl (aD (hK61 _ (bI (hK4 _ (aC (fun K67 hK67=>(aB (aE aA 2 rfl (bA rfl rfl rfl (fun hg26=>?_) (fun hg26=>?_))))))))))
             ·
              refine aI rfl (cD rfl iD cY rfl rfl rfl) ?_
              refine aE aA 1 rfl (bF rfl rfl rfl (aI rfl (iA rfl rfl iC rfl) (aE aA 2 rfl (aD (hK67 _ (aM ?_))))))
              refine⟨_,rfl,?_⟩
              refine aQ ?_
              rw[Bool.eq_iff_iff]
              simp only[cH,eH]
              (have hlt:e.at'<1099511627776:=(by omega); simp_all[toList_inj,cA,eq_comm (a:=(0:Int)) (b:=e.st),eq_comm (a:=(0:Int)) (b:=e.n)]; done)
             ·
              simp only[bs] at hg26
              refine aE aA 4 rfl (aD (hK67 _ (aM ?_)))
              refine⟨_,rfl,?_⟩
              refine aQ ?_
              rw[Bool.eq_iff_iff]
              simp only[cH,eH]
              (simp_all[toList_inj,cA]; done)
            ·
             simp only[bs] at hg25
             refine aE aA 7 rfl (aD (hK61 _ (bI (hK4 _ (aC (fun K68 hK68=>(aB (aE aA 7 rfl (aD (hK68 _ (aM ?_)))))))))))
             refine⟨_,rfl,?_⟩
             refine aQ ?_
             rw[Bool.eq_iff_iff]
             simp only[cH,eH]
             (simp_all[toList_inj,cA]; omega)
      ·
       refine⟨_,rfl,rfl,(ao rfl (aE aA 1 rfl (aF (aH 1 [] (by kernel_rfl) ⟨?_,trivial⟩))))⟩
       ·
        refine⟨_,rfl,rfl,(ao rfl (aE aA 1 rfl (aF (aH 4 [] (by kernel_rfl) ⟨?_,trivial⟩))))⟩
        ·
         refine⟨_,rfl,rfl,(ao rfl (aE aA 1 rfl (aF (aH 5 [] (by kernel_rfl) ⟨?_,trivial⟩))))⟩
         ·
          refine⟨_,rfl,rfl,(ao rfl (bD hf rfl rfl cT rfl rfl (l1 rfl) (l4 rfl) rfl (aF (aH 6 [] (by kernel_rfl) ⟨?_,trivial⟩))))⟩
          ·
           refine⟨_,rfl,rfl,(ao rfl (aE aA 1 rfl (aF (aH 7 [] (by kernel_rfl) ⟨?_,trivial⟩))))⟩
           ·
            refine⟨_,rfl,rfl,(ao rfl (bD hf rfl rfl cT rfl rfl (l1 rfl) (l4 rfl) rfl (aF (dF (by kernel_rfl) ?_))))⟩
            refine hK62 _ (aB (aE aA 2 rfl (bA rfl rfl rfl (fun hg27=>?_) (fun hg27=>?_))))
            ·
             simp only[bs] at hg27
             refine aI rfl (bM rfl fD cT rfl) ?_
             refine aE aA 3 rfl (bF rfl rfl rfl (aN hf rfl (bR jF rfl rfl rfl rfl (l2 rfl)) (bF rfl rfl rfl (aN hf rfl (aP rfl rfl iE rfl (Nm.all_den [e.user,e.other] (by refine⟨by simp,fun x hx=>?_⟩; simp at hx; rcases hx with rfl | rfl <;> assumption))) ?_))))
             refine aE aA 2 rfl (aD (hK61 _ (bI (hK4 _ (aC (fun K69 hK69=>(aB (aE aA 2 rfl (bA rfl rfl rfl (fun hg28=>?_) (fun hg28=>?_))))))))))
             ·
              refine aI rfl (cD rfl iD cY rfl rfl rfl) ?_
              refine aE aA 1 rfl (bF rfl rfl rfl (aI rfl (iA rfl rfl iC rfl) (aE aA 2 rfl (aD (hK69 _ (aM ?_))))))
              refine⟨_,rfl,?_⟩
              refine aQ ?_
              rw[Bool.eq_iff_iff]
              simp only[cH,eH]
              (have hlt:e.at'<1099511627776:=(by omega); simp_all[toList_inj,cA,eq_comm (a:=(0:Int)) (b:=e.st),eq_comm (a:=(0:Int)) (b:=e.n)]; done)
             ·
              simp only[bs] at hg28
              refine aE aA 4 rfl (aD (hK69 _ (aM ?_)))
              refine⟨_,rfl,?_⟩
              refine aQ ?_
              rw[Bool.eq_iff_iff]
              simp only[cH,eH]
              (simp_all[toList_inj,cA]; done)
            ·
             simp only[bs] at hg27
             refine aE aA 7 rfl (aD (hK61 _ (bI (hK4 _ (aC (fun K70 hK70=>(aB (aE aA 7 rfl (aD (hK70 _ (aM ?_)))))))))))
             refine⟨_,rfl,?_⟩
             refine aQ ?_
             rw[Bool.eq_iff_iff]
             simp only[cH,eH]
             (simp_all[toList_inj,cA]; omega)
     ·
      simp only[bs] at hc19
      refine aB (aE aA 2 rfl (aD (hK59 _ (dV rfl rfl (fun hc29=>?_) (fun hc29=>?_)))))
      ·
       simp only[bs] at hc29
       refine bI (hK8 _ (aC (fun K71 hK71=>(aC (fun K72 hK72=>(dK bK ?_))))))
       refine bY (listed':=#[true,false,false,false,false,false,false,false]) 0 rfl (by kernel_rfl) (by kernel_rfl) (by kernel_rfl) rfl (fun _ _ h=>h) (lQ rfl fD cT rfl) ?_
       refine bY (listed':=#[true,false,true,false,false,false,false,false]) 2 rfl (by kernel_rfl) (by kernel_rfl) (by kernel_rfl) rfl (fun _ _ h=>h) (lQ rfl vC cT rfl) ?_
       refine gZ (iK [1,3,4,54,56] rfl) (aH 1 [3] (by kernel_rfl) ⟨?_,?_,trivial⟩)
       ·
        refine⟨_,rfl,rfl,(ao rfl (aE aA 1 rfl (aF (aH 3 [4] (by kernel_rfl) ⟨?_,?_,trivial⟩))))⟩
        ·
         refine⟨_,rfl,rfl,(ao rfl (aE aA 1 rfl (aF (aH 4 [] (by kernel_rfl) ⟨?_,trivial⟩))))⟩
         ·
          refine⟨_,rfl,rfl,(ao rfl (aE aA 1 rfl (aF (aH 5 [] (by kernel_rfl) ⟨?_,trivial⟩))))⟩
          ·
           refine⟨_,rfl,rfl,(ao rfl (bD hf rfl rfl cT rfl rfl (l1 rfl) (l4 rfl) rfl (aF (aH 6 [] (by kernel_rfl) ⟨?_,trivial⟩))))⟩
           ·
            refine⟨_,rfl,rfl,(ao rfl (aE aA 1 rfl (aF (aH 7 [] (by kernel_rfl) ⟨?_,trivial⟩))))⟩
            ·
             refine⟨_,rfl,rfl,(ao rfl (bD hf rfl rfl cT rfl rfl (l1 rfl) (l4 rfl) rfl (aF (dF (by kernel_rfl) ?_))))⟩
             refine hK72 _ (aB (aE aA 2 rfl (bA rfl rfl rfl (fun hg30=>?_) (fun hg30=>?_))))
             ·
              simp only[bs] at hg30
              refine aI rfl (bM rfl fD cT rfl) ?_
              refine aE aA 3 rfl (bF rfl rfl rfl (aN hf rfl (bR jF rfl rfl rfl rfl (l2 rfl)) (bF rfl rfl rfl (aN hf rfl (aP rfl rfl iE rfl (Nm.all_den [e.user,e.other] (by refine⟨by simp,fun x hx=>?_⟩; simp at hx; rcases hx with rfl | rfl <;> assumption))) ?_))))
              refine aE aA 2 rfl (aD (hK71 _ (bI (hK4 _ (aC (fun K73 hK73=>(aB (aE aA 2 rfl (bA rfl rfl rfl (fun hg31=>?_) (fun hg31=>?_))))))))))
              ·
               refine aI rfl (cD rfl iD cY rfl rfl rfl) ?_
               refine aE aA 1 rfl (bF rfl rfl rfl (aI rfl (iA rfl rfl iC rfl) (aE aA 2 rfl (aD (hK73 _ (aM ?_))))))
               refine⟨_,rfl,?_⟩
               refine aQ ?_
               rw[Bool.eq_iff_iff]
               simp only[cH,eH]
               (have hlt:e.at'<1099511627776:=(by omega); simp_all[toList_inj,cA,eq_comm (a:=(0:Int)) (b:=e.st),eq_comm (a:=(0:Int)) (b:=e.n)]; done)
              ·
               simp only[bs] at hg31
               refine aE aA 4 rfl (aD (hK73 _ (aM ?_)))
               refine⟨_,rfl,?_⟩
               refine aQ ?_
               rw[Bool.eq_iff_iff]
               simp only[cH,eH]
               (simp_all[toList_inj,cA]; done)
             ·
              simp only[bs] at hg30
              refine aE aA 7 rfl (aD (hK71 _ (bI (hK4 _ (aC (fun K74 hK74=>(aB (aE aA 7 rfl (aD (hK74 _ (aM ?_)))))))))))
              refine⟨_,rfl,?_⟩
              refine aQ ?_
              rw[Bool.eq_iff_iff]
              simp only[cH,eH]
              (simp_all[toList_inj,cA]; omega)
        ·
         refine⟨_,rfl,rfl,(ao rfl (aE aA 1 rfl (aF (aH 3 [5] (by kernel_rfl) ⟨?_,?_,trivial⟩))))⟩
         ·
          refine⟨_,rfl,rfl,(ao rfl (aE aA 1 rfl (aF (aH 5 [] (by kernel_rfl) ⟨?_,trivial⟩))))⟩
          ·
           refine⟨_,rfl,rfl,(ao rfl (bD hf rfl rfl cT rfl rfl (l1 rfl) (l4 rfl) rfl (aF (aH 6 [] (by kernel_rfl) ⟨?_,trivial⟩))))⟩
           ·
            refine⟨_,rfl,rfl,(ao rfl (aE aA 1 rfl (aF (aH 7 [] (by kernel_rfl) ⟨?_,trivial⟩))))⟩
            ·
             refine⟨_,rfl,rfl,(ao rfl (bD hf rfl rfl cT rfl rfl (l1 rfl) (l4 rfl) rfl (aF (dF (by kernel_rfl) ?_))))⟩
             refine hK72 _ (aB (aE aA 2 rfl (bA rfl rfl rfl (fun hg32=>?_) (fun hg32=>?_))))
             ·
              simp only[bs] at hg32
              refine aI rfl (bM rfl fD cT rfl) ?_
              refine aE aA 3 rfl (bF rfl rfl rfl (aN hf rfl (bR jF rfl rfl rfl rfl (l2 rfl)) (bF rfl rfl rfl (aN hf rfl (aP rfl rfl iE rfl (Nm.all_den [e.user,e.other] (by refine⟨by simp,fun x hx=>?_⟩; simp at hx; rcases hx with rfl | rfl <;> assumption))) ?_))))
              refine aE aA 2 rfl (aD (hK71 _ (bI (hK4 _ (aC (fun K75 hK75=>(aB (aE aA 2 rfl (bA rfl rfl rfl (fun hg33=>?_) (fun hg33=>?_))))))))))
              ·
               refine aI rfl (cD rfl iD cY rfl rfl rfl) ?_
               refine aE aA 1 rfl (bF rfl rfl rfl (aI rfl (iA rfl rfl iC rfl) (aE aA 2 rfl (aD (hK75 _ (aM ?_))))))
               refine⟨_,rfl,?_⟩
               refine aQ ?_
               rw[Bool.eq_iff_iff]
               simp only[cH,eH]
               (have hlt:e.at'<1099511627776:=(by omega); simp_all[toList_inj,cA,eq_comm (a:=(0:Int)) (b:=e.st),eq_comm (a:=(0:Int)) (b:=e.n)]; done)
              ·
               simp only[bs] at hg33
               refine aE aA 4 rfl (aD (hK75 _ (aM ?_)))
               refine⟨_,rfl,?_⟩
               refine aQ ?_
               rw[Bool.eq_iff_iff]
               simp only[cH,eH]
               (simp_all[toList_inj,cA]; done)
             ·
              simp only[bs] at hg32
              refine aE aA 7 rfl (aD (hK71 _ (bI (hK4 _ (aC (fun K76 hK76=>(aB (aE aA 7 rfl (aD (hK76 _ (aM ?_)))))))))))
              refine⟨_,rfl,?_⟩
              refine aQ ?_
              rw[Bool.eq_iff_iff]
              simp only[cH,eH]
              (simp_all[toList_inj,cA]; omega)
         ·
          refine⟨_,rfl,rfl,(ao rfl (bD hf rfl rfl cT rfl rfl (l1 rfl) (l4 rfl) rfl (aF (aH 3 [] (by kernel_rfl) ⟨?_,trivial⟩))))⟩
          ·
           refine⟨_,rfl,rfl,(ao rfl (aE aA 1 rfl (aF (aH 6 [] (by kernel_rfl) ⟨?_,trivial⟩))))⟩
           ·
            refine⟨_,rfl,rfl,(ao rfl (aE aA 1 rfl (aF (aH 7 [] (by kernel_rfl) ⟨?_,trivial⟩))))⟩
            ·
             refine⟨_,rfl,rfl,(ao rfl (bD hf rfl rfl cT rfl rfl (l1 rfl) (l4 rfl) rfl (aF (dF (by kernel_rfl) ?_))))⟩
             refine hK72 _ (aB (aE aA 2 rfl (bA rfl rfl rfl (fun hg34=>?_) (fun hg34=>?_))))
             ·
              simp only[bs] at hg34
              refine aI rfl (bM rfl fD cT rfl) ?_
              refine aE aA 3 rfl (bF rfl rfl rfl (aN hf rfl (bR jF rfl rfl rfl rfl (l2 rfl)) (bF rfl rfl rfl (aN hf rfl (aP rfl rfl iE rfl (Nm.all_den [e.user,e.other] (by refine⟨by simp,fun x hx=>?_⟩; simp at hx; rcases hx with rfl | rfl <;> assumption))) ?_))))
              refine aE aA 2 rfl (aD (hK71 _ (bI (hK4 _ (aC (fun K77 hK77=>(aB (aE aA 2 rfl (bA rfl rfl rfl (fun hg35=>?_) (fun hg35=>?_))))))))))
              ·
               refine aI rfl (cD rfl iD cY rfl rfl rfl) ?_
               refine aE aA 1 rfl (bF rfl rfl rfl (aI rfl (iA rfl rfl iC rfl) (aE aA 2 rfl (aD (hK77 _ (aM ?_))))))
               refine⟨_,rfl,?_⟩
               refine aQ ?_
               rw[Bool.eq_iff_iff]
               simp only[cH,eH]
               (have hlt:e.at'<1099511627776:=(by omega); simp_all[toList_inj,cA,eq_comm (a:=(0:Int)) (b:=e.st),eq_comm (a:=(0:Int)) (b:=e.n)]; done)
              ·
               simp only[bs] at hg35
               refine aE aA 4 rfl (aD (hK77 _ (aM ?_)))
               refine⟨_,rfl,?_⟩
               refine aQ ?_
               rw[Bool.eq_iff_iff]
               simp only[cH,eH]
               (simp_all[toList_inj,cA]; done)
             ·
              simp only[bs] at hg34
              refine aE aA 7 rfl (aD (hK71 _ (bI (hK4 _ (aC (fun K78 hK78=>(aB (aE aA 7 rfl (aD (hK78 _ (aM ?_)))))))))))
              refine⟨_,rfl,?_⟩
              refine aQ ?_
              rw[Bool.eq_iff_iff]
              simp only[cH,eH]
              (simp_all[toList_inj,cA]; omega)
       ·
        refine⟨_,rfl,rfl,(ao rfl (aE aA 1 rfl (aF (aH 1 [] (by kernel_rfl) ⟨?_,trivial⟩))))⟩
        ·
         refine⟨_,rfl,rfl,(ao rfl (aE aA 1 rfl (aF (aH 4 [] (by kernel_rfl) ⟨?_,trivial⟩))))⟩
         ·
          refine⟨_,rfl,rfl,(ao rfl (aE aA 1 rfl (aF (aH 5 [] (by kernel_rfl) ⟨?_,trivial⟩))))⟩
          ·
           refine⟨_,rfl,rfl,(ao rfl (bD hf rfl rfl cT rfl rfl (l1 rfl) (l4 rfl) rfl (aF (aH 6 [] (by kernel_rfl) ⟨?_,trivial⟩))))⟩
           ·
            refine⟨_,rfl,rfl,(ao rfl (aE aA 1 rfl (aF (aH 7 [] (by kernel_rfl) ⟨?_,trivial⟩))))⟩
            ·
             refine⟨_,rfl,rfl,(ao rfl (bD hf rfl rfl cT rfl rfl (l1 rfl) (l4 rfl) rfl (aF (dF (by kernel_rfl) ?_))))⟩
             refine hK72 _ (aB (aE aA 2 rfl (bA rfl rfl rfl (fun hg36=>?_) (fun hg36=>?_))))
             ·
              simp only[bs] at hg36
              refine aI rfl (bM rfl fD cT rfl) ?_
              refine aE aA 3 rfl (bF rfl rfl rfl (aN hf rfl (bR jF rfl rfl rfl rfl (l2 rfl)) (bF rfl rfl rfl (aN hf rfl (aP rfl rfl iE rfl (Nm.all_den [e.user,e.other] (by refine⟨by simp,fun x hx=>?_⟩; simp at hx; rcases hx with rfl | rfl <;> assumption))) ?_))))
              refine aE aA 2 rfl (aD (hK71 _ (bI (hK4 _ (aC (fun K79 hK79=>(aB (aE aA 2 rfl (bA rfl rfl rfl (fun hg37=>?_) (fun hg37=>?_))))))))))
              ·
               refine aI rfl (cD rfl iD cY rfl rfl rfl) ?_
               refine aE aA 1 rfl (bF rfl rfl rfl (aI rfl (iA rfl rfl iC rfl) (aE aA 2 rfl (aD (hK79 _ (aM ?_))))))
               refine⟨_,rfl,?_⟩
               refine aQ ?_
               rw[Bool.eq_iff_iff]
               simp only[cH,eH]
               (have hlt:e.at'<1099511627776:=(by omega); simp_all[toList_inj,cA,eq_comm (a:=(0:Int)) (b:=e.st),eq_comm (a:=(0:Int)) (b:=e.n)]; done)
              ·
               simp only[bs] at hg37
               refine aE aA 4 rfl (aD (hK79 _ (aM ?_)))
               refine⟨_,rfl,?_⟩
               refine aQ ?_
               rw[Bool.eq_iff_iff]
               simp only[cH,eH]
               (simp_all[toList_inj,cA]; done)
             ·
              simp only[bs] at hg36
              refine aE aA 7 rfl (aD (hK71 _ (bI (hK4 _ (aC (fun K80 hK80=>(aB (aE aA 7 rfl (aD (hK80 _ (aM ?_)))))))))))
              refine⟨_,rfl,?_⟩
              refine aQ ?_
              rw[Bool.eq_iff_iff]
              simp only[cH,eH]
              (simp_all[toList_inj,cA]; omega)
      ·
       simp only[bs] at hc29
       refine aR (hK58 _ (aC (fun K81 hK81=>(aB (aE aA 2 rfl (aD (hK81 _ (dV rfl rfl (fun hc38=>?_) (fun hc38=>?_)))))))))
       ·
        simp only[bs] at hc38
        refine bI (hK7 _ (aC (fun K82 hK82=>(aC (fun K83 hK83=>(aB (aE aA 3 rfl (bD hf rfl rfl cP rfl rfl (l1 rfl) (l4 rfl) rfl (aD (hK83 _ (aB (aE aA 2 rfl (bA rfl rfl rfl (fun hg39=>?_) (fun hg39=>?_))))))))))))))
        ·
         simp only[bs] at hg39
         refine aI rfl (bM rfl rI cP rfl) ?_
         refine aE aA 1 rfl (bF rfl rfl rfl (aN hf rfl (aP rfl rfl kL rfl (jV _ _ _)) (aE aA 2 rfl (aD (hK82 _ (bI (hK4 _ (aC (fun K84 hK84=>(aB (aE aA 2 rfl (bA rfl rfl rfl (fun hg40=>?_) (fun hg40=>?_)))))))))))))
         ·
          simp only[bs] at hg40
          refine aI rfl (cD rfl iD cY rfl rfl rfl) ?_
          refine aE aA 1 rfl (bF rfl rfl rfl (aI rfl (iA rfl rfl iC rfl) (aE aA 2 rfl (aD (hK84 _ (aM ?_))))))
          refine⟨_,rfl,?_⟩
          refine aQ ?_
          rw[Bool.eq_iff_iff]
          simp only[cH,eH]
          (have hlt:e.at'<1099511627776:=(by omega); have hln:e.n<1099511627776:=(by omega); simp_all[toList_inj,cA,eq_comm (a:=(0:Int)) (b:=e.st),eq_comm (a:=(0:Int)) (b:=e.n)]; done)
         ·
          simp only[bs] at hg40
          refine aE aA 4 rfl (aD (hK84 _ (aM ?_)))
          refine⟨_,rfl,?_⟩
          refine aQ ?_
          rw[Bool.eq_iff_iff]
          simp only[cH,eH]
          (simp_all[toList_inj,cA]; omega)
        ·
         simp only[bs] at hg39
         refine aE aA 4 rfl (aD (hK82 _ (bI (hK4 _ (aC (fun K85 hK85=>(aB (aE aA 7 rfl (aD (hK85 _ (aM ?_)))))))))))
         refine⟨_,rfl,?_⟩
         refine aQ ?_
         rw[Bool.eq_iff_iff]
         simp only[cH,eH]
         (simp_all[toList_inj,cA]; omega)
       ·
        simp only[bs] at hc38
        refine aR (hK12 _ (bI (hK6 _ (aC (fun K86 hK86=>(aC (fun K87 hK87=>(aB (aE aA 1 rfl (aD (hK87 _ (aM ?_))))))))))))
        refine⟨_,rfl,?_⟩
        refine aQ ?_
        rw[Bool.eq_iff_iff]
        simp only[cH,eH]
        (simp_all[toList_inj,cA]; done)
end Go.Proofs.YtijnkglkchhomaaGreat
set_option linter.unusedVariables false
set_option linter.unusedSimpArgs false
namespace Go.Proofs.YtijnkglkchhomaaGreat
open Go Go.Abs
theorem aK6 (s:Sta) (e:Ev) (hz:SzS 140737488355100 s) (hr:dG cM s.usr) (hr2:dG dH s.tmb) (he:cH e=true):DenX Tryz.prog 88 [.agg (eA s E0 E1),.agg (evC e)] [(E0,.buf 2 (s.usr.map usC)),(E1,.buf 2 (s.tmb.map tmC))] (fun r m=>r=.tup [.agg (eA (bL s e).1 E0 E1),.s (.int .i64 (bL s e).2)]∧m=[(E0,.buf 2 ((bL s e).1.usr.map usC)),(E1,.buf 2 ((bL s e).1.tmb.map tmC))]):=by
  rcases sE he with ⟨hk,_⟩ | ⟨hk,_⟩ | ⟨hk,_⟩ | ⟨hk,_⟩ | ⟨hk,_⟩ | ⟨hk,_⟩ | ⟨hk,_⟩
  · exact aRt s e hz hr hr2 hk
  · exact aRs s e hz hr hr2 hk
  · exact aRr s e hz hr hr2 hk
  · exact aRq s e hz hr hr2 hk
  · exact aRp s e hz hr hr2 hk
  · exact aRo s e hz hr hr2 hk
  · exact aRn s e hz hr hr2 hk
theorem nX:∀ (w:World) (p:Hp) (v:Value),RelV w p (.agg [.s (.int .i64 0),.s (.int .i64 0),.s (.slice none 0 0),.s (.slice none 0 0),.s (.slice none 0 0),.s (.slice none 0 0)]) v→RelV w p (.agg (aL aJ)) v:=by
  intro w p v h
  cases h with
  | agg _ vs hl h =>
    refine .agg _ _ hl fun i c v hc hv=>?_
    match i,hc with
    | 0,hc=>cases hc; exact h 0 _ v rfl hv
    | 1,hc=>cases hc; exact h 1 _ v rfl hv
    | 2,hc=>cases hc; have:=h 2 _ v rfl hv; cases this; exact .sln 4 none 0 (by simp [maxLen])
    | 3,hc=>cases hc; have:=h 3 _ v rfl hv; cases this; exact .sln 2 none 0 (by simp [maxLen])
    | 4,hc=>cases hc; have:=h 4 _ v rfl hv; cases this; exact .sln 4 none 0 (by simp [maxLen])
    | 5,hc=>cases hc; have:=h 5 _ v rfl hv; cases this; exact .sln 2 none 0 (by simp [maxLen])
theorem oC (s:Sta):(AV.agg (eA s E0 E1)).ren [(E0,222),(E1,223)]=.agg (eA s 222 223):=rfl
theorem aJ0 (s:Sta) (z:Int):(AV.tup [.agg (eA s E0 E1),.s (.int .i64 z)]).ren [(E0,222),(E1,223)]=.tup [.agg (eA s 222 223),.s (.int .i64 z)]:=rfl
theorem kG (s:Sta) (e:Ev) (hz:SzS 140737488355100 s) (hr:dG cM s.usr) (hr2:dG dH s.tmb) (hu:TS e.user) (ho:TS e.other) :Den Tryz.prog 42 [.agg (aL s),.agg (evC e)]  (·=.tup [.agg (aL (cG s e).1),.s (.int .i64 (cG s e).2)]):=by
 refine aY Tryz.func42 rfl (Nat.le_of_ble_eq_true rfl) (fun w0 A hf=>(aC (fun K1 hK1=>(aB (aN hf rfl (cS rfl rfl (lf rfl)) (aN hf rfl (cS rfl rfl (lf rfl)) (aZ hf rfl rfl rfl aX (aE aA 1 rfl (aD (hK1 _ (aC (fun K2 hK2=>(aU (aC (fun K3 hK3=>(aB ?_))))))))))))))))
 refine aE aA 1 rfl (aN hf rfl (aP rfl rfl aO5 rfl (aJu e hu ho)) (aE aA 2 rfl (aD (hK3 _ (dV rfl rfl (fun hc1=>?_) (fun hc1=>?_))))))
 ·
  simp only[bs] at hc1
  refine aC (fun K4 hK4=>(aB (aI rfl (dD rfl aX kW (l3 rfl) rfl) (cB (rA nX) (bD hf rfl rfl bS rfl rfl (l1 rfl) (l4 rfl) rfl (aE aA 1 rfl (aD (hK4 _ (aM ?_)))))))))
  refine⟨_,rfl,?_⟩
  rw[show cG s e=(aJ,110) from by rw[cG,if_neg (by simp_all)]]; rfl
 ·
  simp only[bs] at hc1
  refine aC (fun K5 hK5=>(aB (aE aA 6 rfl (aD (hK5 _ (dV rfl rfl (fun hc2=>?_) (fun hc2=>?_)))))))
  ·
   simp only[bs] at hc2
   refine aC (fun K6 hK6=>(aB (aI rfl (dD rfl aX kW (l3 rfl) rfl) (cB (rA nX) (bD hf rfl rfl bS rfl rfl (l1 rfl) (l4 rfl) rfl (aE aA 1 rfl (aD (hK6 _ (aM ?_)))))))))
   refine⟨_,rfl,?_⟩
   rw[show cG s e=(aJ,111) from by rw[cG,if_pos (by simp_all),if_pos (by first | assumption | omega)]]; rfl
  ·
   simp only[bs] at hc2
   refine aR (hK2 _ (aC (fun K7 hK7=>(dK bK ?_))))
   refine aK 1 #[true,true,true,true,true,true,true,true,true,false] ⟨35,[(3,.adr (evC e)),(4,.ref 4 0 0 0),(6,.ref 6 0 0 0),(26,.s (.int .i64 (bL s e).2))],[(6,.box (eA (bL s e).1 222 223)),(222,.buf 2 ((bL s e).1.usr.map usC)),(223,.buf 2 ((bL s e).1.tmb.map tmC)),(4,.box [.s (.int .i64 0),.s (.int .i64 0),.s (.slice none 0 0),.s (.slice none 0 0),.s (.slice none 0 0),.s (.slice none 0 0)])]⟩ ?_ (fun hD0=>?_)
   ·
    refine aH 9 [] (by kernel_rfl) ⟨?_,trivial⟩
    ·
     refine⟨_,rfl,rfl,(ao rfl (aE aA 1 rfl (aF (dF (by kernel_rfl) ?_))))⟩
     refine hK7 _ (aC (fun K8 hK8=>(aC (fun K9 hK9=>(aB (aE aA 2 rfl (aD (hK9 _ (dV rfl rfl (fun hc3=>?_) (fun hc3=>?_))))))))))
     ·
      simp only[bs] at hc3
      refine aC (fun K10 hK10=>(aB (aI rfl (dD rfl aX kW (l3 rfl) rfl) (cB (rA nX) (aE aA 1 rfl (bD hf rfl rfl bS rfl rfl (l1 rfl) (l4 rfl) rfl (aE aA 1 rfl (aD (hK10 _ (aM ?_))))))))))
      refine⟨_,rfl,?_⟩
      rw[show cG s e=(aJ,(bL s e).2) from by rw[cG,if_pos (by simp_all),if_neg (by omega),if_neg (by first | assumption | simp_all)]]; rfl
     ·
      simp only[bs] at hc3
      refine aR (hK8 _ (aC (fun K11 hK11=>(aB (aE aA 3 rfl (bD hf rfl rfl cP rfl rfl (l1 rfl) (l4 rfl) rfl (aD (hK11 _ (aC (fun K12 hK12=>(aB (aI rfl (cD (cs':=[.s (.int .i64 e.at'),.s (.int .i64 (bL s e).1.hor),.sl 4 ((bL s e).1.opn.map seC),.own 222 2 0 ((bL s e).1.usr.map usC).length,.sl 4 ((bL s e).1.sub.map enC),.own 223 2 0 ((bL s e).1.tmb.map tmC).length]) rfl jH bS rfl rfl rfl) (bD hf rfl rfl bS rfl rfl (l1 rfl) (l4 rfl) rfl (aE aA 1 rfl ?_))))))))))))))
      refine aD (hK12 _ (aM ?_))
      refine⟨_,rfl,?_⟩
      rw[show cG s e=({ (bL s e).1 with now:=e.at' },0) from by rw[cG,if_pos (by simp_all),if_neg (by omega),if_pos (by first | assumption | simp_all)]]
      show AV.tup [.agg [_,_,_,AV.conv _ (.own 222 2 0 ((bL s e).1.usr.map usC).length),_,AV.conv _ (.own 223 2 0 ((bL s e).1.tmb.map tmC).length)],_]=_
      rw[cL (g:=222) rfl rfl,cL (g:=223) rfl rfl]; rfl
   refine aK 2 #[true,true,true,true,true,true,true,true,false,false] ⟨35,[(3,.adr (evC e)),(4,.ref 4 0 0 0),(6,.ref 6 0 0 0),(25,.agg (eA (bL s e).1 222 223)),(26,.s (.int .i64 (bL s e).2))],[(6,.box [.s (.int .i64 0),.s (.int .i64 0),.s (.slice none 0 0),.s (.slice none 0 0),.s (.slice none 0 0),.s (.slice none 0 0)]),(222,.buf 2 ((bL s e).1.usr.map usC)),(223,.buf 2 ((bL s e).1.tmb.map tmC)),(4,.box [.s (.int .i64 0),.s (.int .i64 0),.s (.slice none 0 0),.s (.slice none 0 0),.s (.slice none 0 0),.s (.slice none 0 0)])]⟩ ?_ (fun hD1=>?_)
   ·
    refine aH 8 [] (by kernel_rfl) ⟨?_,trivial⟩
    ·
     refine⟨_,rfl,rfl,(ao rfl (bD hf rfl rfl bS rfl rfl (l1 rfl) (l4 rfl) rfl (aF (aH 9 [] (by kernel_rfl) ⟨?_,trivial⟩))))⟩
     ·
      refine⟨_,rfl,rfl,(ao rfl (aE aA 1 rfl (aF (dF (by kernel_rfl) ?_))))⟩
      refine hK7 _ (aC (fun K13 hK13=>(aC (fun K14 hK14=>(aB (aE aA 2 rfl (aD (hK14 _ (dV rfl rfl (fun hc4=>?_) (fun hc4=>?_))))))))))
      ·
       simp only[bs] at hc4
       refine aC (fun K15 hK15=>(aB (aI rfl (dD rfl aX kW (l3 rfl) rfl) (cB (rA nX) (aE aA 1 rfl (bD hf rfl rfl bS rfl rfl (l1 rfl) (l4 rfl) rfl (aE aA 1 rfl (aD (hK15 _ (aM ?_))))))))))
       refine⟨_,rfl,?_⟩
       rw[show cG s e=(aJ,(bL s e).2) from by rw[cG,if_pos (by simp_all),if_neg (by omega),if_neg (by first | assumption | simp_all)]]; rfl
      ·
       simp only[bs] at hc4
       refine aR (hK13 _ (aC (fun K16 hK16=>(aB (aE aA 3 rfl (bD hf rfl rfl cP rfl rfl (l1 rfl) (l4 rfl) rfl (aD (hK16 _ (aC (fun K17 hK17=>(aB (aI rfl (cD (cs':=[.s (.int .i64 e.at'),.s (.int .i64 (bL s e).1.hor),.sl 4 ((bL s e).1.opn.map seC),.own 222 2 0 ((bL s e).1.usr.map usC).length,.sl 4 ((bL s e).1.sub.map enC),.own 223 2 0 ((bL s e).1.tmb.map tmC).length]) rfl jH bS rfl rfl rfl) (bD hf rfl rfl bS rfl rfl (l1 rfl) (l4 rfl) rfl (aE aA 1 rfl ?_))))))))))))))
       refine aD (hK17 _ (aM ?_))
       refine⟨_,rfl,?_⟩
       rw[show cG s e=({ (bL s e).1 with now:=e.at' },0) from by rw[cG,if_pos (by simp_all),if_neg (by omega),if_pos (by first | assumption | simp_all)]]
       show AV.tup [.agg [_,_,_,AV.conv _ (.own 222 2 0 ((bL s e).1.usr.map usC).length),_,AV.conv _ (.own 223 2 0 ((bL s e).1.tmb.map tmC).length)],_]=_
       rw[cL (g:=222) rfl rfl,cL (g:=223) rfl rfl]; rfl
   refine aK 2 #[true,true,true,true,true,true,false,true,true,false] ⟨35,[(3,.adr (evC e)),(4,.ref 4 0 0 0),(6,.ref 6 0 0 0),(20,.tup [.agg (eA (bL s e).1 222 223),.s (.int .i64 (bL s e).2)])],[(6,.box (eA (bL s e).1 222 223)),(222,.buf 2 ((bL s e).1.usr.map usC)),(223,.buf 2 ((bL s e).1.tmb.map tmC)),(4,.box [.s (.int .i64 0),.s (.int .i64 0),.s (.slice none 0 0),.s (.slice none 0 0),.s (.slice none 0 0),.s (.slice none 0 0)])]⟩ ?_ (fun hD2=>?_)
   ·
    refine aH 6 [] (by kernel_rfl) ⟨?_,trivial⟩
    ·
     refine⟨_,rfl,rfl,(ao rfl (aE aA 1 rfl (aF (ag hD0 rfl rfl rfl))))⟩
   refine aK 3 #[true,true,true,true,true,true,true,false,false,false] ⟨35,[(3,.adr (evC e)),(4,.ref 4 0 0 0),(25,.agg (eA (bL s e).1 222 223)),(26,.s (.int .i64 (bL s e).2))],[(222,.buf 2 ((bL s e).1.usr.map usC)),(223,.buf 2 ((bL s e).1.tmb.map tmC)),(4,.box [.s (.int .i64 0),.s (.int .i64 0),.s (.slice none 0 0),.s (.slice none 0 0),.s (.slice none 0 0),.s (.slice none 0 0)])]⟩ ?_ (fun hD3=>?_)
   ·
    refine aH 7 [] (by kernel_rfl) ⟨?_,trivial⟩
    ·
     refine⟨_,rfl,rfl,(ao rfl (aZ hf rfl rfl rfl aX (aF (ag hD1 rfl rfl rfl))))⟩
   refine aK 3 #[true,true,true,true,true,true,false,true,false,false] ⟨35,[(3,.adr (evC e)),(4,.ref 4 0 0 0),(6,.ref 6 0 0 0),(20,.tup [.agg (eA (bL s e).1 222 223),.s (.int .i64 (bL s e).2)]),(25,.agg (eA (bL s e).1 222 223))],[(6,.box [.s (.int .i64 0),.s (.int .i64 0),.s (.slice none 0 0),.s (.slice none 0 0),.s (.slice none 0 0),.s (.slice none 0 0)]),(222,.buf 2 ((bL s e).1.usr.map usC)),(223,.buf 2 ((bL s e).1.tmb.map tmC)),(4,.box [.s (.int .i64 0),.s (.int .i64 0),.s (.slice none 0 0),.s (.slice none 0 0),.s (.slice none 0 0),.s (.slice none 0 0)])]⟩ ?_ (fun hD4=>?_)
   ·
    refine aH 6 [8] (by kernel_rfl) ⟨?_,?_,trivial⟩
    ·
     refine⟨_,rfl,rfl,(ao rfl (aE aA 1 rfl (aF (ag hD1 rfl rfl rfl))))⟩
    ·
     refine⟨_,rfl,rfl,(ao rfl (bD hf rfl rfl bS rfl rfl (l1 rfl) (l4 rfl) rfl (aF (ag hD2 rfl rfl rfl))))⟩
   refine aK 3 #[true,true,true,true,true,false,true,true,false,false] ⟨35,[(3,.adr (evC e)),(4,.ref 4 0 0 0),(6,.ref 6 0 0 0),(20,.tup [.agg (eA (bL s e).1 222 223),.s (.int .i64 (bL s e).2)]),(26,.s (.int .i64 (bL s e).2))],[(6,.box [.s (.int .i64 0),.s (.int .i64 0),.s (.slice none 0 0),.s (.slice none 0 0),.s (.slice none 0 0),.s (.slice none 0 0)]),(222,.buf 2 ((bL s e).1.usr.map usC)),(223,.buf 2 ((bL s e).1.tmb.map tmC)),(4,.box [.s (.int .i64 0),.s (.int .i64 0),.s (.slice none 0 0),.s (.slice none 0 0),.s (.slice none 0 0),.s (.slice none 0 0)])]⟩ ?_ (fun hD5=>?_)
   ·
    refine aH 5 [] (by kernel_rfl) ⟨?_,trivial⟩
    ·
     refine⟨_,rfl,rfl,(ao rfl (aE aA 1 rfl (aF (ag hD1 rfl rfl rfl))))⟩
   refine aK 4 #[true,true,true,true,true,true,false,false,false,false] ⟨35,[(3,.adr (evC e)),(4,.ref 4 0 0 0),(20,.tup [.agg (eA (bL s e).1 222 223),.s (.int .i64 (bL s e).2)]),(25,.agg (eA (bL s e).1 222 223))],[(222,.buf 2 ((bL s e).1.usr.map usC)),(223,.buf 2 ((bL s e).1.tmb.map tmC)),(4,.box [.s (.int .i64 0),.s (.int .i64 0),.s (.slice none 0 0),.s (.slice none 0 0),.s (.slice none 0 0),.s (.slice none 0 0)])]⟩ ?_ (fun hD6=>?_)
   ·
    refine aH 6 [7] (by kernel_rfl) ⟨?_,?_,trivial⟩
    ·
     refine⟨_,rfl,rfl,(ao rfl (aE aA 1 rfl (aF (ag hD3 rfl rfl rfl))))⟩
    ·
     refine⟨_,rfl,rfl,(ao rfl (aZ hf rfl rfl rfl aX (aF (ag hD4 rfl rfl rfl))))⟩
   refine aK 4 #[true,true,true,true,true,false,true,false,false,false] ⟨35,[(3,.adr (evC e)),(4,.ref 4 0 0 0),(20,.tup [.agg (eA (bL s e).1 222 223),.s (.int .i64 (bL s e).2)]),(26,.s (.int .i64 (bL s e).2))],[(222,.buf 2 ((bL s e).1.usr.map usC)),(223,.buf 2 ((bL s e).1.tmb.map tmC)),(4,.box [.s (.int .i64 0),.s (.int .i64 0),.s (.slice none 0 0),.s (.slice none 0 0),.s (.slice none 0 0),.s (.slice none 0 0)])]⟩ ?_ (fun hD7=>?_)
   ·
    refine aH 5 [7] (by kernel_rfl) ⟨?_,?_,trivial⟩
    ·
     refine⟨_,rfl,rfl,(ao rfl (aE aA 1 rfl (aF (ag hD3 rfl rfl rfl))))⟩
    ·
     refine⟨_,rfl,rfl,(ao rfl (aZ hf rfl rfl rfl aX (aF (ag hD5 rfl rfl rfl))))⟩
   refine aK 4 #[true,true,true,true,true,false,false,true,false,false] ⟨35,[(3,.adr (evC e)),(4,.ref 4 0 0 0),(6,.ref 6 0 0 0),(20,.tup [.agg (eA (bL s e).1 222 223),.s (.int .i64 (bL s e).2)])],[(6,.box [.s (.int .i64 0),.s (.int .i64 0),.s (.slice none 0 0),.s (.slice none 0 0),.s (.slice none 0 0),.s (.slice none 0 0)]),(222,.buf 2 ((bL s e).1.usr.map usC)),(223,.buf 2 ((bL s e).1.tmb.map tmC)),(4,.box [.s (.int .i64 0),.s (.int .i64 0),.s (.slice none 0 0),.s (.slice none 0 0),.s (.slice none 0 0),.s (.slice none 0 0)])]⟩ ?_ (fun hD8=>?_)
   ·
    refine aH 5 [6] (by kernel_rfl) ⟨?_,?_,trivial⟩
    ·
     refine⟨_,rfl,rfl,(ao rfl (aE aA 1 rfl (aF (ag hD4 rfl rfl rfl))))⟩
    ·
     refine⟨_,rfl,rfl,(ao rfl (aE aA 1 rfl (aF (ag hD5 rfl rfl rfl))))⟩
   refine aK 5 #[true,true,true,true,true,false,false,false,false,false] ⟨35,[(3,.adr (evC e)),(4,.ref 4 0 0 0),(20,.tup [.agg (eA (bL s e).1 222 223),.s (.int .i64 (bL s e).2)])],[(222,.buf 2 ((bL s e).1.usr.map usC)),(223,.buf 2 ((bL s e).1.tmb.map tmC)),(4,.box [.s (.int .i64 0),.s (.int .i64 0),.s (.slice none 0 0),.s (.slice none 0 0),.s (.slice none 0 0),.s (.slice none 0 0)])]⟩ ?_ (fun hD9=>?_)
   ·
    refine aH 5 [6,7] (by kernel_rfl) ⟨?_,?_,?_,trivial⟩
    ·
     refine⟨_,rfl,rfl,(ao rfl (aE aA 1 rfl (aF (ag hD6 rfl rfl rfl))))⟩
    ·
     refine⟨_,rfl,rfl,(ao rfl (aE aA 1 rfl (aF (ag hD7 rfl rfl rfl))))⟩
    ·
     refine⟨_,rfl,rfl,(ao rfl (aZ hf rfl rfl rfl aX (aF (ag hD8 rfl rfl rfl))))⟩
   refine aK 5 #[true,true,true,true,false,false,false,true,false,false] ⟨35,[(3,.adr (evC e)),(4,.ref 4 0 0 0),(6,.ref 6 0 0 0),(24,.tup [.agg (eA (bL s e).1 222 223),.s (.int .i64 (bL s e).2)])],[(6,.box [.s (.int .i64 0),.s (.int .i64 0),.s (.slice none 0 0),.s (.slice none 0 0),.s (.slice none 0 0),.s (.slice none 0 0)]),(222,.buf 2 ((bL s e).1.usr.map usC)),(223,.buf 2 ((bL s e).1.tmb.map tmC)),(4,.box [.s (.int .i64 0),.s (.int .i64 0),.s (.slice none 0 0),.s (.slice none 0 0),.s (.slice none 0 0),.s (.slice none 0 0)])]⟩ ?_ (fun hD10=>?_)
   ·
    refine aH 4 [] (by kernel_rfl) ⟨?_,trivial⟩
    ·
     refine⟨_,rfl,rfl,(ao rfl (aE aA 1 rfl (aF (ag hD8 rfl rfl rfl))))⟩
   refine aK 6 #[true,true,true,true,false,false,false,false,false,false] ⟨35,[(3,.adr (evC e)),(4,.ref 4 0 0 0),(24,.tup [.agg (eA (bL s e).1 222 223),.s (.int .i64 (bL s e).2)])],[(222,.buf 2 ((bL s e).1.usr.map usC)),(223,.buf 2 ((bL s e).1.tmb.map tmC)),(4,.box [.s (.int .i64 0),.s (.int .i64 0),.s (.slice none 0 0),.s (.slice none 0 0),.s (.slice none 0 0),.s (.slice none 0 0)])]⟩ ?_ (fun hD11=>?_)
   ·
    refine aH 4 [7] (by kernel_rfl) ⟨?_,?_,trivial⟩
    ·
     refine⟨_,rfl,rfl,(ao rfl (aE aA 1 rfl (aF (ag hD9 rfl rfl rfl))))⟩
    ·
     refine⟨_,rfl,rfl,(ao rfl (aZ hf rfl rfl rfl aX (aF (ag hD10 rfl rfl rfl))))⟩
   refine aK 6 #[true,true,true,false,false,false,false,true,false,false] ⟨35,[(3,.adr (evC e)),(4,.ref 4 0 0 0),(6,.ref 6 0 0 0),(22,.agg (eA s 222 223)),(23,.agg (evC e))],[(6,.box [.s (.int .i64 0),.s (.int .i64 0),.s (.slice none 0 0),.s (.slice none 0 0),.s (.slice none 0 0),.s (.slice none 0 0)]),(222,.buf 2 (s.usr.map usC)),(223,.buf 2 (s.tmb.map tmC)),(4,.box [.s (.int .i64 0),.s (.int .i64 0),.s (.slice none 0 0),.s (.slice none 0 0),.s (.slice none 0 0),.s (.slice none 0 0)])]⟩ ?_ (fun hD12=>?_)
   ·
    refine aH 3 [] (by kernel_rfl) ⟨?_,trivial⟩
    ·
     refine⟨_,rfl,rfl,(ao rfl (gO hf [(E0,222),(E1,223)] [(E0,222),(E1,223)] rfl rfl rfl rfl rfl rfl (by decide) (by decide) (by decide) rfl aFb (aK6 s e hz hr hr2 (by simp_all)) ?_))⟩
     rintro r m1 ⟨rfl,rfl⟩
     rw[aJ0]
     refine cB (iK [3,4,6,24] rfl) (aF (ag hD10 rfl rfl rfl))
   refine aK 7 #[true,true,true,false,false,false,false,false,false,false] ⟨35,[(3,.adr (evC e)),(4,.ref 4 0 0 0),(22,.agg (eA s 222 223)),(23,.agg (evC e))],[(222,.buf 2 (s.usr.map usC)),(223,.buf 2 (s.tmb.map tmC)),(4,.box [.s (.int .i64 0),.s (.int .i64 0),.s (.slice none 0 0),.s (.slice none 0 0),.s (.slice none 0 0),.s (.slice none 0 0)])]⟩ ?_ (fun hD13=>?_)
   ·
    refine aH 3 [7] (by kernel_rfl) ⟨?_,?_,trivial⟩
    ·
     refine⟨_,rfl,rfl,(ao rfl (gO hf [(E0,222),(E1,223)] [(E0,222),(E1,223)] rfl rfl rfl rfl rfl rfl (by decide) (by decide) (by decide) rfl aFb (aK6 s e hz hr hr2 (by simp_all)) ?_))⟩
     rintro r m1 ⟨rfl,rfl⟩
     rw[aJ0]
     refine cB (iK [3,4,24] rfl) (aF (ag hD11 rfl rfl rfl))
    ·
     refine⟨_,rfl,rfl,(ao rfl (aZ hf rfl rfl rfl aX (aF (ag hD12 rfl rfl rfl))))⟩
   refine aK 7 #[true,true,false,false,false,false,false,true,false,false] ⟨35,[(3,.adr (evC e)),(4,.ref 4 0 0 0),(6,.ref 6 0 0 0),(22,.agg (eA s 222 223))],[(6,.box [.s (.int .i64 0),.s (.int .i64 0),.s (.slice none 0 0),.s (.slice none 0 0),.s (.slice none 0 0),.s (.slice none 0 0)]),(222,.buf 2 (s.usr.map usC)),(223,.buf 2 (s.tmb.map tmC)),(4,.box [.s (.int .i64 0),.s (.int .i64 0),.s (.slice none 0 0),.s (.slice none 0 0),.s (.slice none 0 0),.s (.slice none 0 0)])]⟩ ?_ (fun hD14=>?_)
   ·
    refine aH 2 [] (by kernel_rfl) ⟨?_,trivial⟩
    ·
     refine⟨_,rfl,rfl,(ao rfl (aE aA 1 rfl (aF (ag hD12 rfl rfl rfl))))⟩
   refine aK 7 #[true,false,true,false,false,false,false,true,false,false] ⟨35,[(3,.adr (evC e)),(4,.ref 4 0 0 0),(6,.ref 6 0 0 0),(21,.agg (aL s)),(23,.agg (evC e))],[(6,.box [.s (.int .i64 0),.s (.int .i64 0),.s (.slice none 0 0),.s (.slice none 0 0),.s (.slice none 0 0),.s (.slice none 0 0)]),(4,.box [.s (.int .i64 0),.s (.int .i64 0),.s (.slice none 0 0),.s (.slice none 0 0),.s (.slice none 0 0),.s (.slice none 0 0)])]⟩ ?_ (fun hD15=>?_)
   ·
    refine aH 1 [] (by kernel_rfl) ⟨?_,trivial⟩
    ·
     refine⟨_,rfl,rfl,(ao rfl (gO hf [] [(E0,222),(E1,223)] rfl rfl rfl rfl rfl rfl (by decide) (by decide) (by decide) rfl lM (kF s (hz.mono (by omega))) ?_))⟩
     rintro r m1 ⟨rfl,rfl⟩
     rw[oC]
     refine cB (iK [3,4,6,22,23] rfl) (aF (ag hD12 rfl rfl rfl))
   refine aK 8 #[true,true,false,false,false,false,false,false,false,false] ⟨35,[(3,.adr (evC e)),(4,.ref 4 0 0 0),(22,.agg (eA s 222 223))],[(222,.buf 2 (s.usr.map usC)),(223,.buf 2 (s.tmb.map tmC)),(4,.box [.s (.int .i64 0),.s (.int .i64 0),.s (.slice none 0 0),.s (.slice none 0 0),.s (.slice none 0 0),.s (.slice none 0 0)])]⟩ ?_ (fun hD16=>?_)
   ·
    refine aH 2 [7] (by kernel_rfl) ⟨?_,?_,trivial⟩
    ·
     refine⟨_,rfl,rfl,(ao rfl (aE aA 1 rfl (aF (ag hD13 rfl rfl rfl))))⟩
    ·
     refine⟨_,rfl,rfl,(ao rfl (aZ hf rfl rfl rfl aX (aF (ag hD14 rfl rfl rfl))))⟩
   refine aK 8 #[true,false,true,false,false,false,false,false,false,false] ⟨35,[(3,.adr (evC e)),(4,.ref 4 0 0 0),(21,.agg (aL s)),(23,.agg (evC e))],[(4,.box [.s (.int .i64 0),.s (.int .i64 0),.s (.slice none 0 0),.s (.slice none 0 0),.s (.slice none 0 0),.s (.slice none 0 0)])]⟩ ?_ (fun hD17=>?_)
   ·
    refine aH 1 [7] (by kernel_rfl) ⟨?_,?_,trivial⟩
    ·
     refine⟨_,rfl,rfl,(ao rfl (gO hf [] [(E0,222),(E1,223)] rfl rfl rfl rfl rfl rfl (by decide) (by decide) (by decide) rfl lM (kF s (hz.mono (by omega))) ?_))⟩
     rintro r m1 ⟨rfl,rfl⟩
     rw[oC]
     refine cB (iK [3,4,22,23] rfl) (aF (ag hD13 rfl rfl rfl))
    ·
     refine⟨_,rfl,rfl,(ao rfl (aZ hf rfl rfl rfl aX (aF (ag hD15 rfl rfl rfl))))⟩
   refine aK 8 #[true,false,false,false,false,false,false,true,false,false] ⟨35,[(3,.adr (evC e)),(4,.ref 4 0 0 0),(6,.ref 6 0 0 0),(21,.agg (aL s))],[(6,.box [.s (.int .i64 0),.s (.int .i64 0),.s (.slice none 0 0),.s (.slice none 0 0),.s (.slice none 0 0),.s (.slice none 0 0)]),(4,.box [.s (.int .i64 0),.s (.int .i64 0),.s (.slice none 0 0),.s (.slice none 0 0),.s (.slice none 0 0),.s (.slice none 0 0)])]⟩ ?_ (fun hD18=>?_)
   ·
    refine aH 1 [2] (by kernel_rfl) ⟨?_,?_,trivial⟩
    ·
     refine⟨_,rfl,rfl,(ao rfl (gO hf [] [(E0,222),(E1,223)] rfl rfl rfl rfl rfl rfl (by decide) (by decide) (by decide) rfl lM (kF s (hz.mono (by omega))) ?_))⟩
     rintro r m1 ⟨rfl,rfl⟩
     rw[oC]
     refine cB (iK [3,4,6,22] rfl) (aF (ag hD14 rfl rfl rfl))
    ·
     refine⟨_,rfl,rfl,(ao rfl (aE aA 1 rfl (aF (ag hD15 rfl rfl rfl))))⟩
   refine aK 8 #[false,false,true,false,false,false,false,true,false,false] ⟨35,[(2,.adr (aL s)),(3,.adr (evC e)),(4,.ref 4 0 0 0),(6,.ref 6 0 0 0),(23,.agg (evC e))],[(6,.box [.s (.int .i64 0),.s (.int .i64 0),.s (.slice none 0 0),.s (.slice none 0 0),.s (.slice none 0 0),.s (.slice none 0 0)]),(4,.box [.s (.int .i64 0),.s (.int .i64 0),.s (.slice none 0 0),.s (.slice none 0 0),.s (.slice none 0 0),.s (.slice none 0 0)])]⟩ ?_ (fun hD19=>?_)
   ·
    refine aH 0 [] (by kernel_rfl) ⟨?_,trivial⟩
    ·
     refine⟨_,rfl,rfl,(ao rfl (aE aA 1 rfl (aF (ag hD15 rfl rfl rfl))))⟩
   refine aK 9 #[true,false,false,false,false,false,false,false,false,false] ⟨35,[(3,.adr (evC e)),(4,.ref 4 0 0 0),(21,.agg (aL s))],[(4,.box [.s (.int .i64 0),.s (.int .i64 0),.s (.slice none 0 0),.s (.slice none 0 0),.s (.slice none 0 0),.s (.slice none 0 0)])]⟩ ?_ (fun hD20=>?_)
   ·
    refine aH 1 [2,7] (by kernel_rfl) ⟨?_,?_,?_,trivial⟩
    ·
     refine⟨_,rfl,rfl,(ao rfl (gO hf [] [(E0,222),(E1,223)] rfl rfl rfl rfl rfl rfl (by decide) (by decide) (by decide) rfl lM (kF s (hz.mono (by omega))) ?_))⟩
     rintro r m1 ⟨rfl,rfl⟩
     rw[oC]
     refine cB (iK [3,4,22] rfl) (aF (ag hD16 rfl rfl rfl))
    ·
     refine⟨_,rfl,rfl,(ao rfl (aE aA 1 rfl (aF (ag hD17 rfl rfl rfl))))⟩
    ·
     refine⟨_,rfl,rfl,(ao rfl (aZ hf rfl rfl rfl aX (aF (ag hD18 rfl rfl rfl))))⟩
   refine aK 9 #[false,false,true,false,false,false,false,false,false,false] ⟨35,[(2,.adr (aL s)),(3,.adr (evC e)),(4,.ref 4 0 0 0),(23,.agg (evC e))],[(4,.box [.s (.int .i64 0),.s (.int .i64 0),.s (.slice none 0 0),.s (.slice none 0 0),.s (.slice none 0 0),.s (.slice none 0 0)])]⟩ ?_ (fun hD21=>?_)
   ·
    refine aH 0 [7] (by kernel_rfl) ⟨?_,?_,trivial⟩
    ·
     refine⟨_,rfl,rfl,(ao rfl (aE aA 1 rfl (aF (ag hD17 rfl rfl rfl))))⟩
    ·
     refine⟨_,rfl,rfl,(ao rfl (aZ hf rfl rfl rfl aX (aF (ag hD19 rfl rfl rfl))))⟩
   refine aK 9 #[false,false,false,false,false,false,false,true,false,false] ⟨35,[(2,.adr (aL s)),(3,.adr (evC e)),(4,.ref 4 0 0 0),(6,.ref 6 0 0 0)],[(6,.box [.s (.int .i64 0),.s (.int .i64 0),.s (.slice none 0 0),.s (.slice none 0 0),.s (.slice none 0 0),.s (.slice none 0 0)]),(4,.box [.s (.int .i64 0),.s (.int .i64 0),.s (.slice none 0 0),.s (.slice none 0 0),.s (.slice none 0 0),.s (.slice none 0 0)])]⟩ ?_ (fun hD22=>?_)
   ·
    refine aH 0 [2] (by kernel_rfl) ⟨?_,?_,trivial⟩
    ·
     refine⟨_,rfl,rfl,(ao rfl (aE aA 1 rfl (aF (ag hD18 rfl rfl rfl))))⟩
    ·
     refine⟨_,rfl,rfl,(ao rfl (aE aA 1 rfl (aF (ag hD19 rfl rfl rfl))))⟩
   refine gZ (mQ (sl':=[(2,.adr (aL s)),(3,.adr (evC e)),(4,.ref 4 0 0 0)]) (m':=[(4,.box [.s (.int .i64 0),.s (.int .i64 0),.s (.slice none 0 0),.s (.slice none 0 0),.s (.slice none 0 0),.s (.slice none 0 0)])]) rfl rfl rfl) (aH 0 [2,7] (by kernel_rfl) ⟨?_,?_,?_,trivial⟩)
   ·
    refine⟨_,rfl,rfl,(ao rfl (aE aA 1 rfl (aF (ag hD20 rfl rfl rfl))))⟩
   ·
    refine⟨_,rfl,rfl,(ao rfl (aE aA 1 rfl (aF (ag hD21 rfl rfl rfl))))⟩
   ·
    refine⟨_,rfl,rfl,(ao rfl (aZ hf rfl rfl rfl aX (aF (ag hD22 rfl rfl rfl))))⟩
end Go.Proofs.YtijnkglkchhomaaGreat
set_option linter.unusedVariables false
set_option linter.unusedSimpArgs false
namespace Go.Abs
open Go
section
variable {α:Type} {key:α→ByteArray}
variable {u:ByteArray} {y:α} {l:List α} {k:Nat}
end
structure TsS (s:Sta):Prop where
  o:∀ e∈s.opn,TS e.1.2
  u:∀ x∈s.usr,TS x.1
  b:∀ e∈s.sub,TS e.1.1∧TS e.1.2
  t:∀ x∈s.tmb,TS x.1
theorem aSy {s:Sta} (h:RightP s):TsS s:=⟨fun e he=>jW (aGp h he).1,fun x hx=>jW (h.unm x hx),fun e he=>by
  have:=((pO _).1 h.sub).1 e he
  simp only[okE,Bool.and_eq_true,decide_eq_true_eq] at this
  exact⟨jW this.2.1,jW this.2.2⟩,fun x hx=>jW (h.tnm x hx)⟩
theorem fI {s:Sta} (h:RightP s→False):false=fM s:=by
  cases e:fM s with
  | false=>rfl
  | true=>exact(h (iP.1 e)).elim
theorem aQ0 {s:Sta} (h:RightP s):true=fM s:=(iP.2 h).symm
theorem aP2 {α:Type} {key:α→ByteArray} {l:List α} (h:dG key l) {k:Nat} (h0:0<k) (hk:k<l.length):eG (key (l[k - 1]'(by omega))) (key l[k])<0 :=
  List.pairwise_iff_getElem.1 h (k - 1) k (by omega) hk (by omega)
theorem aP1 {α:Type} {key:α→ByteArray}:∀ {l:List α},(∀ (k:Nat) (h0:0<k) (hk:k<l.length),eG (key (l[k - 1]'(by omega))) (key l[k])<0)→dG key l
  | [],_=>List.Pairwise.nil
  | [x],_=>List.pairwise_singleton _ _
  | x::y::l,h=>by
    have ih:dG key (y::l):=aP1 fun k h0 hk=>by
      have:=h (k+1) (by omega) (by simp only[List.length_cons] at hk ⊢; omega)
      obtain ⟨j,rfl⟩:∃ j,k=j+1:=⟨k - 1,by omega⟩
      simpa using this
    have h1:eG (key x) (key y)<0:=by have:=h 1 (by omega) (by simp); simpa using this
    refine List.pairwise_cons.2 ⟨fun z hz=>?_,ih⟩
    rcases List.mem_cons.1 hz with rfl | hz
    · exact h1
    · exact gR h1 ((List.pairwise_cons.1 ih).1 z hz)
theorem aLl {α:Type} {p:α→Prop} {l:List α} {k:Nat} (hk:l.length≤k) (h:∀ (j:Nat) (hj:j<l.length),j<k→p l[j]):∀ x∈l,p x:=fun x hx=>by
  obtain ⟨j,hj,rfl⟩:=List.getElem_of_mem hx
  exact h j hj (by omega)
theorem nE {n:Nat} {p:(j:Nat)→j<n→Prop} {k:Nat} (h:∀ (j:Nat) (hj:j<n),j<k→p j hj) (hk:k<n) (hp:p k hk):∀ (j:Nat) (hj:j<n),j<k+1→p j hj:=fun j hj hjk=>by
  by_cases e:j=k
  · subst e; exact hp
  · exact h j hj (by omega)
end Go.Abs
set_option linter.unusedVariables false
set_option linter.unusedSimpArgs false
namespace Go.Proofs.YtijnkglkchhomaaGreat
open Go Go.Abs
end Go.Proofs.YtijnkglkchhomaaGreat
set_option linter.unusedVariables false
set_option linter.unusedSimpArgs false
namespace Go.Proofs.YtijnkglkchhomaaGreat
open Go Go.Abs
end Go.Proofs.YtijnkglkchhomaaGreat
set_option linter.unusedVariables false
set_option linter.unusedSimpArgs false
namespace Go.Proofs.YtijnkglkchhomaaGreat
open Go Go.Abs
end Go.Proofs.YtijnkglkchhomaaGreat
set_option linter.unusedVariables false
set_option linter.unusedSimpArgs false
namespace Go.Proofs.YtijnkglkchhomaaGreat
open Go Go.Abs
end Go.Proofs.YtijnkglkchhomaaGreat
set_option linter.unusedVariables false
set_option linter.unusedSimpArgs false
namespace Go.Abs
open Go
theorem aQ1 {s:Sta} (h:s.opn=[]):kZ s=s:=by
  cases s; simp only at h; subst h; rfl
theorem aJz (s:Sta):kZ (kZ s)=kZ s:=aQ1 rfl
theorem aQ3 {h:Int} {l:List Us} {x:Us}:x∈lK h l↔∃ y∈l,mW h y.2≠[]∧x=(y.1,mW h y.2):=by
  unfold lK
  rw[List.mem_flatMap]
  constructor
  · rintro ⟨y,hy,hx⟩
    unfold nA at hx
    split at hx
    · cases hx
    · rename_i hne; exact⟨y,hy,hne,List.mem_singleton.1 hx⟩
  · rintro ⟨y,hy,hne,rfl⟩
    exact⟨y,hy,by rw[nA,if_neg hne]; simp⟩
theorem aTf {l:List Us} (h:dG cM l) (u:ByteArray):(u,ofU l u)∈l∨(ofU l u=[]∧∀ x∈l,x.1≠u):=by
  by_cases hh:iG cM l u=true
  · obtain ⟨hk,e⟩:=xF h hh
    exact .inl (e ▸ List.getElem_mem hk)
  · have hf:=Bool.eq_false_iff.2 hh
    refine .inr ⟨oG hf,fun x hx=>?_⟩
    rw[iG,List.any_eq_false] at hf
    simpa [isK] using hf x hx
def NeU (l:List Us):Prop:=∀ x∈l,x.2≠[]
theorem aCe {a b:List Us} (ha:dG cM a) (hb:dG cM b) (na:NeU a) (nb:NeU b) (h:∀ u,ofU a u=ofU b u):a=b:=by
  refine lJ ha hb fun x=>⟨fun hx=>?_,fun hx=>?_⟩
  · have e:=aCm ha hx
    rcases aTf hb x.1 with h1 | ⟨h1,_⟩
    · rw[← h,e] at h1; exact h1
    · rw[← h,e] at h1; exact absurd h1 (na x hx)
  · have e:=aCm hb hx
    rcases aTf ha x.1 with h1 | ⟨h1,_⟩
    · rw[h,e] at h1; exact h1
    · rw[h,e] at h1; exact absurd h1 (nb x hx)
theorem aSu {l:List Us} {u:ByteArray} {ys:List bO} (h:NeU l):NeU (kP l u ys):=fun x hx=>by
  rcases jT.1 hx with hx | hx
  · exact h x hx.1
  · unfold nA at hx
    split at hx
    · cases hx
    · rename_i hne; rw[List.mem_singleton.1 hx]; exact hne
theorem add_ne {l:List Us} {u:ByteArray} {x:bO} (h:NeU l):NeU (kH l u x):=by
  unfold kH; split
  · exact h
  · exact aSu h
theorem aCq {l:List Us} (h:dG cM l) {u v:ByteArray} {x:bO}:ofU (kH l u x) v=if v=u then jE (ofU l u) x else ofU l v:=by
  unfold kH jE
  split
  · split
    · rename_i hv; rw[hv]
    · rfl
  · rw[kO h]
theorem aUb {l:List bO} {x:bO} (h:Srt iU l):Srt iU (jE l x):=by
  unfold jE; split
  · exact h
  · exact qA h
structure GoU (l:List Us):Prop where
  r:dG cM l
  s:∀ u,Srt iU (ofU l u)
  n:NeU l
theorem GoU.add {l:List Us} {u:ByteArray} {x:bO} (h:GoU l):GoU (kH l u x):=⟨aE4 h.r,fun v=>by
  rw[aCq h.r]; split
  · exact aUb (h.s u)
  · exact h.s v,add_ne h.n⟩
theorem GoU.set0 {l:List Us} {u:ByteArray} (h:GoU l):GoU (kP l u []):=⟨rU h.r,fun v=>by
  rw[kO h.r]; split
  · exact List.Pairwise.nil
  · exact h.s v,aSu h.n⟩
theorem zV {s:Sta} (h:RightP s):GoU s.usr:=⟨h.usr,fun u=>zQ ((uJ _).1 (aGy h u).1).2,fun x hx=>(oF.1 (h.uok x hx)).1⟩
def notH (h:Int) (e:En):Bool:=!decide (e.2.2≤h)
theorem aGv (s:Sta):pR s=⟨s.now,s.hor,s.opn,lK s.hor s.usr,s.sub.filter (notH s.hor),s.tmb⟩:=rfl
theorem qH (a b:List Us):fA (a++b)=fA a+fA b:=by simp [fA]
theorem aEq (u:ByteArray) (ys:List bO):fA (nA u ys)=ys.length:=by
  unfold nA; split
  · rename_i h; rw[h]; rfl
  · simp [fA]
theorem aEp {l:List Us} {u:ByteArray} {ys:List bO} (h:dG cM l):fA (kP l u ys)+(ofU l u).length=fA l+ys.length:=by
  obtain ⟨e,h1⟩:=pC (u:=u) h
  have e2:=congrArg fA e
  rw[qH,qH] at e2
  rw[kP,zR,qH,qH,aEq]
  have e3:fA (l.filter (isK cM u))=(ofU l u).length:=by
    by_cases hh:iG cM l u=true
    · obtain ⟨hk,e4⟩:=xF h hh
      obtain ⟨_,_,e5⟩:=aIc h hh
      rw[e5,e4]; simp [fA]
    · have hf:=Bool.eq_false_iff.2 hh
      rw[aEi hf,oG hf]; rfl
  omega
theorem xM {l:List Us} {u:ByteArray} {x:bO} (h:dG cM l):fA (kH l u x)≤fA l+1:=by
  unfold kH; split
  · omega
  · have:=aEp (u:=u) (ys:=jE (ofU l u) x) h
    have:=zF (ofU l u) x
    omega
theorem zA (h:Int):∀ l:List Us,fA (lK h l)≤fA l
  | []=>Nat.le_refl _
  | x::l=>by
    show fA (nA x.1 (mW h x.2)++lK h l)≤_
    rw[qH,aEq]
    have ih:=zA h l
    have:=List.length_filter_le (fun x:bO=>!decide (x.1.2≤h)) x.2
    have e:fA (x::l)=x.2.length+fA l:=by simp [fA]
    unfold mW
    omega
theorem aLb (s:Sta):dJ (pR s)≤dJ s:=by
  have:=zA s.hor s.usr
  have:=List.length_filter_le (notH s.hor) s.sub
  rw[aGv]
  simp only[dJ]
  omega
theorem yZ (s:Sta):∀ (o:List Se) {l:List Us},dG cM l→fA (xB s o l)≤fA l+o.length
  | [],l,_=>Nat.le_refl _
  | e::o,l,h=>by
    show fA (xB s o (kH l e.1.2 (eW e s.now)))≤_
    have:=yZ s o (aE4 (u:=e.1.2) (x:=eW e s.now) h)
    have:=xM (u:=e.1.2) (x:=eW e s.now) h
    simp only[List.length_cons]
    omega
theorem aLa {s:Sta} (h:RightP s):dJ (kZ s)≤dJ s:=by
  have:=yZ s s.opn h.usr
  simp only[dJ,kZ,List.length_nil]
  omega
theorem aLh {s:Sta} {e:Ev} (h0:(cG s e).2=0):cH e=true∧s.now≤e.at'∧(bL s e).2=0∧(cG s e).1={ (bL s e).1 with now:=e.at' }:=by
  unfold cG at h0 ⊢
  split at h0
  · rename_i he
    split at h0
    · simp at h0
    · rename_i ht
      split at h0
      · rename_i h2
        rw[if_pos he,if_neg ht,if_pos h2]
        exact⟨he,Int.not_lt.1 ht,h2,rfl⟩
      · rename_i h2; exact absurd h0 h2
  · simp at h0
theorem aOp {s:Sta} {e:Ev} (h:RightP s) (he:cH e=true) (h0:(bL s e).2=0):dJ (bL s e).1≤dJ s+1:=by
  rcases sE he with ⟨hk,_⟩ | ⟨hk,_⟩ | ⟨hk,_⟩ | ⟨hk,_⟩ | ⟨hk,_⟩ | ⟨hk,_⟩ | ⟨hk,_⟩
  · rw[bL,if_pos hk]
    have:=aD6 s.opn ((e.n,e.user),(e.st,e.at'))
    simp only[dJ]; omega
  · rw[bL,if_neg (by omega),if_pos hk]
    have:=aEv s.opn e.n e.user e.st e.at'
    have:=xM (u:=e.user) (x:=stR s.opn e.n e.user e.at') h.usr
    simp only[dJ]; omega
  · rw[bL,if_neg (by omega),if_neg (by omega),if_pos hk]
    have:=aEu s.opn e.n e.user
    have:=xM (u:=e.user) (x:=stR s.opn e.n e.user e.at') h.usr
    simp only[dJ]; omega
  · rw[bL,if_neg (by omega),if_neg (by omega),if_neg (by omega),if_pos hk]
    have:=aEd s.sub (e.user,e.other) e.at'
    simp only[dJ]; omega
  · rw[bL,if_neg (by omega),if_neg (by omega),if_neg (by omega),if_neg (by omega),if_pos hk]
    have:=aEc s.sub (e.user,e.other) e.at'
    simp only[dJ]; omega
  · rw[bL,if_neg (by omega),if_neg (by omega),if_neg (by omega),if_neg (by omega),if_neg (by omega),if_pos hk]
    simp only[dJ]; omega
  · rw[bL,if_neg (by omega),if_neg (by omega),if_neg (by omega),if_neg (by omega),if_neg (by omega),if_neg (by omega)]
    have:=List.length_filter_le (fun x=>!oI e.user x) s.opn
    have:=List.length_filter_le (fun x=>!lV e.user x) s.sub
    have:=aEp (u:=e.user) (ys:=[]) h.usr
    have:=@aJc s.tmb e.user e.at'
    simp only[dJ,fO,List.length_nil] at *; omega
theorem aA7 {s:Sta} {e:Ev} (h:RightP s) (h0:(cG s e).2=0):dJ (cG s e).1≤dJ s+1:=by
  obtain ⟨he,_,h2,e1⟩:=aLh h0
  rw[e1]
  exact aOp h he h2
theorem aEg {α:Type} (q:α→Bool) (e:α):∀ l:List α,∃ pre post,l=pre++post∧tW q e l=pre++e::post
  | []=>⟨[],[],rfl,rfl⟩
  | x::l=>by
    rw[tW]; split
    · exact⟨[],x::l,rfl,rfl⟩
    · obtain ⟨pre,post,e1,e2⟩:=aEg q e l
      exact⟨x::pre,post,by rw[e1]; rfl,by rw[e2]; rfl⟩
theorem aOh {e:En}:∀ {l:List En},(∀ y∈l,0<lD y e)→qR l e=e::l
  | [],_=>rfl
  | x::l,h=>by rw[qR,if_pos (h x (by simp))]
end Go.Abs
set_option linter.unusedVariables false
set_option linter.unusedSimpArgs false
namespace Go.Abs
open Go
theorem aTe {s:Sta} {x:bO} {k:Nat} (hk:k<s.opn.length) (h1:s.opn[k].1.1=x.2.1) (h2:s.opn[k].2.2<x.1.2):eD s x=false :=
  Bool.eq_false_iff.2 fun h=>by have:=(mP.1 h).1 _ (List.getElem_mem hk) h1; omega
theorem rZ {s:Sta} {x:bO} (h:¬ (0≤x.1.1∧x.1.2≤s.now∧1≤x.2.1∧x.2.1≤999∧1≤x.2.2∧x.2.2≤4)):eD s x=false :=
  Bool.eq_false_iff.2 fun h'=>h (mP.1 h').2
theorem aQ9 {s:Sta} {x:bO} {i:Nat} (hi:s.opn.length≤i) (h:∀ (j:Nat) (hj:j<s.opn.length),j<i→¬ (s.opn[j].1.1=x.2.1∧s.opn[j].2.2<x.1.2)) (h2:0≤x.1.1∧x.1.2≤s.now∧1≤x.2.1∧x.2.1≤999∧1≤x.2.2∧x.2.2≤4):eD s x=true :=
  mP.2 ⟨fun e he hn=>by
    obtain ⟨j,hj,rfl⟩:=List.getElem_of_mem he
    have:=h j hj (by omega)
    exact Int.not_lt.1 fun hl=>this ⟨hn,hl⟩,h2⟩
theorem pU {s:Sta} {x:Us} {k:Nat} (hk:k<x.2.length) (h:eD s x.2[k]=false):false=lA s x:=by
  cases e:lA s x with
  | false=>rfl
  | true=>have:=(oF.1 e).2.2 _ (List.getElem_mem hk); rw[h] at this; cases this
theorem aKd {s:Sta} {x:Us} {k:Nat} {b:Bool} (hk:x.2.length≤k) (h:∀ (j:Nat) (hj:j<x.2.length),j<k→eD s x.2[j]=true) (hb:b=(decide (0<x.2.length)&&tV x.2)):b=lA s x:=by
  have ha:x.2.all (eD s)=true:=List.all_eq_true.2 fun y hy=>by
    obtain ⟨j,hj,rfl⟩:=List.getElem_of_mem hy
    exact h j hj (by omega)
  rw[hb,lA,ha,Bool.and_true]
  congr 1
  cases x.2 <;> simp
def RisUp {α:Type} (key:α→ByteArray) (q:α→Prop) (l:List α) (k:Nat):Prop:=∀ (j:Nat) (hj:j<l.length),j<k→(cK (key l[j])=true∧q l[j]∧∀ h0:0<j,eG (key (l[j - 1]'(by omega))) (key l[j])<0)
theorem RisUp.zero {α:Type} {key:α→ByteArray} {q:α→Prop} {l:List α}:RisUp key q l 0:=fun j hj h=>absurd h (Nat.not_lt_zero _)
theorem RisUp.next {α:Type} {key:α→ByteArray} {q:α→Prop} {l:List α} {k:Nat} (h:RisUp key q l k) (hk:k<l.length) (h1:cK (key l[k])=true) (h2:q l[k]) (h3:∀ h0:0<k,eG (key (l[k - 1]'(by omega))) (key l[k])<0):RisUp key q l (k+1):=nE h hk ⟨h1,h2,h3⟩
theorem RisUp.r {α:Type} {key:α→ByteArray} {q:α→Prop} {l:List α} {k:Nat} (h:RisUp key q l k) (hk:l.length≤k):dG key l:=aP1 fun j h0 hj=>(h j hj (by omega)).2.2 h0
theorem RisUp.n {α:Type} {key:α→ByteArray} {q:α→Prop} {l:List α} {k:Nat} (h:RisUp key q l k) (hk:l.length≤k):∀ x∈l,cK (key x)=true:=fun x hx=>by
  obtain ⟨j,hj,rfl⟩:=List.getElem_of_mem hx
  exact(h j hj (by omega)).1
theorem RisUp.q {α:Type} {key:α→ByteArray} {q:α→Prop} {l:List α} {k:Nat} (h:RisUp key q l k) (hk:l.length≤k):∀ x∈l,q x:=fun x hx=>by
  obtain ⟨j,hj,rfl⟩:=List.getElem_of_mem hx
  exact(h j hj (by omega)).2.1
end Go.Abs
set_option linter.unusedVariables false
namespace Go.Abs
open Go
theorem ty_ent {cs:List AV} (h:Ty (.agg [.str,.str,.int .i64,.int .i64]) cs):∃ e:En,cs=enC e∧(TS e.1.1∧TS e.1.2):=by
  simp only[Ty,TyL] at h
  obtain ⟨a,b,rfl,⟨w,rfl,hw⟩,a',b',rfl,⟨u,rfl,hu⟩,a2,b2,rfl,⟨n,rfl,_⟩,a3,b3,rfl,⟨m,rfl,_⟩,rfl⟩:=h
  exact⟨((w,u),(n,m)),rfl,Nat.le_trans hw (by decide),Nat.le_trans hu (by decide)⟩
theorem ty_ents {c:AV} (h:Ty (.sl 48 (.agg [.str,.str,.int .i64,.int .i64])) [c]):∃ l:List En,c=.sl 4 (l.map enC)∧l.length*48≤140737488351232∧∀ e∈l,TS e.1.1∧TS e.1.2:=by
  simp only[Ty] at h
  obtain ⟨xs,hx,_,hl,hxs⟩:=h
  obtain ⟨l,rfl,hr⟩:=sO enC (fun e=>TS e.1.1∧TS e.1.2) (d:=.agg [.str,.str,.int .i64,.int .i64]) (fun cs h=>ty_ent h) (xs:=xs) (fun x hx=>by simp only[Ty]; exact hxs x hx)
  simp only[List.cons.injEq,and_true] at hx
  exact⟨l,hx,by simpa using hl,hr⟩
end Go.Abs
set_option linter.unusedVariables false
set_option linter.unusedSimpArgs false
namespace Go.Abs
open Go
theorem uD (n:Nat):SzS n aJ:=⟨by simp [aJ],by simp [aJ],by simp [aJ],by simp [aJ],by simp [aJ]⟩
theorem nowSz {n:Nat} {s:Sta} {t:Int} (h:SzS n s):SzS n { s with now:=t }:=⟨h.o,h.u,h.b,h.t,h.y⟩
theorem doesSz {n m:Nat} {s:Sta} {e:Ev} (hz:SzS n s) (hr:dG cM s.usr) (he:cH e=true) (hm:n+48≤m):SzS m (bL s e).1:=by
  have z1:=hz.o
  have z2:=hz.u
  have z3:=hz.b
  have z4:=hz.t
  rcases sE he with ⟨hk,_⟩ | ⟨hk,_⟩ | ⟨hk,_⟩ | ⟨hk,_⟩ | ⟨hk,_⟩ | ⟨hk,_⟩ | ⟨hk,_⟩
  · rw[bL,if_pos hk]
    have:=aD6 s.opn ((e.n,e.user),(e.st,e.at'))
    exact⟨by show (oS s.opn ((e.n,e.user),(e.st,e.at'))).length*40≤m; omega,Nat.le_trans z2 (by omega),Nat.le_trans z3 (by omega),Nat.le_trans z4 (by omega),fun x hx=>Nat.le_trans (hz.y x hx) (by omega)⟩
  · rw[bL,if_neg (by omega),if_pos hk]
    have:=aEv s.opn e.n e.user e.st e.at'
    exact aUa (n:=n) (s:={ s with opn:=oW s.opn e.n e.user e.st e.at' }) (u:=e.user) (x:=stR s.opn e.n e.user e.at') ⟨by show (oW s.opn e.n e.user e.st e.at').length*40≤n; omega,z2,z3,z4,hz.y⟩ hr (by omega)
  · rw[bL,if_neg (by omega),if_neg (by omega),if_pos hk]
    have:=aEu s.opn e.n e.user
    exact aUa (n:=n) (s:={ s with opn:=oJ s.opn e.n e.user }) (u:=e.user) (x:=stR s.opn e.n e.user e.at') ⟨by show (oJ s.opn e.n e.user).length*40≤n; omega,z2,z3,z4,hz.y⟩ hr (by omega)
  · rw[bL,if_neg (by omega),if_neg (by omega),if_neg (by omega),if_pos hk]
    have:=aEd s.sub (e.user,e.other) e.at'
    exact⟨Nat.le_trans z1 (by omega),Nat.le_trans z2 (by omega),by show (if onB s.sub (e.user,e.other)=true then [] else iQ s.sub (e.user,e.other) e.at').length*48≤m; omega,Nat.le_trans z4 (by omega),fun x hx=>Nat.le_trans (hz.y x hx) (by omega)⟩
  · rw[bL,if_neg (by omega),if_neg (by omega),if_neg (by omega),if_neg (by omega),if_pos hk]
    have:=aEc s.sub (e.user,e.other) e.at'
    exact⟨Nat.le_trans z1 (by omega),Nat.le_trans z2 (by omega),by show (if onB s.sub (e.user,e.other)=true then jA s.sub (e.user,e.other) e.at' else []).length*48≤m; omega,Nat.le_trans z4 (by omega),fun x hx=>Nat.le_trans (hz.y x hx) (by omega)⟩
  · rw[bL,if_neg (by omega),if_neg (by omega),if_neg (by omega),if_neg (by omega),if_neg (by omega),if_pos hk]
    exact⟨Nat.le_trans z1 (by omega),Nat.le_trans z2 (by omega),Nat.le_trans z3 (by omega),Nat.le_trans z4 (by omega),fun x hx=>Nat.le_trans (hz.y x hx) (by omega)⟩
  · rw[bL,if_neg (by omega),if_neg (by omega),if_neg (by omega),if_neg (by omega),if_neg (by omega),if_neg (by omega)]
    exact erSz hz hr (by omega)
theorem aIu {n m:Nat} {s:Sta} {e:Ev} (hz:SzS n s) (hr:dG cM s.usr) (hm:n+48≤m):SzS m (cG s e).1:=by
  unfold cG
  split
  · rename_i he
    split
    · exact uD m
    · split
      · exact nowSz (doesSz hz hr he hm)
      · exact uD m
  · exact uD m
theorem resetSz {n m:Nat} {s:Sta} (hz:SzS n s) (hr:dG cM s.usr) (hm:n+40*s.opn.length≤m):SzS m (kZ s):=by
  have h:=(aHv hz hr s.opn.length (Nat.le_refl _)).mono hm
  have e:oB s s.opn.length={ s with usr:=xB s s.opn s.usr }:=by unfold oB; rw[List.take_length]
  rw[e] at h
  exact⟨by simp [kZ],h.u,h.b,h.t,h.y⟩
theorem pruneSz {n:Nat} {s:Sta} (hz:SzS n s):SzS n (pR s):=by
  have z2:=hz.u
  have z3:=hz.b
  have h1:=xE s.hor s.usr
  have h2:=List.length_filter_le (notH s.hor) s.sub
  rw[aGv]
  refine⟨hz.o,by show (lK s.hor s.usr).length*40≤n; omega,by show (s.sub.filter (notH s.hor)).length*48≤n; omega,hz.t,fun x hx=>?_⟩
  obtain ⟨y,hy,_,rfl⟩:=aQ3.1 hx
  have:=hz.y y hy
  have h3:=List.length_filter_le (fun x:bO=>!decide (x.1.2≤s.hor)) y.2
  show (mW s.hor y.2).length*32≤n
  unfold mW
  omega
theorem tH {s:Sta} (h:RightP s) (e:Ev):RightP (cG s e).1:=by
  by_cases h0:(cG s e).2=0
  · exact rH h h0
  · have:(cG s e).1=aJ:=by
      unfold cG at h0 ⊢
      split
      · rename_i he
        rw[if_pos he] at h0
        split
        · rfl
        · rename_i ht
          rw[if_neg ht] at h0
          split
          · rename_i h2; rw[if_pos h2] at h0; exact absurd rfl h0
          · rfl
      · rfl
    rw[this]; exact eQ
theorem aP3 {s:Sta} (h:RightP s):s.opn.length≤16:=((iO _).1 h.opn).2
theorem ty_us {cs:List AV} (h:Ty (.agg [.str,.sl 32 (.agg [.int .i64,.int .i64,.int .i64,.int .i64])]) cs):∃ x:Us,cs=usC x∧TS x.1∧x.2.length*32≤140737488351232:=by
  simp only[Ty] at h
  rw[TyL] at h
  obtain ⟨x,y,rfl,h1,h2⟩:=h
  rw[TyL] at h2
  obtain ⟨z,w,rfl,h3,h4⟩:=h2
  have e1:=zM h1
  have e2:=zM h3
  simp only[TyL] at h4
  subst h4
  match x,e1,z,e2 with
  | [c],_,[d],_ =>
    obtain ⟨a,rfl,ha⟩:=aSn h1
    obtain ⟨l,rfl,hl⟩:=ty_sts h3
    exact⟨(a,l),rfl,Nat.le_trans ha (by omega),hl⟩
theorem ty_tm {cs:List AV} (h:Ty (.agg [.str,.int .i64]) cs):∃ x:Tm,cs=tmC x∧TS x.1:=by
  simp only[Ty,TyL] at h
  obtain ⟨a,b,rfl,⟨n,rfl,hn⟩,a',b',rfl,⟨m,rfl,_⟩,rfl⟩:=h
  exact⟨(n,m),rfl,Nat.le_trans hn (by omega)⟩
theorem ty_uss {c:AV} (h:Ty (.sl 40 (.agg [.str,.sl 32 (.agg [.int .i64,.int .i64,.int .i64,.int .i64])])) [c]):∃ l:List Us,c=.sl 2 (l.map usC)∧l.length*40≤140737488351232∧∀ x∈l,TS x.1∧x.2.length*32≤140737488351232:=by
  rw[Ty] at h
  obtain ⟨xs,hx,_,hl,hxs⟩:=h
  obtain ⟨l,rfl,hr⟩:=sO usC (fun x=>TS x.1∧x.2.length*32≤140737488351232) (d:=.agg [.str,.sl 32 (.agg [.int .i64,.int .i64,.int .i64,.int .i64])]) (fun cs h=>ty_us h) (xs:=xs) (fun x hx=>hxs x hx)
  simp only[List.cons.injEq,and_true] at hx
  exact⟨l,hx,by simpa using hl,hr⟩
theorem ty_tms {c:AV} (h:Ty (.sl 24 (.agg [.str,.int .i64])) [c]):∃ l:List Tm,c=.sl 2 (l.map tmC)∧l.length*24≤140737488351232∧∀ x∈l,TS x.1:=by
  rw[Ty] at h
  obtain ⟨xs,hx,_,hl,hxs⟩:=h
  obtain ⟨l,rfl,hr⟩:=sO tmC (fun x=>TS x.1) (d:=.agg [.str,.int .i64]) (fun cs h=>ty_tm h) (xs:=xs) (fun x hx=>hxs x hx)
  simp only[List.cons.injEq,and_true] at hx
  exact⟨l,hx,by simpa using hl,hr⟩
theorem vQ {d:TD} {r:List TD} {cs:List AV} (hd:d.n=1) (h:TyL (d::r) cs):∃ c b,cs=c::b∧Ty d [c]∧TyL r b:=by
  rw[TyL] at h
  obtain ⟨a,b,rfl,h1,h2⟩:=h
  have e:=zM h1
  rw[hd] at e
  match a,e with
  | [c],_=>exact⟨c,b,rfl,h1,h2⟩
theorem aSo {cs:List AV} (h:Ty (.agg [.int .i64,.int .i64,.sl 40 (.agg [.int .i64,.str,.int .i64,.int .i64]),.sl 40 (.agg [.str,.sl 32 (.agg [.int .i64,.int .i64,.int .i64,.int .i64])]),.sl 48 (.agg [.str,.str,.int .i64,.int .i64]),.sl 24 (.agg [.str,.int .i64])]) cs):∃ s:Sta,cs=aL s∧SzS 140737488351232 s∧TsS s:=by
  rw[Ty] at h
  obtain ⟨c1,b1,rfl,h1,r1⟩:=vQ rfl h
  obtain ⟨c2,b2,rfl,h2,r2⟩:=vQ rfl r1
  obtain ⟨c3,b3,rfl,h3,r3⟩:=vQ rfl r2
  obtain ⟨c4,b4,rfl,h4,r4⟩:=vQ rfl r3
  obtain ⟨c5,b5,rfl,h5,r5⟩:=vQ rfl r4
  obtain ⟨c6,b6,rfl,h6,r6⟩:=vQ rfl r5
  rw[TyL] at r6
  subst r6
  obtain ⟨n,rfl,_⟩:=aNv h1
  obtain ⟨m,rfl,_⟩:=aNv h2
  obtain ⟨o,rfl,o1,o2⟩:=ty_ses h3
  obtain ⟨u,rfl,u1,u2⟩:=ty_uss h4
  obtain ⟨b,rfl,b1,b2⟩:=ty_ents h5
  obtain ⟨t,rfl,t1,t2⟩:=ty_tms h6
  exact⟨⟨n,m,o,u,b,t⟩,rfl,⟨o1,u1,b1,t1,fun x hx=>(u2 x hx).2⟩,⟨o2,fun x hx=>(u2 x hx).1,b2,t2⟩⟩
theorem ty_ev {cs:List AV} (h:Ty (.agg [.int .i64,.int .i64,.str,.str,.int .i64,.int .i64]) cs):∃ e:Ev,cs=evC e∧TS e.user∧TS e.other:=by
  simp only[Ty,TyL] at h
  obtain ⟨_,_,rfl,⟨k,rfl,_⟩,_,_,rfl,⟨t,rfl,_⟩,_,_,rfl,⟨u,rfl,hu⟩,_,_,rfl,⟨o,rfl,ho⟩,_,_,rfl,⟨n,rfl,_⟩,_,_,rfl,⟨x,rfl,_⟩,rfl⟩:=h
  exact⟨⟨k,t,u,o,n,x⟩,rfl,Nat.le_trans hu (by omega),Nat.le_trans ho (by omega)⟩
theorem aNw {c:AV} (h:Ty (.sl 64 (.agg [.int .i64,.int .i64,.str,.str,.int .i64,.int .i64])) [c]):∃ l:List Ev,c=.sl 6 (l.map evC)∧l.length*64≤140737488351232∧∀ e∈l,TS e.user∧TS e.other:=by
  rw[Ty] at h
  obtain ⟨xs,hx,_,hl,hxs⟩:=h
  obtain ⟨l,rfl,hr⟩:=sO evC (fun e=>TS e.user∧TS e.other) (d:=.agg [.int .i64,.int .i64,.str,.str,.int .i64,.int .i64]) (fun cs h=>ty_ev h) (xs:=xs) (fun x hx=>hxs x hx)
  simp only[List.cons.injEq,and_true] at hx
  exact⟨l,hx,by simpa using hl,hr⟩
def manyI (s:Sta):Int:=IntKind.i64.wrap (IntKind.i64.wrap ((dJ s:Nat):Int)+(s.usr.length:Nat))
end Go.Abs
set_option linter.unusedVariables false
namespace Go.Abs
open Go
abbrev sI:ByteArray:=⟨#[97,110,110]⟩
def alE1:Ev:=⟨1,3,sI,bs0,1,1⟩
def alE2:Ev:=⟨2,7,sI,bs0,1,2⟩
def alE3:Ev:=⟨7,6,sI,bs0,0,0⟩
def alE4:Ev:=⟨7,8,bs0,bs0,0,0⟩
def alE5:Ev:=⟨7,9,sI,bs0,0,0⟩
def alS:Sta:=⟨3,0,[((1,sI),(1,3))],[],[],[]⟩
def alT:Sta:=⟨7,0,[((1,sI),(2,7))],[(sI,[((3,7),(1,1))])],[],[]⟩
def alU:Sta:=⟨9,0,[],[],[],[(sI,9)]⟩
def alX:Sta:=⟨7,0,[],[(sI,[((3,7),(1,1))])],[],[]⟩
theorem al_1:cG aJ alE1=(alS,0):=by decide +kernel
theorem al_2:cG alS alE2=(alT,0):=by decide +kernel
theorem al_3:cG alT alE3=(aJ,111):=by decide +kernel
theorem al_4:cG alT alE4=(aJ,110):=by decide +kernel
theorem al_5:cG alT alE5=(alU,0):=by decide +kernel
theorem al_6:kZ alT=alX:=by decide +kernel
theorem al_7:aC6 alT sI 9=[((3,7),(1,1)),((7,9),(1,2))]:=by decide +kernel
theorem al_8:aAe alU sI=true:=by decide +kernel
theorem al_9:IntKind.i64.wrap ((dJ alU:Nat):Int)=1:=by decide +kernel
theorem al_10:decide (alX=alU)=false:=by decide +kernel
theorem al_11:pR alX=alX:=by decide +kernel
theorem aHb:RightP alS:=iP.1 (by decide +kernel)
theorem mA:RightP alT:=iP.1 (by decide +kernel)
theorem aAn:RightP alU:=iP.1 (by decide +kernel)
theorem aR6:RightP alX:=iP.1 (by decide +kernel)
end Go.Abs
set_option linter.unusedVariables false
set_option linter.unusedSimpArgs false
namespace Go.Abs
open Go
def gM (s:Sta) (e:Ev):Sta:=if (cG s e).2=0 then (cG s e).1 else s
def aG (s:Sta) (l:List Ev):Sta:=l.foldl gM s
def aV:Sta→List Ev→List Int
  | _,[]=>[]
  | s,e::l=>(cG s e).2::aV (gM s e) l
def aS:Sta→List Ev→List Ev
  | _,[]=>[]
  | s,e::l=>if (cG s e).2=0 then e::aS (gM s e) l else aS (gM s e) l
def rF (u:ByteArray) (e:Ev):Bool:=decide (e.user=u)||decide (e.other=u)
def aW (u:ByteArray) (l:List Ev):List Ev:=l.filter fun e=>!rF u e
theorem sS {s:Sta} {e:Ev} (h:(cG s e).2=0):gM s e=(cG s e).1:=if_pos h
theorem aPx {s:Sta} {e:Ev} (h:(cG s e).2≠0):gM s e=s:=if_neg h
theorem aAr {s:Sta} (h:RightP s) (e:Ev):RightP (gM s e):=by
  unfold gM; split
  · exact tH h e
  · exact h
theorem stepSz {n m:Nat} {s:Sta} {e:Ev} (hz:SzS n s) (h:RightP s) (hm:n+48≤m):SzS m (gM s e):=by
  unfold gM; split
  · exact aIu hz h.usr hm
  · exact hz.mono (by omega)
theorem aG8 (s:Sta) (a b:List Ev):aG s (a++b)=aG (aG s a) b:=List.foldl_append
theorem qE:∀ (l:List Ev) {s:Sta},RightP s→RightP (aG s l)
  | [],_,h=>h
  | e::l,_,h=>qE l (aAr h e)
theorem uW:∀ (l:List Ev) {n:Nat} {s:Sta},SzS n s→RightP s→SzS (n+48*l.length) (aG s l)
  | [],n,s,hz,_=>hz.mono (by simp)
  | e::l,n,s,hz,h=>(uW l (stepSz (m:=n+48) hz h (Nat.le_refl _)) (aAr h e)).mono (by simp only[List.length_cons]; omega)
theorem xZ:∀ (a:List Ev) (s:Sta) (b:List Ev),aV s (a++b)=aV s a++aV (aG s a) b
  | [],_,_=>rfl
  | e::a,s,b=>by
    show _::aV (gM s e) (a++b)=_::(aV (gM s e) a++_)
    rw[xZ a (gM s e) b]; rfl
theorem aGi:∀ (a:List Ev) (s:Sta) (b:List Ev),aS s (a++b)=aS s a++aS (aG s a) b
  | [],_,_=>rfl
  | e::a,s,b=>by
    show (if (cG s e).2=0 then e::aS (gM s e) (a++b) else aS (gM s e) (a++b))=(if (cG s e).2=0 then e::aS (gM s e) a else aS (gM s e) a)++_
    rw[aGi a (gM s e) b]
    split <;> rfl
theorem gL:∀ (l:List Ev) (s:Sta),(aV s l).length=l.length
  | [],_=>rfl
  | e::l,s=>by simp only[aV,List.length_cons,gL l]
theorem vT:∀ (l:List Ev) (s:Sta),(aS s l).length≤l.length
  | [],_=>Nat.le_refl _
  | e::l,s=>by
    have:=vT l (gM s e)
    unfold aS; split <;> simp only[List.length_cons] <;> omega
theorem vR {s:Sta} {l:List Ev} {k:Nat} (hk:k<l.length):aV s (l.take (k+1))=aV s (l.take k)++[(cG (aG s (l.take k)) l[k]).2]:=by
  rw[List.take_succ_eq_append_getElem hk,xZ]; rfl
theorem aG7 {s:Sta} {l:List Ev} {k:Nat} (hk:k<l.length):aG s (l.take (k+1))=gM (aG s (l.take k)) l[k]:=by
  rw[List.take_succ_eq_append_getElem hk,aG8]; rfl
theorem aPu {s:Sta} {l:List Ev} {k:Nat} (hk:k<l.length) (hk2:k<(aV s l).length):(aV s l)[k]=(cG (aG s (l.take k)) l[k]).2:=by
  have e:aV s l=aV s (l.take k)++aV (aG s (l.take k)) (l.drop k):=by rw[← xZ,List.take_append_drop]
  have h1:(aV s (l.take k)).length=k:=by rw[gL,List.length_take]; omega
  have h2:aV (aG s (l.take k)) (l.drop k)=(cG (aG s (l.take k)) l[k]).2::aV (gM (aG s (l.take k)) l[k]) (l.drop (k+1)):=by rw[List.drop_eq_getElem_cons hk]; rfl
  have h3:(aV s l)[k]?=some (cG (aG s (l.take k)) l[k]).2:=by
    rw[e,List.getElem?_append_right (by omega),h1,Nat.sub_self,h2]; rfl
  rw[List.getElem?_eq_getElem hk2] at h3
  exact Option.some.inj h3
theorem sQ {s:Sta} {l:List Ev} {k:Nat} (hk:k<l.length):aS s (l.take (k+1))=aS s (l.take k)++(if (cG (aG s (l.take k)) l[k]).2=0 then [l[k]] else []):=by
  rw[List.take_succ_eq_append_getElem hk,aGi]; rfl
theorem qD:∀ (l:List Ev) (s:Sta),aG s (aS s l)=aG s l∧(∀ x∈aV s (aS s l),x=0)∧aS s (aS s l)=aS s l
  | [],_=>⟨rfl,by simp [aS,aV],rfl⟩
  | e::l,s=>by
    obtain ⟨h1,h2,h3⟩:=qD l (gM s e)
    by_cases h0:(cG s e).2=0
    · have et:aS s (e::l)=e::aS (gM s e) l:=if_pos h0
      rw[et]
      refine⟨h1,fun x hx=>?_,?_⟩
      · rcases List.mem_cons.1 hx with rfl | hx
        · exact h0
        · exact h2 x hx
      · show (if (cG s e).2=0 then _ else _)=_
        rw[if_pos h0,h3]
    · have et:aS s (e::l)=aS (gM s e) l:=if_neg h0
      rw[et]
      have es:=aPx h0
      rw[es] at h1 h2 h3 ⊢
      exact⟨h1.trans (by show _=aG (gM s e) l; rw[es]),h2,h3⟩
def tS:List Ev→Ev→Ev
  | [],m=>m
  | x::l,m=>tS l (if m.at'<x.at' then x else m)
def ev0:Ev:=⟨0,0,bs0,bs0,0,0⟩
theorem aTr {x:Ev} {r:List Ev} {k:Nat} (hk:k<r.length):0≤((k+1:Nat):Int)∧((x::r).map evC)[((k+1:Nat):Int).toNat]?=some (evC r[k]):=⟨by omega,by rw[Int.toNat_natCast,List.getElem?_map,List.getElem?_cons_succ,List.getElem?_eq_getElem hk]; rfl⟩
def lateA:List Ev→Int
  | []=>0
  | x::r=>(tS r x).at'
abbrev bBob:ByteArray:=⟨#[98,111,98]⟩
def aGf:Ev:=⟨1,3,sI,bs0,1,1⟩
def aGe:Ev:=⟨1,4,bBob,bs0,1,1⟩
def aE2:Ev:=⟨3,5,sI,bs0,1,0⟩
def afS:Sta:=⟨5,0,[],[(sI,[((3,5),(1,1))])],[],[]⟩
theorem af_1:aG aJ [aGf,aGe,aE2]=afS:=by decide +kernel
theorem af_2:aV aJ [aGf,aGe,aE2]=[0,100,0]:=by decide +kernel
theorem af_3:aS aJ [aGf,aGe,aE2]=[aGf,aE2]:=by decide +kernel
theorem af_4:aW sI [aGf,aGe,aE2]=[aGe]:=by decide +kernel
theorem af_5:aC6 afS sI 9=[((3,5),(1,1))]:=by decide +kernel
theorem aR8:RightP afS:=iP.1 (by decide +kernel)
end Go.Abs
set_option linter.unusedVariables false
set_option linter.unusedSimpArgs false
namespace Go.Abs
open Go
def aIl (sp:List Sp) (f a:Int):Prop:=∀ τ:Int,aKw sp τ=(decide (f≤τ)&&decide (τ<a))
theorem aRu (f:Int):aIl [] f f:=by
  intro τ
  rw[aKu,Bool.eq_iff_iff]
  simp only[Bool.and_eq_true,decide_eq_true_eq,Bool.false_eq_true,false_iff]
  omega
theorem aOo {sp:List Sp} {f a t:Int} (h:aIl sp f a) (h1:f≤a) (h2:a≤t):aIl (sp++[(a,t)]) f t:=by
  intro τ
  rw[aKv,h τ,aRe,aKu,Bool.eq_iff_iff]
  simp only[Bool.and_eq_true,decide_eq_true_eq,Bool.or_eq_true,Bool.false_eq_true,or_false]
  omega
structure WholeI (e:Se) (k:Nat) (a:Int) (stays:List bO) (sp:List Sp) (n:Nat):Prop where
  le:k≤n
  ge:e.2.2≤a
  l1:stays.length=k
  l2:sp.length=k
  ends:∀ y∈stays,y.1.2≤a
  cov:aIl sp e.2.2 a
theorem WholeI.start (e:Se) (n:Nat):WholeI e 0 e.2.2 [] [] n:=⟨Nat.zero_le _,Int.le_refl _,rfl,rfl,by simp,aRu _⟩
theorem WholeI.next {e:Se} {k n:Nat} {a t s0:Int} {stays:List bO} {sp:List Sp} (h:WholeI e k a stays sp n) (hk:k<n) (ht:a≤t):WholeI e (k+1) t (stays++[((a,t),(e.1.1,s0))]) (sp++[(a,t)]) n:=by
  refine⟨hk,Int.le_trans h.ge ht,by rw[List.length_append,h.l1]; rfl,by rw[List.length_append,h.l2]; rfl,fun y hy=>?_,aOo h.cov h.ge ht⟩
  rcases List.mem_append.1 hy with hy | hy
  · exact Int.le_trans (h.ends y hy) ht
  · rw[List.mem_singleton.1 hy]; exact Int.le_refl _
variable {P:Program}
theorem aCo {t:TypeId} {k:IntKind} {a b:Int} (h:a=b):oQ P .neq t (.int k a) (.int k b)=some (.bool false):=by
  subst h; simp [oQ,wJ]
end Go.Abs
set_option linter.unusedVariables false
set_option linter.unusedSimpArgs false
namespace Go.Proofs.YtijnkglkchhomaaGreat
open Go Go.Abs
theorem yQ (a:List Int) (n:Int):bH (a++[n])=bH a++[[AV.s (.int .i64 n)]]:=by simp [bH]
theorem aAh (j:Nat) (s:Sta) (l:List Ev) (hz:SzS (140737488351232+48*j) s) (h:RightP s) (hl:j+l.length≤60) (ht:∀ e∈l,TS e.user∧TS e.other) :Den Tryz.prog 15 [.agg (aL s),.sl 6 (l.map evC)]  (·=.tup [.agg (aL (aG s l)),.sl 1 (bH (aV s l))]):=by
 refine aY Tryz.func15 rfl (Nat.le_of_ble_eq_true rfl) (fun w0 A hf=>(aC (fun K1 hK1=>(aB (rQ hf rfl rfl rfl rfl (l1 rfl) ?_)))))
 refine aZ hf rfl rfl rfl aX (aI rfl (bX) (aD (hK1 _ (aC (fun K2 hK2=>(aB (qS hf 1 rfl rfl rfl (aD (hK2 _ (aC (fun K3 hK3=>(aB (aE aA 1 rfl (gO hf [] [(E0,222),(E1,223)] rfl rfl rfl rfl rfl rfl (by decide) (by decide) (by decide) rfl lM (kF s (hz.mono (by omega))) ?_))))))))))))))
 rintro r m1 ⟨rfl,rfl⟩
 rw[oC]
 refine cB (iK [1,2,4,6,12] rfl) (bD hf rfl rfl bS rfl rfl (l1 rfl) (l4 rfl) rfl (aD (hK3 _ (aC (fun K4 hK4=>(aC (fun K5 hK5=>(aB (cB (jC (nee 222) (sl':=[(1,_),(2,_),(4,_),(6,_)]) (m':=[(223,.buf 2 (s.tmb.map tmC)),(6,.buf 1 []),(4,AM.box [.s (.int .i64 0),.s (.int .i64 0),.s (.slice none 0 0),.s (.slice none 0 0),.s (.slice none 0 0),.s (.slice none 0 0)]),(2,.box [.s (.int .i64 s.now),.s (.int .i64 s.hor),.sl 4 (s.opn.map seC),.sl 2 (s.usr.map usC),.sl 4 (s.sub.map enC),.own 223 2 0 (s.tmb.map tmC).length])]) ⟨⟨_,rfl,rfl⟩,⟨_,rfl,rfl⟩,⟨_,rfl,rfl⟩,⟨_,rfl,rfl⟩,trivial⟩ (Eq.trans (show _=[(223,AM.buf 2 (s.tmb.map tmC)),(6,.buf 1 []),(4,AM.box [.s (.int .i64 0),.s (.int .i64 0),.s (.slice none 0 0),.s (.slice none 0 0),.s (.slice none 0 0),.s (.slice none 0 0)]),(2,.box [.s (.int .i64 s.now),.s (.int .i64 s.hor),.sl 4 (s.opn.map seC),AV.only (nee 222) [(222,.buf 2 (s.usr.map usC)),(223,.buf 2 (s.tmb.map tmC)),(6,.buf 1 []),(4,.box [.s (.int .i64 0),.s (.int .i64 0),.s (.slice none 0 0),.s (.slice none 0 0),.s (.slice none 0 0),.s (.slice none 0 0)]),(2,.box [.s (.int .i64 s.now),.s (.int .i64 s.hor),.sl 4 (s.opn.map seC),.own 222 2 0 (s.usr.map usC).length,.sl 4 (s.sub.map enC),.own 223 2 0 (s.tmb.map tmC).length])] (.own 222 2 0 (s.usr.map usC).length),.sl 4 (s.sub.map enC),.own 223 2 0 (s.tmb.map tmC).length])] from rfl) (by rw[pT (ok:=nee 222) (g:=222) rfl rfl rfl]))) ?_)))))))))
 refine cB (jC (nee 223) (sl':=[(1,_),(2,_),(4,_),(6,_)]) (m':=[(6,.buf 1 []),(4,AM.box [.s (.int .i64 0),.s (.int .i64 0),.s (.slice none 0 0),.s (.slice none 0 0),.s (.slice none 0 0),.s (.slice none 0 0)]),(2,.box [.s (.int .i64 s.now),.s (.int .i64 s.hor),.sl 4 (s.opn.map seC),.sl 2 (s.usr.map usC),.sl 4 (s.sub.map enC),.sl 2 (s.tmb.map tmC)])]) ⟨⟨_,rfl,rfl⟩,⟨_,rfl,rfl⟩,⟨_,rfl,rfl⟩,⟨_,rfl,rfl⟩,trivial⟩ (Eq.trans (show _=[(6,.buf 1 []),(4,AM.box [.s (.int .i64 0),.s (.int .i64 0),.s (.slice none 0 0),.s (.slice none 0 0),.s (.slice none 0 0),.s (.slice none 0 0)]),(2,.box [.s (.int .i64 s.now),.s (.int .i64 s.hor),.sl 4 (s.opn.map seC),.sl 2 (s.usr.map usC),.sl 4 (s.sub.map enC),AV.only (nee 223) [(223,.buf 2 (s.tmb.map tmC)),(6,.buf 1 []),(4,AM.box [.s (.int .i64 0),.s (.int .i64 0),.s (.slice none 0 0),.s (.slice none 0 0),.s (.slice none 0 0),.s (.slice none 0 0)]),(2,.box [.s (.int .i64 s.now),.s (.int .i64 s.hor),.sl 4 (s.opn.map seC),.sl 2 (s.usr.map usC),.sl 4 (s.sub.map enC),.own 223 2 0 (s.tmb.map tmC).length])] (.own 223 2 0 (s.tmb.map tmC).length)])] from rfl) (by rw[pT (ok:=nee 223) (g:=223) rfl rfl rfl]))) ?_
 refine aE aA 3 rfl (aD (hK5 _ (aU (bW (ι:=Nat×Sta) (fun(⟨k,st⟩:Nat×Sta)=>⟨35,[(2,.ref 2 0 0 0),(4,.ref 4 0 0 0),(6,.own 6 1 0 (bH (aV s (l.take k))).length),(13,.sl 6 (l.map evC)),(14,.s (.int .i64 ((l.map evC).length:Nat))),(15,.s (.int .i64 (k:Nat)))],[(6,.buf 1 (bH (aV s (l.take k)))),(4,.box [.s (.int .i64 0),.s (.int .i64 0),.s (.slice none 0 0),.s (.slice none 0 0),.s (.slice none 0 0),.s (.slice none 0 0)]),(2,.box (aL st))]⟩) (fun(⟨k,st⟩:Nat×Sta)=>k≤l.length∧st=aG s (l.take k)∧RightP st∧SzS (140737488351232+48*j+48*k) st) (fun(⟨k,st⟩:Nat×Sta)=>l.length - k) (0,s) ?_ ?_ ?_))))
 · exact⟨Nat.zero_le _,rfl,h,hz⟩
 · exact cN ⟨rfl,rfl,rfl,rfl,rfl,rfl,trivial⟩ rfl
 ·
  rintro ⟨k,st⟩ hC
  obtain ⟨h1,h2,h3,h4⟩:=hC
  refine aC (fun K6 hK6=>(aB (aE aA 1 rfl (aD (hK6 _ (aC (fun K7 hK7=>(aO rfl (fun hc1=>?_) (fun hc1=>?_)))))))))
  ·
   simp only[bs,dW] at hc1
   refine aR (hK7 _ (aC (fun K8 hK8=>(aU (aC (fun K9 hK9=>(aB ?_)))))))
   have hk:k<l.length:=by omega
   have hzS:SzS 140737488355100 st:=h4.mono (by omega)
   obtain ⟨hu,ho⟩:=ht _ (List.getElem_mem hk)
   have htl:(bH (aV s (l.take k))).length=k:=by rw[dW,gL,List.length_take]; omega
   refine aI rfl (bJ rfl rfl gY cY (by first | assumption | (refine⟨by omega,?_⟩; first | assumption | exact gG (by omega) | exact gG (by simp only[List.length_cons] at *; omega) | exact nT (by omega) | exact pX (by omega) | exact nS (by omega)) | exact⟨by decide,rfl⟩)) ?_
   refine aE aA 1 rfl (cC hf rfl gD rfl cY rfl rfl rfl rfl (lf rfl) (aD (hK9 _ (aC (fun K10 hK10=>(aB (aE aA 2 rfl (aN hf rfl (aP rfl rfl lN rfl (kG st l[k] hzS h3.usr h3.tmb hu ho)) (aE aA 3 rfl (cC hf rfl aX rfl bS rfl rfl rfl rfl (lf rfl) (aE aA 1 rfl (aD (hK10 _ ?_)))))))))))))
   refine aC (fun K11 hK11=>(aC (fun K12 hK12=>(aB (aE aA 2 rfl (aD (hK12 _ (aO rfl (fun hc2=>?_) (fun hc2=>?_)))))))))
   ·
    simp only[bs,dW] at hc2
    refine aB (aE aA 1 rfl (bD hf rfl rfl bS rfl rfl (l1 rfl) (l4 rfl) rfl (aD (hK11 _ (aB (aE aA 2 rfl (aN hf rfl (bR sN rfl rfl rfl rfl (l2 rfl)) (dQ hf rfl sN rfl rfl rfl (.inl rfl) rfl rfl (by first | rfl | simp [iS,bU]) (by first | (simp only[maxLen,List.length_map,List.length_append,List.length_cons,List.length_nil]; omega) | (simp [maxLen] <;> omega)) (by first | (simp only[List.length_map,List.length_append,List.length_cons,List.length_nil]; omega) | (simp <;> omega)) ?_))))))))
    refine cB (iK [2,4,13,14,15,31] rfl) (aE aA 1 rfl ?_)
    refine bV ?_
    refine hK8 _ (aB ?_)
    refine aI rfl (bQ rfl rfl (by omega) (by omega)) ?_
    refine aE aA 1 rfl (aD ?_)
    exact⟨(k+1,(cG st l[k]).1),⟨by omega,by rw[aG7 hk,← h2,sS (by assumption)],tH h3 _,aIu h4 h3.usr (by omega)⟩,by simp only; omega,cN ⟨rfl,rfl,(by rw[vR hk,← h2,yQ,List.length_append]; rfl),rfl,rfl,rfl,trivial⟩ (by rw[vR hk,← h2,yQ]; rfl)⟩
   ·
    simp only[bs,dW] at hc2
    refine aR (hK11 _ (aB (aE aA 2 rfl (aN hf rfl (bR sN rfl rfl rfl rfl (l2 rfl)) (dQ hf rfl sN rfl rfl rfl (.inl rfl) rfl rfl (by first | rfl | simp [iS,bU]) (by first | (simp only[maxLen,List.length_map,List.length_append,List.length_cons,List.length_nil]; omega) | (simp [maxLen] <;> omega)) (by first | (simp only[List.length_map,List.length_append,List.length_cons,List.length_nil]; omega) | (simp <;> omega)) ?_)))))
    refine cB (iK [2,4,13,14,15,31] rfl) (aE aA 1 rfl ?_)
    refine bV ?_
    refine hK8 _ (aB ?_)
    refine aI rfl (bQ rfl rfl (by omega) (by omega)) ?_
    refine aE aA 1 rfl (aD ?_)
    exact⟨(k+1,st),⟨by omega,by rw[aG7 hk,← h2,aPx (by assumption)],h3,h4.mono (by omega)⟩,by simp only; omega,cN ⟨rfl,rfl,(by rw[vR hk,← h2,yQ,List.length_append]; rfl),rfl,rfl,rfl,trivial⟩ (by rw[vR hk,← h2,yQ]; rfl)⟩
  ·
   simp only[bs,dW] at hc1
   refine bI (hK4 _ (aC (fun K13 hK13=>(aB (aE aA 2 rfl (bD hf rfl rfl bS rfl rfl (l1 rfl) (l4 rfl) rfl (aE aA 1 rfl (aD (hK13 _ (aM ?_))))))))))
   refine⟨_,rfl,?_⟩
   show AV.tup [.agg _,AV.conv _ (.own 6 1 0 (bH (aV s (l.take k))).length)]=_
   rw[cL (g:=6) rfl rfl,List.take_of_length_le (by omega)]
   rw[List.take_of_length_le (by omega)] at h2
   rw[h2]; rfl
theorem iB (s:Sta) (l:List Ev) (hz:SzS 140737488351232 s) (h:RightP s) (hl:l.length≤60) (ht:∀ e∈l,TS e.user∧TS e.other):Den Tryz.prog 15 [.agg (aL s),.sl 6 (l.map evC)] (·=.tup [.agg (aL (aG s l)),.sl 1 (bH (aV s l))]):=aAh 0 s l hz h (by omega) ht
end Go.Proofs.YtijnkglkchhomaaGreat
