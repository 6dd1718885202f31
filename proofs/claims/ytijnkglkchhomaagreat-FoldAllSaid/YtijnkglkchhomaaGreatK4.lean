import Derived.WalkKit
import Derived.WalkSpells
import Derived.WalkLawsBesides
import Derived.Deep.LoopGhost
import Derived.ChangeKeysEq
import Derived.Still
import Derived.Lib.AppendZeros
import Derived.Laws.StructEq
import Derived.OpenShut
import Derived.Scope
import Derived.Shelf.SlSortCmp.Kit1
import Derived.Shelf.SlSortCmp.InsertionK
import Derived.Lib.SlicesCompact
import Derived.ProofKit
import Derived.ChangeSame
import Derived.Carry
import Derived.SliceStrings
import Derived.ChangeMaps5
import Derived.Deep.Slices
import Derived.Test.YtijnkglkchhomaaGreatRows
import Derived.Shelf.Abstract
import Derived.Deep.RegionLaw
import Derived.Lib.Walk
import Derived.Lib.Overlaps
import Derived.Lib.AppendZerosOnto
import Derived.Laws.CopyRow
import Derived.Shelf.SlSortCmp.WholeK
import Derived.Shelf.SlSortCmp.Whole1
import Derived.Shelf.SlSortCmp.NoneTotal
import Derived.Test.YtijnkglkchhomaaGreatK1
import Derived.Test.YtijnkglkchhomaaGreatK2
import Derived.Test.YtijnkglkchhomaaGreatK3
set_option maxRecDepth 20000
set_option maxHeartbeats 16000000
set_option linter.unusedVariables false
set_option linter.unusedSimpArgs false
namespace Go.Proofs.YtijnkglkchhomaaGreat
open Go Go.Abs
theorem pG (s:Sta) (hz:SzS 140737488355328 s) :DenX Tryz.prog 50 [.agg (aL s)] [] (fun r m=>r=.agg (eX s E0 E1)∧m=[(E0,.buf 2 (s.usr.map usC)),(E1,.buf 2 (s.tmb.map tmC))]):=by
 have z1:=hz.o
 have z2:=hz.u
 have z3:=hz.b
 have z4:=hz.t
 refine jD [] Tryz.func50 rfl (Nat.le_of_ble_eq_true rfl) (args':=[.agg (aL s)]) (m':=[]) rfl rfl (by decide) (by decide) rfl (fun w0 o0 A hf=>?_)
 refine aC (fun K1 hK1=>(aB (kD hf rfl rfl rfl rfl (l1 rfl) ?_)))
 refine aX hf rfl rfl rfl bB (aD (hK1 _ (aC (fun K2 hK2=>(dJ bN ?_)))))
 refine cA (listed':=#[true,false,false,false,false,false,false,false,false,false,false,false,false,false,false,false,false,false,false,false]) 0 rfl (by kernel_rfl) (by kernel_rfl) (by kernel_rfl) rfl (fun _ _ h=>h) (vN rfl vB mQ rfl) ?_
 refine cA (listed':=#[true,false,false,true,false,false,false,false,false,false,false,false,false,false,false,false,false,false,false,false]) 3 rfl (by kernel_rfl) (by kernel_rfl) (by kernel_rfl) rfl (fun _ _ h=>h) (vN rfl aL0 rG rfl) ?_
 refine cA (listed':=#[true,false,false,true,false,false,true,false,false,false,false,false,false,false,false,false,false,false,false,false]) 6 rfl (by kernel_rfl) (by kernel_rfl) (by kernel_rfl) rfl (fun _ _ h=>h) (vN rfl vA oD rfl) ?_
 refine cA (listed':=#[true,false,false,true,false,false,true,false,false,true,false,false,false,false,false,false,false,false,false,false]) 9 rfl (by kernel_rfl) (by kernel_rfl) (by kernel_rfl) rfl (fun _ _ h=>h) (vN rfl aBl sY rfl) ?_
 refine aK 7 #[true,true,true,true,true,true,true,true,true,true,true,true,true,false,false,false,false,false,false,false] ⟨40,[(1,.ref 1 0 0 0),(2,.ref 2 0 0 0),(6,.sl 4 (s.opn.map seC)),(9,.own 9 2 0 (s.usr.map usC).length),(12,.sl 4 (s.sub.map enC)),(15,.own 15 2 0 (s.tmb.map tmC).length),(16,.ref 1 0 0 2)],[(15,.buf 2 (s.tmb.map tmC)),(9,.buf 2 (s.usr.map usC)),(2,.box [.s (.int .i64 0),.s (.int .i64 0),.s (.slice none 0 0),.s (.slice none 0 0),.s (.slice none 0 0),.s (.slice none 0 0)]),(1,.box (aL s))]⟩ ?_ (fun hD0=>?_)
 ·
  refine aG 13 [] (by kernel_rfl) ⟨?_,trivial⟩
  ·
   refine⟨_,rfl,rfl,(ao rfl (aZ hf rfl rfl mQ rfl rfl (l1 rfl) (l4 rfl) rfl (aF (aG 14 [] (by kernel_rfl) ⟨?_,trivial⟩))))⟩
   ·
    refine⟨_,rfl,rfl,(ao rfl (aE aA 1 rfl (aF (aG 15 [] (by kernel_rfl) ⟨?_,trivial⟩))))⟩
    ·
     refine⟨_,rfl,rfl,(ao rfl (aZ hf rfl rfl rG rfl rfl (l1 rfl) (l4 rfl) rfl (aF (aG 16 [] (by kernel_rfl) ⟨?_,trivial⟩))))⟩
     ·
      refine⟨_,rfl,rfl,(ao rfl (aE aA 1 rfl (aF (aG 17 [] (by kernel_rfl) ⟨?_,trivial⟩))))⟩
      ·
       refine⟨_,rfl,rfl,(ao rfl (aZ hf rfl rfl oD rfl rfl (l1 rfl) (l4 rfl) rfl (aF (aG 18 [] (by kernel_rfl) ⟨?_,trivial⟩))))⟩
       ·
        refine⟨_,rfl,rfl,(ao rfl (aE aA 1 rfl (aF (aG 19 [] (by kernel_rfl) ⟨?_,trivial⟩))))⟩
        ·
         refine⟨_,rfl,rfl,(ao rfl (aZ hf rfl rfl sY rfl rfl (l1 rfl) (l4 rfl) rfl (aF (dB (by kernel_rfl) ?_))))⟩
         refine hK2 _ (aC (fun K3 hK3=>(aC (fun K4 hK4=>(aB (aE aA 4 rfl (aD (hK4 _ (aR (bY (ι:=Nat) (fun k=>⟨40,[(1,.ref 1 0 0 0),(2,.ref 2 0 0 0),(22,.s (.int .i64 ((s.usr.map usC).length:Nat))),(23,.s (.int .i64 (k:Nat)))],[(15,.buf 2 (s.tmb.map tmC)),(9,.buf 2 (s.usr.map usC)),(2,.box [.s (.int .i64 0),.s (.int .i64 0),.s (.slice none 0 0),.s (.slice none 0 0),.s (.slice none 0 0),.s (.slice none 0 0)]),(1,.box (eX s 9 15))]⟩) (fun k=>k≤s.usr.length) (fun k=>s.usr.length - k) 0 ?_ ?_ ?_))))))))))
         · exact Nat.zero_le _
         · exact cW rfl
         ·
          rintro k hC
          refine aC (fun K5 hK5=>(aB (aE aA 1 rfl (aD (hK5 _ (aC (fun K6 hK6=>(aO rfl (fun hc1=>?_) (fun hc1=>?_)))))))))
          ·
           simp only[bs] at hc1
           refine aP (hK6 _ (aC (fun K7 hK7=>(aR (aC (fun K8 hK8=>(aB ?_)))))))
           have hk:k<s.usr.length:=by omega
           have hlm:(s.usr.map usC).length=s.usr.length:=List.length_map _
           refine aE aA 2 rfl (aD (hK8 _ (iS hf (L:=#[true,true,true,true,true,true,true,true,true,true,true,true,false]) 12 1 bN (by kernel_rfl) rfl (by kernel_rfl) rfl ?_)))
           refine bG aA 6 rfl ?_
           refine bX [(30,_),(31,_)] rfl rfl ⟨⟨rfl,rfl⟩,⟨rfl,rfl⟩,trivial⟩ rfl (cN rfl rfl fB dX (by omega)) ?_
           refine bG aA 1 rfl (bX [(33,_)] rfl rfl ⟨⟨rfl,rfl⟩,trivial⟩ rfl (aD7 rfl aLv rfl ((aKa (by omega) hk 1).trans rfl)) (cC [(34,_)] rfl rfl ⟨⟨rfl,rfl⟩,trivial⟩ rfl (aQ rfl rfl xR rfl (dI (xD s.usr[k].2 (hz.y _ (List.getElem_mem hk))))) ?_))
           refine bX [(27,_),(28,_)] rfl rfl ⟨⟨rfl,rfl⟩,⟨rfl,rfl⟩,trivial⟩ rfl (cN rfl rfl fB dX (by omega)) ?_
           refine bG aA 1 rfl (uR [1,2,22,23,35,37] rfl rfl rfl ?_)
           refine aG 12 [] (by kernel_rfl) ⟨?_,trivial⟩
           ·
            refine⟨_,rfl,rfl,(ao rfl (aZ hf rfl rfl vL rfl rfl (by simp [AV.cells,AV.one,Value.oneCell']) (by simp [AV.cells,AV.leaf,Value.oneCell']) (iK (c:=2) (k:=k) (f:=1) (enc:=usC) (v:=s.usr[k]) (by omega) (by omega) rfl (Nat.le_of_ble_eq_true rfl)) ?_))⟩
            refine aF (dB (by kernel_rfl) ?_)
            refine hK7 _ (aB ?_)
            refine aH rfl (bS rfl rfl (by omega) (by omega)) ?_
            refine aE aA 1 rfl (aD ?_)
            exact⟨k+1,by omega,by omega,cJ ⟨rfl,rfl,rfl,rfl,trivial⟩ (by rw[List.set_getElem_self]; rfl)⟩
          ·
           simp only[bs] at hc1
           refine bF (hK3 _ (aC (fun K9 hK9=>(aB (aH rfl (cD (cs':=eX s 9 15) rfl pH cM rfl rfl rfl) (aZ hf rfl rfl cM rfl rfl (l1 rfl) (l4 rfl) rfl (aD (hK9 _ (aN ?_)))))))))
           exact⟨_,[(E0,9),(E1,15)],_,Le.refl _,by decide,rfl,rfl,⟨rfl,rfl⟩⟩
 refine aK 8 #[true,true,true,true,true,true,true,true,true,true,true,true,false,false,false,false,false,false,false,false] ⟨40,[(1,.ref 1 0 0 0),(2,.ref 2 0 0 0),(6,.sl 4 (s.opn.map seC)),(9,.own 9 2 0 (s.usr.map usC).length),(12,.sl 4 (s.sub.map enC)),(15,.own 15 2 0 (s.tmb.map tmC).length)],[(15,.buf 2 (s.tmb.map tmC)),(9,.buf 2 (s.usr.map usC)),(2,.box [.s (.int .i64 0),.s (.int .i64 0),.s (.slice none 0 0),.s (.slice none 0 0),.s (.slice none 0 0),.s (.slice none 0 0)]),(1,.box (aL s))]⟩ ?_ (fun hD1=>?_)
 ·
  refine aG 12 [] (by kernel_rfl) ⟨?_,trivial⟩
  ·
   refine⟨_,rfl,rfl,(ao rfl (aE aA 1 rfl (aF (ag hD0 rfl rfl rfl))))⟩
 refine aK 8 #[true,true,true,true,true,true,true,true,true,true,true,false,true,false,false,false,false,false,false,false] ⟨40,[(1,.ref 1 0 0 0),(2,.ref 2 0 0 0),(6,.sl 4 (s.opn.map seC)),(9,.own 9 2 0 (s.usr.map usC).length),(12,.sl 4 (s.sub.map enC)),(14,.sl 2 (s.tmb.map tmC)),(16,.ref 1 0 0 2)],[(9,.buf 2 (s.usr.map usC)),(2,.box [.s (.int .i64 0),.s (.int .i64 0),.s (.slice none 0 0),.s (.slice none 0 0),.s (.slice none 0 0),.s (.slice none 0 0)]),(1,.box (aL s))]⟩ ?_ (fun hD2=>?_)
 ·
  refine aG 11 [] (by kernel_rfl) ⟨?_,trivial⟩
  ·
   refine⟨_,rfl,rfl,(ao rfl (iP hf rfl rfl rfl rfl rfl aFf rfl (aDa s.tmb (by omega)) ?_))⟩
   rintro _ rfl
   refine aF (ag hD0 rfl rfl rfl)
 refine aK 9 #[true,true,true,true,true,true,true,true,true,true,true,false,false,false,false,false,false,false,false,false] ⟨40,[(1,.ref 1 0 0 0),(2,.ref 2 0 0 0),(6,.sl 4 (s.opn.map seC)),(9,.own 9 2 0 (s.usr.map usC).length),(12,.sl 4 (s.sub.map enC)),(14,.sl 2 (s.tmb.map tmC))],[(9,.buf 2 (s.usr.map usC)),(2,.box [.s (.int .i64 0),.s (.int .i64 0),.s (.slice none 0 0),.s (.slice none 0 0),.s (.slice none 0 0),.s (.slice none 0 0)]),(1,.box (aL s))]⟩ ?_ (fun hD3=>?_)
 ·
  refine aG 11 [12] (by kernel_rfl) ⟨?_,?_,trivial⟩
  ·
   refine⟨_,rfl,rfl,(ao rfl (iP hf rfl rfl rfl rfl rfl aFf rfl (aDa s.tmb (by omega)) ?_))⟩
   rintro _ rfl
   refine aF (ag hD1 rfl rfl rfl)
  ·
   refine⟨_,rfl,rfl,(ao rfl (aE aA 1 rfl (aF (ag hD2 rfl rfl rfl))))⟩
 refine aK 9 #[true,true,true,true,true,true,true,true,false,true,true,false,true,false,false,false,false,false,false,false] ⟨40,[(1,.ref 1 0 0 0),(2,.ref 2 0 0 0),(6,.sl 4 (s.opn.map seC)),(9,.own 9 2 0 (s.usr.map usC).length),(11,.sl 4 (s.sub.map enC)),(14,.sl 2 (s.tmb.map tmC)),(16,.ref 1 0 0 2)],[(9,.buf 2 (s.usr.map usC)),(2,.box [.s (.int .i64 0),.s (.int .i64 0),.s (.slice none 0 0),.s (.slice none 0 0),.s (.slice none 0 0),.s (.slice none 0 0)]),(1,.box (aL s))]⟩ ?_ (fun hD4=>?_)
 ·
  refine aG 8 [] (by kernel_rfl) ⟨?_,trivial⟩
  ·
   refine⟨_,rfl,rfl,(ao rfl (aM hf rfl (aQ rfl rfl rC rfl (dI (qW s.sub (by omega)))) (aF (ag hD2 rfl rfl rfl))))⟩
 refine aK 10 #[true,true,true,true,true,true,true,true,true,true,false,false,false,false,false,false,false,false,false,false] ⟨40,[(1,.ref 1 0 0 0),(2,.ref 2 0 0 0),(6,.sl 4 (s.opn.map seC)),(9,.own 9 2 0 (s.usr.map usC).length),(12,.sl 4 (s.sub.map enC)),(13,.ref 1 0 0 5)],[(9,.buf 2 (s.usr.map usC)),(2,.box [.s (.int .i64 0),.s (.int .i64 0),.s (.slice none 0 0),.s (.slice none 0 0),.s (.slice none 0 0),.s (.slice none 0 0)]),(1,.box (aL s))]⟩ ?_ (fun hD5=>?_)
 ·
  refine aG 10 [] (by kernel_rfl) ⟨?_,trivial⟩
  ·
   refine⟨_,rfl,rfl,(ao rfl (aE aA 1 rfl (aF (ag hD3 rfl rfl rfl))))⟩
 refine aK 10 #[true,true,true,true,true,true,true,true,false,true,true,false,false,false,false,false,false,false,false,false] ⟨40,[(1,.ref 1 0 0 0),(2,.ref 2 0 0 0),(6,.sl 4 (s.opn.map seC)),(9,.own 9 2 0 (s.usr.map usC).length),(11,.sl 4 (s.sub.map enC)),(14,.sl 2 (s.tmb.map tmC))],[(9,.buf 2 (s.usr.map usC)),(2,.box [.s (.int .i64 0),.s (.int .i64 0),.s (.slice none 0 0),.s (.slice none 0 0),.s (.slice none 0 0),.s (.slice none 0 0)]),(1,.box (aL s))]⟩ ?_ (fun hD6=>?_)
 ·
  refine aG 8 [12] (by kernel_rfl) ⟨?_,?_,trivial⟩
  ·
   refine⟨_,rfl,rfl,(ao rfl (aM hf rfl (aQ rfl rfl rC rfl (dI (qW s.sub (by omega)))) (aF (ag hD3 rfl rfl rfl))))⟩
  ·
   refine⟨_,rfl,rfl,(ao rfl (aE aA 1 rfl (aF (ag hD4 rfl rfl rfl))))⟩
 refine aK 10 #[true,true,true,true,true,false,true,true,false,true,true,false,true,false,false,false,false,false,false,false] ⟨40,[(1,.ref 1 0 0 0),(2,.ref 2 0 0 0),(6,.sl 4 (s.opn.map seC)),(8,.sl 2 (s.usr.map usC)),(11,.sl 4 (s.sub.map enC)),(14,.sl 2 (s.tmb.map tmC)),(16,.ref 1 0 0 2)],[(2,.box [.s (.int .i64 0),.s (.int .i64 0),.s (.slice none 0 0),.s (.slice none 0 0),.s (.slice none 0 0),.s (.slice none 0 0)]),(1,.box (aL s))]⟩ ?_ (fun hD7=>?_)
 ·
  refine aG 5 [] (by kernel_rfl) ⟨?_,trivial⟩
  ·
   refine⟨_,rfl,rfl,(ao rfl (iP hf rfl rfl rfl rfl rfl rD rfl (qC s.usr (by omega)) ?_))⟩
   rintro _ rfl
   refine aF (ag hD4 rfl rfl rfl)
 refine aK 11 #[true,true,true,true,true,true,true,true,false,true,false,false,false,false,false,false,false,false,false,false] ⟨40,[(1,.ref 1 0 0 0),(2,.ref 2 0 0 0),(6,.sl 4 (s.opn.map seC)),(9,.own 9 2 0 (s.usr.map usC).length),(11,.sl 4 (s.sub.map enC)),(13,.ref 1 0 0 5)],[(9,.buf 2 (s.usr.map usC)),(2,.box [.s (.int .i64 0),.s (.int .i64 0),.s (.slice none 0 0),.s (.slice none 0 0),.s (.slice none 0 0),.s (.slice none 0 0)]),(1,.box (aL s))]⟩ ?_ (fun hD8=>?_)
 ·
  refine aG 8 [10] (by kernel_rfl) ⟨?_,?_,trivial⟩
  ·
   refine⟨_,rfl,rfl,(ao rfl (aM hf rfl (aQ rfl rfl rC rfl (dI (qW s.sub (by omega)))) (aF (ag hD5 rfl rfl rfl))))⟩
  ·
   refine⟨_,rfl,rfl,(ao rfl (aE aA 1 rfl (aF (ag hD6 rfl rfl rfl))))⟩
 refine aK 11 #[true,true,true,true,true,true,true,false,false,true,true,false,false,false,false,false,false,false,false,false] ⟨40,[(1,.ref 1 0 0 0),(2,.ref 2 0 0 0),(6,.sl 4 (s.opn.map seC)),(9,.own 9 2 0 (s.usr.map usC).length),(10,.ref 1 0 0 4),(14,.sl 2 (s.tmb.map tmC))],[(9,.buf 2 (s.usr.map usC)),(2,.box [.s (.int .i64 0),.s (.int .i64 0),.s (.slice none 0 0),.s (.slice none 0 0),.s (.slice none 0 0),.s (.slice none 0 0)]),(1,.box (aL s))]⟩ ?_ (fun hD9=>?_)
 ·
  refine aG 7 [] (by kernel_rfl) ⟨?_,trivial⟩
  ·
   refine⟨_,rfl,rfl,(ao rfl (aE aA 1 rfl (aF (ag hD6 rfl rfl rfl))))⟩
 refine aK 11 #[true,true,true,true,true,false,true,true,false,true,true,false,false,false,false,false,false,false,false,false] ⟨40,[(1,.ref 1 0 0 0),(2,.ref 2 0 0 0),(6,.sl 4 (s.opn.map seC)),(8,.sl 2 (s.usr.map usC)),(11,.sl 4 (s.sub.map enC)),(14,.sl 2 (s.tmb.map tmC))],[(2,.box [.s (.int .i64 0),.s (.int .i64 0),.s (.slice none 0 0),.s (.slice none 0 0),.s (.slice none 0 0),.s (.slice none 0 0)]),(1,.box (aL s))]⟩ ?_ (fun hD10=>?_)
 ·
  refine aG 5 [12] (by kernel_rfl) ⟨?_,?_,trivial⟩
  ·
   refine⟨_,rfl,rfl,(ao rfl (iP hf rfl rfl rfl rfl rfl rD rfl (qC s.usr (by omega)) ?_))⟩
   rintro _ rfl
   refine aF (ag hD6 rfl rfl rfl)
  ·
   refine⟨_,rfl,rfl,(ao rfl (aE aA 1 rfl (aF (ag hD7 rfl rfl rfl))))⟩
 refine aK 12 #[true,true,true,true,true,true,true,false,false,true,false,false,false,false,false,false,false,false,false,false] ⟨40,[(1,.ref 1 0 0 0),(2,.ref 2 0 0 0),(6,.sl 4 (s.opn.map seC)),(9,.own 9 2 0 (s.usr.map usC).length),(10,.ref 1 0 0 4),(13,.ref 1 0 0 5)],[(9,.buf 2 (s.usr.map usC)),(2,.box [.s (.int .i64 0),.s (.int .i64 0),.s (.slice none 0 0),.s (.slice none 0 0),.s (.slice none 0 0),.s (.slice none 0 0)]),(1,.box (aL s))]⟩ ?_ (fun hD11=>?_)
 ·
  refine aG 7 [10] (by kernel_rfl) ⟨?_,?_,trivial⟩
  ·
   refine⟨_,rfl,rfl,(ao rfl (aE aA 1 rfl (aF (ag hD8 rfl rfl rfl))))⟩
  ·
   refine⟨_,rfl,rfl,(ao rfl (aE aA 1 rfl (aF (ag hD9 rfl rfl rfl))))⟩
 refine aK 12 #[true,true,true,true,true,false,true,true,false,true,false,false,false,false,false,false,false,false,false,false] ⟨40,[(1,.ref 1 0 0 0),(2,.ref 2 0 0 0),(6,.sl 4 (s.opn.map seC)),(8,.sl 2 (s.usr.map usC)),(11,.sl 4 (s.sub.map enC)),(13,.ref 1 0 0 5)],[(2,.box [.s (.int .i64 0),.s (.int .i64 0),.s (.slice none 0 0),.s (.slice none 0 0),.s (.slice none 0 0),.s (.slice none 0 0)]),(1,.box (aL s))]⟩ ?_ (fun hD12=>?_)
 ·
  refine aG 5 [10] (by kernel_rfl) ⟨?_,?_,trivial⟩
  ·
   refine⟨_,rfl,rfl,(ao rfl (iP hf rfl rfl rfl rfl rfl rD rfl (qC s.usr (by omega)) ?_))⟩
   rintro _ rfl
   refine aF (ag hD8 rfl rfl rfl)
  ·
   refine⟨_,rfl,rfl,(ao rfl (aE aA 1 rfl (aF (ag hD10 rfl rfl rfl))))⟩
 refine aK 12 #[true,true,true,true,true,false,true,false,false,true,true,false,false,false,false,false,false,false,false,false] ⟨40,[(1,.ref 1 0 0 0),(2,.ref 2 0 0 0),(6,.sl 4 (s.opn.map seC)),(8,.sl 2 (s.usr.map usC)),(10,.ref 1 0 0 4),(14,.sl 2 (s.tmb.map tmC))],[(2,.box [.s (.int .i64 0),.s (.int .i64 0),.s (.slice none 0 0),.s (.slice none 0 0),.s (.slice none 0 0),.s (.slice none 0 0)]),(1,.box (aL s))]⟩ ?_ (fun hD13=>?_)
 ·
  refine aG 5 [7] (by kernel_rfl) ⟨?_,?_,trivial⟩
  ·
   refine⟨_,rfl,rfl,(ao rfl (iP hf rfl rfl rfl rfl rfl rD rfl (qC s.usr (by omega)) ?_))⟩
   rintro _ rfl
   refine aF (ag hD9 rfl rfl rfl)
  ·
   refine⟨_,rfl,rfl,(ao rfl (aE aA 1 rfl (aF (ag hD10 rfl rfl rfl))))⟩
 refine aK 12 #[true,true,true,true,false,false,true,true,false,true,true,false,false,false,false,false,false,false,false,false] ⟨40,[(1,.ref 1 0 0 0),(2,.ref 2 0 0 0),(6,.sl 4 (s.opn.map seC)),(7,.ref 1 0 0 3),(11,.sl 4 (s.sub.map enC)),(14,.sl 2 (s.tmb.map tmC))],[(2,.box [.s (.int .i64 0),.s (.int .i64 0),.s (.slice none 0 0),.s (.slice none 0 0),.s (.slice none 0 0),.s (.slice none 0 0)]),(1,.box (aL s))]⟩ ?_ (fun hD14=>?_)
 ·
  refine aG 4 [] (by kernel_rfl) ⟨?_,trivial⟩
  ·
   refine⟨_,rfl,rfl,(ao rfl (aE aA 1 rfl (aF (ag hD10 rfl rfl rfl))))⟩
 refine aK 12 #[true,true,false,true,true,false,true,true,false,true,true,false,false,false,false,false,false,false,false,false] ⟨40,[(1,.ref 1 0 0 0),(2,.ref 2 0 0 0),(5,.sl 4 (s.opn.map seC)),(8,.sl 2 (s.usr.map usC)),(11,.sl 4 (s.sub.map enC)),(14,.sl 2 (s.tmb.map tmC))],[(2,.box [.s (.int .i64 0),.s (.int .i64 0),.s (.slice none 0 0),.s (.slice none 0 0),.s (.slice none 0 0),.s (.slice none 0 0)]),(1,.box (aL s))]⟩ ?_ (fun hD15=>?_)
 ·
  refine aG 2 [] (by kernel_rfl) ⟨?_,trivial⟩
  ·
   refine⟨_,rfl,rfl,(ao rfl (aM hf rfl (aQ rfl rfl jF rfl (dI (jA s.opn (by omega)))) (aF (ag hD10 rfl rfl rfl))))⟩
 refine aK 13 #[true,true,true,true,true,false,true,false,false,true,false,false,false,false,false,false,false,false,false,false] ⟨40,[(1,.ref 1 0 0 0),(2,.ref 2 0 0 0),(6,.sl 4 (s.opn.map seC)),(8,.sl 2 (s.usr.map usC)),(10,.ref 1 0 0 4),(13,.ref 1 0 0 5)],[(2,.box [.s (.int .i64 0),.s (.int .i64 0),.s (.slice none 0 0),.s (.slice none 0 0),.s (.slice none 0 0),.s (.slice none 0 0)]),(1,.box (aL s))]⟩ ?_ (fun hD16=>?_)
 ·
  refine aG 5 [7,10] (by kernel_rfl) ⟨?_,?_,?_,trivial⟩
  ·
   refine⟨_,rfl,rfl,(ao rfl (iP hf rfl rfl rfl rfl rfl rD rfl (qC s.usr (by omega)) ?_))⟩
   rintro _ rfl
   refine aF (ag hD11 rfl rfl rfl)
  ·
   refine⟨_,rfl,rfl,(ao rfl (aE aA 1 rfl (aF (ag hD12 rfl rfl rfl))))⟩
  ·
   refine⟨_,rfl,rfl,(ao rfl (aE aA 1 rfl (aF (ag hD13 rfl rfl rfl))))⟩
 refine aK 13 #[true,true,true,true,false,false,true,true,false,true,false,false,false,false,false,false,false,false,false,false] ⟨40,[(1,.ref 1 0 0 0),(2,.ref 2 0 0 0),(6,.sl 4 (s.opn.map seC)),(7,.ref 1 0 0 3),(11,.sl 4 (s.sub.map enC)),(13,.ref 1 0 0 5)],[(2,.box [.s (.int .i64 0),.s (.int .i64 0),.s (.slice none 0 0),.s (.slice none 0 0),.s (.slice none 0 0),.s (.slice none 0 0)]),(1,.box (aL s))]⟩ ?_ (fun hD17=>?_)
 ·
  refine aG 4 [10] (by kernel_rfl) ⟨?_,?_,trivial⟩
  ·
   refine⟨_,rfl,rfl,(ao rfl (aE aA 1 rfl (aF (ag hD12 rfl rfl rfl))))⟩
  ·
   refine⟨_,rfl,rfl,(ao rfl (aE aA 1 rfl (aF (ag hD14 rfl rfl rfl))))⟩
 refine aK 13 #[true,true,true,true,false,false,true,false,false,true,true,false,false,false,false,false,false,false,false,false] ⟨40,[(1,.ref 1 0 0 0),(2,.ref 2 0 0 0),(6,.sl 4 (s.opn.map seC)),(7,.ref 1 0 0 3),(10,.ref 1 0 0 4),(14,.sl 2 (s.tmb.map tmC))],[(2,.box [.s (.int .i64 0),.s (.int .i64 0),.s (.slice none 0 0),.s (.slice none 0 0),.s (.slice none 0 0),.s (.slice none 0 0)]),(1,.box (aL s))]⟩ ?_ (fun hD18=>?_)
 ·
  refine aG 4 [7] (by kernel_rfl) ⟨?_,?_,trivial⟩
  ·
   refine⟨_,rfl,rfl,(ao rfl (aE aA 1 rfl (aF (ag hD13 rfl rfl rfl))))⟩
  ·
   refine⟨_,rfl,rfl,(ao rfl (aE aA 1 rfl (aF (ag hD14 rfl rfl rfl))))⟩
 refine aK 13 #[true,true,false,true,true,false,true,true,false,true,false,false,false,false,false,false,false,false,false,false] ⟨40,[(1,.ref 1 0 0 0),(2,.ref 2 0 0 0),(5,.sl 4 (s.opn.map seC)),(8,.sl 2 (s.usr.map usC)),(11,.sl 4 (s.sub.map enC)),(13,.ref 1 0 0 5)],[(2,.box [.s (.int .i64 0),.s (.int .i64 0),.s (.slice none 0 0),.s (.slice none 0 0),.s (.slice none 0 0),.s (.slice none 0 0)]),(1,.box (aL s))]⟩ ?_ (fun hD19=>?_)
 ·
  refine aG 2 [10] (by kernel_rfl) ⟨?_,?_,trivial⟩
  ·
   refine⟨_,rfl,rfl,(ao rfl (aM hf rfl (aQ rfl rfl jF rfl (dI (jA s.opn (by omega)))) (aF (ag hD12 rfl rfl rfl))))⟩
  ·
   refine⟨_,rfl,rfl,(ao rfl (aE aA 1 rfl (aF (ag hD15 rfl rfl rfl))))⟩
 refine aK 13 #[true,true,false,true,true,false,true,false,false,true,true,false,false,false,false,false,false,false,false,false] ⟨40,[(1,.ref 1 0 0 0),(2,.ref 2 0 0 0),(5,.sl 4 (s.opn.map seC)),(8,.sl 2 (s.usr.map usC)),(10,.ref 1 0 0 4),(14,.sl 2 (s.tmb.map tmC))],[(2,.box [.s (.int .i64 0),.s (.int .i64 0),.s (.slice none 0 0),.s (.slice none 0 0),.s (.slice none 0 0),.s (.slice none 0 0)]),(1,.box (aL s))]⟩ ?_ (fun hD20=>?_)
 ·
  refine aG 2 [7] (by kernel_rfl) ⟨?_,?_,trivial⟩
  ·
   refine⟨_,rfl,rfl,(ao rfl (aM hf rfl (aQ rfl rfl jF rfl (dI (jA s.opn (by omega)))) (aF (ag hD13 rfl rfl rfl))))⟩
  ·
   refine⟨_,rfl,rfl,(ao rfl (aE aA 1 rfl (aF (ag hD15 rfl rfl rfl))))⟩
 refine aK 13 #[true,true,false,true,false,false,true,true,false,true,true,false,false,false,false,false,false,false,false,false] ⟨40,[(1,.ref 1 0 0 0),(2,.ref 2 0 0 0),(5,.sl 4 (s.opn.map seC)),(7,.ref 1 0 0 3),(11,.sl 4 (s.sub.map enC)),(14,.sl 2 (s.tmb.map tmC))],[(2,.box [.s (.int .i64 0),.s (.int .i64 0),.s (.slice none 0 0),.s (.slice none 0 0),.s (.slice none 0 0),.s (.slice none 0 0)]),(1,.box (aL s))]⟩ ?_ (fun hD21=>?_)
 ·
  refine aG 2 [4] (by kernel_rfl) ⟨?_,?_,trivial⟩
  ·
   refine⟨_,rfl,rfl,(ao rfl (aM hf rfl (aQ rfl rfl jF rfl (dI (jA s.opn (by omega)))) (aF (ag hD14 rfl rfl rfl))))⟩
  ·
   refine⟨_,rfl,rfl,(ao rfl (aE aA 1 rfl (aF (ag hD15 rfl rfl rfl))))⟩
 refine aK 13 #[true,false,false,true,true,false,true,true,false,true,true,false,false,false,false,false,false,false,false,false] ⟨40,[(1,.ref 1 0 0 0),(2,.ref 2 0 0 0),(4,.ref 1 0 0 2),(8,.sl 2 (s.usr.map usC)),(11,.sl 4 (s.sub.map enC)),(14,.sl 2 (s.tmb.map tmC))],[(2,.box [.s (.int .i64 0),.s (.int .i64 0),.s (.slice none 0 0),.s (.slice none 0 0),.s (.slice none 0 0),.s (.slice none 0 0)]),(1,.box (aL s))]⟩ ?_ (fun hD22=>?_)
 ·
  refine aG 1 [] (by kernel_rfl) ⟨?_,trivial⟩
  ·
   refine⟨_,rfl,rfl,(ao rfl (aE aA 1 rfl (aF (ag hD15 rfl rfl rfl))))⟩
 refine aK 14 #[true,true,true,true,false,false,true,false,false,true,false,false,false,false,false,false,false,false,false,false] ⟨40,[(1,.ref 1 0 0 0),(2,.ref 2 0 0 0),(6,.sl 4 (s.opn.map seC)),(7,.ref 1 0 0 3),(10,.ref 1 0 0 4),(13,.ref 1 0 0 5)],[(2,.box [.s (.int .i64 0),.s (.int .i64 0),.s (.slice none 0 0),.s (.slice none 0 0),.s (.slice none 0 0),.s (.slice none 0 0)]),(1,.box (aL s))]⟩ ?_ (fun hD23=>?_)
 ·
  refine aG 4 [7,10] (by kernel_rfl) ⟨?_,?_,?_,trivial⟩
  ·
   refine⟨_,rfl,rfl,(ao rfl (aE aA 1 rfl (aF (ag hD16 rfl rfl rfl))))⟩
  ·
   refine⟨_,rfl,rfl,(ao rfl (aE aA 1 rfl (aF (ag hD17 rfl rfl rfl))))⟩
  ·
   refine⟨_,rfl,rfl,(ao rfl (aE aA 1 rfl (aF (ag hD18 rfl rfl rfl))))⟩
 refine aK 14 #[true,true,false,true,true,false,true,false,false,true,false,false,false,false,false,false,false,false,false,false] ⟨40,[(1,.ref 1 0 0 0),(2,.ref 2 0 0 0),(5,.sl 4 (s.opn.map seC)),(8,.sl 2 (s.usr.map usC)),(10,.ref 1 0 0 4),(13,.ref 1 0 0 5)],[(2,.box [.s (.int .i64 0),.s (.int .i64 0),.s (.slice none 0 0),.s (.slice none 0 0),.s (.slice none 0 0),.s (.slice none 0 0)]),(1,.box (aL s))]⟩ ?_ (fun hD24=>?_)
 ·
  refine aG 2 [7,10] (by kernel_rfl) ⟨?_,?_,?_,trivial⟩
  ·
   refine⟨_,rfl,rfl,(ao rfl (aM hf rfl (aQ rfl rfl jF rfl (dI (jA s.opn (by omega)))) (aF (ag hD16 rfl rfl rfl))))⟩
  ·
   refine⟨_,rfl,rfl,(ao rfl (aE aA 1 rfl (aF (ag hD19 rfl rfl rfl))))⟩
  ·
   refine⟨_,rfl,rfl,(ao rfl (aE aA 1 rfl (aF (ag hD20 rfl rfl rfl))))⟩
 refine aK 14 #[true,true,false,true,false,false,true,true,false,true,false,false,false,false,false,false,false,false,false,false] ⟨40,[(1,.ref 1 0 0 0),(2,.ref 2 0 0 0),(5,.sl 4 (s.opn.map seC)),(7,.ref 1 0 0 3),(11,.sl 4 (s.sub.map enC)),(13,.ref 1 0 0 5)],[(2,.box [.s (.int .i64 0),.s (.int .i64 0),.s (.slice none 0 0),.s (.slice none 0 0),.s (.slice none 0 0),.s (.slice none 0 0)]),(1,.box (aL s))]⟩ ?_ (fun hD25=>?_)
 ·
  refine aG 2 [4,10] (by kernel_rfl) ⟨?_,?_,?_,trivial⟩
  ·
   refine⟨_,rfl,rfl,(ao rfl (aM hf rfl (aQ rfl rfl jF rfl (dI (jA s.opn (by omega)))) (aF (ag hD17 rfl rfl rfl))))⟩
  ·
   refine⟨_,rfl,rfl,(ao rfl (aE aA 1 rfl (aF (ag hD19 rfl rfl rfl))))⟩
  ·
   refine⟨_,rfl,rfl,(ao rfl (aE aA 1 rfl (aF (ag hD21 rfl rfl rfl))))⟩
 refine aK 14 #[true,true,false,true,false,false,true,false,false,true,true,false,false,false,false,false,false,false,false,false] ⟨40,[(1,.ref 1 0 0 0),(2,.ref 2 0 0 0),(5,.sl 4 (s.opn.map seC)),(7,.ref 1 0 0 3),(10,.ref 1 0 0 4),(14,.sl 2 (s.tmb.map tmC))],[(2,.box [.s (.int .i64 0),.s (.int .i64 0),.s (.slice none 0 0),.s (.slice none 0 0),.s (.slice none 0 0),.s (.slice none 0 0)]),(1,.box (aL s))]⟩ ?_ (fun hD26=>?_)
 ·
  refine aG 2 [4,7] (by kernel_rfl) ⟨?_,?_,?_,trivial⟩
  ·
   refine⟨_,rfl,rfl,(ao rfl (aM hf rfl (aQ rfl rfl jF rfl (dI (jA s.opn (by omega)))) (aF (ag hD18 rfl rfl rfl))))⟩
  ·
   refine⟨_,rfl,rfl,(ao rfl (aE aA 1 rfl (aF (ag hD20 rfl rfl rfl))))⟩
  ·
   refine⟨_,rfl,rfl,(ao rfl (aE aA 1 rfl (aF (ag hD21 rfl rfl rfl))))⟩
 refine aK 14 #[true,false,false,true,true,false,true,true,false,true,false,false,false,false,false,false,false,false,false,false] ⟨40,[(1,.ref 1 0 0 0),(2,.ref 2 0 0 0),(4,.ref 1 0 0 2),(8,.sl 2 (s.usr.map usC)),(11,.sl 4 (s.sub.map enC)),(13,.ref 1 0 0 5)],[(2,.box [.s (.int .i64 0),.s (.int .i64 0),.s (.slice none 0 0),.s (.slice none 0 0),.s (.slice none 0 0),.s (.slice none 0 0)]),(1,.box (aL s))]⟩ ?_ (fun hD27=>?_)
 ·
  refine aG 1 [10] (by kernel_rfl) ⟨?_,?_,trivial⟩
  ·
   refine⟨_,rfl,rfl,(ao rfl (aE aA 1 rfl (aF (ag hD19 rfl rfl rfl))))⟩
  ·
   refine⟨_,rfl,rfl,(ao rfl (aE aA 1 rfl (aF (ag hD22 rfl rfl rfl))))⟩
 refine aK 14 #[true,false,false,true,true,false,true,false,false,true,true,false,false,false,false,false,false,false,false,false] ⟨40,[(1,.ref 1 0 0 0),(2,.ref 2 0 0 0),(4,.ref 1 0 0 2),(8,.sl 2 (s.usr.map usC)),(10,.ref 1 0 0 4),(14,.sl 2 (s.tmb.map tmC))],[(2,.box [.s (.int .i64 0),.s (.int .i64 0),.s (.slice none 0 0),.s (.slice none 0 0),.s (.slice none 0 0),.s (.slice none 0 0)]),(1,.box (aL s))]⟩ ?_ (fun hD28=>?_)
 ·
  refine aG 1 [7] (by kernel_rfl) ⟨?_,?_,trivial⟩
  ·
   refine⟨_,rfl,rfl,(ao rfl (aE aA 1 rfl (aF (ag hD20 rfl rfl rfl))))⟩
  ·
   refine⟨_,rfl,rfl,(ao rfl (aE aA 1 rfl (aF (ag hD22 rfl rfl rfl))))⟩
 refine aK 14 #[true,false,false,true,false,false,true,true,false,true,true,false,false,false,false,false,false,false,false,false] ⟨40,[(1,.ref 1 0 0 0),(2,.ref 2 0 0 0),(4,.ref 1 0 0 2),(7,.ref 1 0 0 3),(11,.sl 4 (s.sub.map enC)),(14,.sl 2 (s.tmb.map tmC))],[(2,.box [.s (.int .i64 0),.s (.int .i64 0),.s (.slice none 0 0),.s (.slice none 0 0),.s (.slice none 0 0),.s (.slice none 0 0)]),(1,.box (aL s))]⟩ ?_ (fun hD29=>?_)
 ·
  refine aG 1 [4] (by kernel_rfl) ⟨?_,?_,trivial⟩
  ·
   refine⟨_,rfl,rfl,(ao rfl (aE aA 1 rfl (aF (ag hD21 rfl rfl rfl))))⟩
  ·
   refine⟨_,rfl,rfl,(ao rfl (aE aA 1 rfl (aF (ag hD22 rfl rfl rfl))))⟩
 refine aK 15 #[true,true,false,true,false,false,true,false,false,true,false,false,false,false,false,false,false,false,false,false] ⟨40,[(1,.ref 1 0 0 0),(2,.ref 2 0 0 0),(5,.sl 4 (s.opn.map seC)),(7,.ref 1 0 0 3),(10,.ref 1 0 0 4),(13,.ref 1 0 0 5)],[(2,.box [.s (.int .i64 0),.s (.int .i64 0),.s (.slice none 0 0),.s (.slice none 0 0),.s (.slice none 0 0),.s (.slice none 0 0)]),(1,.box (aL s))]⟩ ?_ (fun hD30=>?_)
 ·
  refine aG 2 [4,7,10] (by kernel_rfl) ⟨?_,?_,?_,?_,trivial⟩
  ·
   refine⟨_,rfl,rfl,(ao rfl (aM hf rfl (aQ rfl rfl jF rfl (dI (jA s.opn (by omega)))) (aF (ag hD23 rfl rfl rfl))))⟩
  ·
   refine⟨_,rfl,rfl,(ao rfl (aE aA 1 rfl (aF (ag hD24 rfl rfl rfl))))⟩
  ·
   refine⟨_,rfl,rfl,(ao rfl (aE aA 1 rfl (aF (ag hD25 rfl rfl rfl))))⟩
  ·
   refine⟨_,rfl,rfl,(ao rfl (aE aA 1 rfl (aF (ag hD26 rfl rfl rfl))))⟩
 refine aK 15 #[true,false,false,true,true,false,true,false,false,true,false,false,false,false,false,false,false,false,false,false] ⟨40,[(1,.ref 1 0 0 0),(2,.ref 2 0 0 0),(4,.ref 1 0 0 2),(8,.sl 2 (s.usr.map usC)),(10,.ref 1 0 0 4),(13,.ref 1 0 0 5)],[(2,.box [.s (.int .i64 0),.s (.int .i64 0),.s (.slice none 0 0),.s (.slice none 0 0),.s (.slice none 0 0),.s (.slice none 0 0)]),(1,.box (aL s))]⟩ ?_ (fun hD31=>?_)
 ·
  refine aG 1 [7,10] (by kernel_rfl) ⟨?_,?_,?_,trivial⟩
  ·
   refine⟨_,rfl,rfl,(ao rfl (aE aA 1 rfl (aF (ag hD24 rfl rfl rfl))))⟩
  ·
   refine⟨_,rfl,rfl,(ao rfl (aE aA 1 rfl (aF (ag hD27 rfl rfl rfl))))⟩
  ·
   refine⟨_,rfl,rfl,(ao rfl (aE aA 1 rfl (aF (ag hD28 rfl rfl rfl))))⟩
 refine aK 15 #[true,false,false,true,false,false,true,true,false,true,false,false,false,false,false,false,false,false,false,false] ⟨40,[(1,.ref 1 0 0 0),(2,.ref 2 0 0 0),(4,.ref 1 0 0 2),(7,.ref 1 0 0 3),(11,.sl 4 (s.sub.map enC)),(13,.ref 1 0 0 5)],[(2,.box [.s (.int .i64 0),.s (.int .i64 0),.s (.slice none 0 0),.s (.slice none 0 0),.s (.slice none 0 0),.s (.slice none 0 0)]),(1,.box (aL s))]⟩ ?_ (fun hD32=>?_)
 ·
  refine aG 1 [4,10] (by kernel_rfl) ⟨?_,?_,?_,trivial⟩
  ·
   refine⟨_,rfl,rfl,(ao rfl (aE aA 1 rfl (aF (ag hD25 rfl rfl rfl))))⟩
  ·
   refine⟨_,rfl,rfl,(ao rfl (aE aA 1 rfl (aF (ag hD27 rfl rfl rfl))))⟩
  ·
   refine⟨_,rfl,rfl,(ao rfl (aE aA 1 rfl (aF (ag hD29 rfl rfl rfl))))⟩
 refine aK 15 #[true,false,false,true,false,false,true,false,false,true,true,false,false,false,false,false,false,false,false,false] ⟨40,[(1,.ref 1 0 0 0),(2,.ref 2 0 0 0),(4,.ref 1 0 0 2),(7,.ref 1 0 0 3),(10,.ref 1 0 0 4),(14,.sl 2 (s.tmb.map tmC))],[(2,.box [.s (.int .i64 0),.s (.int .i64 0),.s (.slice none 0 0),.s (.slice none 0 0),.s (.slice none 0 0),.s (.slice none 0 0)]),(1,.box (aL s))]⟩ ?_ (fun hD33=>?_)
 ·
  refine aG 1 [4,7] (by kernel_rfl) ⟨?_,?_,?_,trivial⟩
  ·
   refine⟨_,rfl,rfl,(ao rfl (aE aA 1 rfl (aF (ag hD26 rfl rfl rfl))))⟩
  ·
   refine⟨_,rfl,rfl,(ao rfl (aE aA 1 rfl (aF (ag hD28 rfl rfl rfl))))⟩
  ·
   refine⟨_,rfl,rfl,(ao rfl (aE aA 1 rfl (aF (ag hD29 rfl rfl rfl))))⟩
 refine gQ (lF (sl':=[(1,.ref 1 0 0 0),(2,.ref 2 0 0 0),(4,.ref 1 0 0 2),(7,.ref 1 0 0 3),(10,.ref 1 0 0 4),(13,.ref 1 0 0 5)]) (m':=[(2,.box [.s (.int .i64 0),.s (.int .i64 0),.s (.slice none 0 0),.s (.slice none 0 0),.s (.slice none 0 0),.s (.slice none 0 0)]),(1,.box (aL s))]) rfl rfl rfl) (aG 1 [4,7,10] (by kernel_rfl) ⟨?_,?_,?_,?_,trivial⟩)
 ·
  refine⟨_,rfl,rfl,(ao rfl (aE aA 1 rfl (aF (ag hD30 rfl rfl rfl))))⟩
 ·
  refine⟨_,rfl,rfl,(ao rfl (aE aA 1 rfl (aF (ag hD31 rfl rfl rfl))))⟩
 ·
  refine⟨_,rfl,rfl,(ao rfl (aE aA 1 rfl (aF (ag hD32 rfl rfl rfl))))⟩
 ·
  refine⟨_,rfl,rfl,(ao rfl (aE aA 1 rfl (aF (ag hD33 rfl rfl rfl))))⟩
end Go.Proofs.YtijnkglkchhomaaGreat
set_option linter.unusedVariables false
set_option linter.unusedSimpArgs false
namespace Go.Proofs.YtijnkglkchhomaaGreat
open Go Go.Abs
theorem aFb (l:List cB) (s:cB) (hl:l.length*32+32≤140737488355328) :Den Tryz.prog 71 [.sl 4 (l.map stC),.agg (stC s)]  (·=.sl 4 ((iU l s).map stC)):=by
 refine aY Tryz.func71 rfl (Nat.le_of_ble_eq_true rfl) (fun w0 A hf=>(aC (fun K1 hK1=>(aB (aM hf rfl (cT rfl rfl (lf rfl)) (aH rfl (bR) (aD (hK1 _ (aC (fun K2 hK2=>(aC (fun K3 hK3=>(aB (aE aA 2 rfl (aM hf rfl (aQ rfl rfl rY rfl (yO s.1)) (aD ?_))))))))))))))))
 refine hK3 _ (aO rfl (fun hc1=>?_) (fun hc1=>?_))
 ·
  simp only[bs] at hc1
  refine aC (fun K4 hK4=>(aB (aE aA 1 rfl (aM hf rfl (aQ rfl rfl xR rfl (dI (xD _ (by omega)))) (aE aA 1 rfl (aD (hK4 _ (aN ?_))))))))
  refine⟨_,rfl,?_⟩
  rw[iU,if_pos (by assumption)]; rfl
 ·
  simp only[bs] at hc1
  refine aP (hK2 _ (aC (fun K5 hK5=>(aB (aE aA 3 rfl (aD (hK5 _ (aC (fun K6 hK6=>(aR (bY (ι:=Nat) (fun k=>⟨37,[(0,.sl 4 (l.map stC)),(3,.adr (stC s)),(5,.s (.int .i64 (k:Nat)))],[]⟩) (fun k=>k≤l.length∧∀ (j:Nat) (hj:j<l.length),k≤j→0<jH l[j] s) (fun k=>k) l.length ?_ ?_ ?_)))))))))))
  · exact⟨Nat.le_refl _,by omega⟩
  · exact cJ ⟨rfl,rfl,aU (by rw[List.length_map]),trivial⟩ rfl
  ·
   rintro k hC
   obtain ⟨h1,h2⟩:=hC
   refine aC (fun K7 hK7=>(aC (fun K8 hK8=>(dM hf bN (by kernel_rfl) rfl (bG aA 3 rfl (gP 15 true rfl (fun hg2=>?_) (fun hg2=>?_)))))))
   ·
    simp only[bs] at hg2
    refine bG aA 2 rfl ?_
    refine bX [(17,_)] rfl rfl ⟨⟨rfl,rfl⟩,trivial⟩ rfl (gF rfl rfl (by omega) (by omega)) ?_
    refine bX [(16,_),(18,_)] rfl rfl ⟨⟨rfl,rfl⟩,⟨rfl,rfl⟩,trivial⟩ rfl (bA rfl rfl cS bH (mS (k:=k - 1) (by omega) (by omega))) (bG aA 2 rfl (cC [(20,_),(21,_)] rfl rfl ⟨⟨rfl,rfl⟩,⟨rfl,rfl⟩,trivial⟩ rfl (aQ rfl rfl aB0 rfl (aLj l[k - 1] s)) (bG aA 2 rfl (dQ [0,3,5,24] rfl rfl rfl (hK8 _ (aO rfl (fun hc3=>?_) (fun hc3=>?_)))))))
    ·
     simp only[bs] at hc3
     refine aP (hK7 _ (aR (aB (aE aA 1 rfl ?_))))
     refine aH rfl (gF rfl rfl (by omega) (by omega)) ?_
     refine aE aA 1 rfl ?_
     refine bL ?_
     exact⟨k - 1,⟨by omega,fun j hj hkj=>by
      by_cases e:j=k - 1
      · subst e; assumption
      · exact h2 j hj (by omega)⟩,by omega,cJ ⟨rfl,rfl,aU (by omega),trivial⟩ rfl⟩
    ·
     simp only[bs] at hc3
     refine bF (hK6 _ (aC (fun K9 hK9=>(dM hf bN (by kernel_rfl) rfl ?_))))
     have hins:=aCt s l k (by omega) h2 (fun h0 h=>by omega)
     refine bG aA 2 rfl (bX [(27,_),(28,_)] rfl rfl ⟨⟨rfl,rfl⟩,⟨rfl,rfl⟩,trivial⟩ rfl (dL rfl cS bH rfl (iR rfl (by omega)) (by omega) (by simp only[List.length_map,Int.toNat_natCast] <;> omega) (iQ (k:=k) (by omega))) ?_)
     refine bG aA 1 rfl (cC [(30,_)] rfl rfl ⟨⟨rfl,rfl⟩,trivial⟩ rfl (bD jQ rfl rfl rfl rfl (l2 rfl)) (bG aA 2 rfl (bX [(32,_),(33,_)] rfl rfl ⟨⟨rfl,rfl⟩,⟨rfl,rfl⟩,trivial⟩ rfl (dL rfl cS bH (iR rfl (by omega)) rfl (by simp only[List.length_map,Int.toNat_natCast] <;> omega) (by omega) (fU (k:=k) (by omega))) ?_)))
     refine cC [(29,_),(31,_),(34,_)] rfl rfl ⟨⟨rfl,rfl⟩,⟨rfl,rfl⟩,⟨rfl,rfl⟩,trivial⟩ rfl (bD aFr rfl rfl rfl rfl (l2 rfl)) (cC [(35,_)] rfl rfl ⟨⟨rfl,rfl⟩,trivial⟩ rfl (aQ rfl rfl aBz rfl ((show Den Tryz.prog _ _ (·=.sl 4 ((l.take k++s::l.drop k).map stC)) from (dI (aAy [l.take k,[s],l.drop k] (by simp) (by simp only[List.flatten_cons,List.flatten_nil,List.length_append,List.length_take,List.length_drop,List.length_cons,List.length_nil]; omega))).mono fun r h=>h.trans (by simp)))) ?_)
     refine bG aA 1 rfl (dQ [4] rfl rfl rfl (hK9 _ (aN ?_)))
     refine⟨_,rfl,?_⟩
     rw[iU,if_neg (by omega),hins]; rfl
   ·
    simp only[bs] at hg2
    refine bG aA 9 rfl (dQ [0,3,5,24] rfl rfl rfl (hK8 _ (bJ rfl (bF (hK6 _ (aC (fun K10 hK10=>(dM hf bN (by kernel_rfl) rfl ?_))))))))
    have hins:=aCt s l k (by omega) h2 (fun h0 h=>by omega)
    refine bG aA 2 rfl (bX [(27,_),(28,_)] rfl rfl ⟨⟨rfl,rfl⟩,⟨rfl,rfl⟩,trivial⟩ rfl (dL rfl cS bH rfl (iR rfl (by omega)) (by omega) (by simp only[List.length_map,Int.toNat_natCast] <;> omega) (iQ (k:=k) (by omega))) ?_)
    refine bG aA 1 rfl (cC [(30,_)] rfl rfl ⟨⟨rfl,rfl⟩,trivial⟩ rfl (bD jQ rfl rfl rfl rfl (l2 rfl)) (bG aA 2 rfl (bX [(32,_),(33,_)] rfl rfl ⟨⟨rfl,rfl⟩,⟨rfl,rfl⟩,trivial⟩ rfl (dL rfl cS bH (iR rfl (by omega)) rfl (by simp only[List.length_map,Int.toNat_natCast] <;> omega) (by omega) (fU (k:=k) (by omega))) ?_)))
    refine cC [(29,_),(31,_),(34,_)] rfl rfl ⟨⟨rfl,rfl⟩,⟨rfl,rfl⟩,⟨rfl,rfl⟩,trivial⟩ rfl (bD aFr rfl rfl rfl rfl (l2 rfl)) (cC [(35,_)] rfl rfl ⟨⟨rfl,rfl⟩,trivial⟩ rfl (aQ rfl rfl aBz rfl ((show Den Tryz.prog _ _ (·=.sl 4 ((l.take k++s::l.drop k).map stC)) from (dI (aAy [l.take k,[s],l.drop k] (by simp) (by simp only[List.flatten_cons,List.flatten_nil,List.length_append,List.length_take,List.length_drop,List.length_cons,List.length_nil]; omega))).mono fun r h=>h.trans (by simp)))) ?_)
    refine bG aA 1 rfl (dQ [4] rfl rfl rfl (hK10 _ (aN ?_)))
    refine⟨_,rfl,?_⟩
    rw[iU,if_neg (by omega),hins]; rfl
theorem aJ4 (l:List cB) (s:cB) (hl:l.length*32+32≤140737488355328) :Den Tryz.prog 73 [.sl 4 (l.map stC),.agg (stC s)]  (·=.sl 4 ((iU l s).map stC)):=by
 refine aY Tryz.func73 rfl (Nat.le_of_ble_eq_true rfl) (fun w0 A hf=>(aC (fun K1 hK1=>(aB (aM hf rfl (cT rfl rfl (lf rfl)) (aH rfl (bR) (aD (hK1 _ (aC (fun K2 hK2=>(aC (fun K3 hK3=>(aB (aE aA 5 rfl (aD (hK3 _ ?_))))))))))))))))
 refine aO rfl (fun hc1=>?_) (fun hc1=>?_)
 ·
  simp only[bs] at hc1
  refine aC (fun K4 hK4=>(aB (aE aA 2 rfl (aD (hK4 _ (aN ?_))))))
  refine⟨_,rfl,?_⟩
  rw[iU,if_pos (by assumption)]; rfl
 ·
  simp only[bs] at hc1
  refine aP (hK2 _ (aC (fun K5 hK5=>(aB (aE aA 1 rfl (aD (hK5 _ (aC (fun K6 hK6=>(aC (fun K7 hK7=>(aB (aE aA 1 rfl (aD (hK7 _ ?_)))))))))))))))
  refine aR (bY (ι:=Nat×Nat) (fun(⟨k,a⟩:Nat×Nat)=>⟨43,[(0,.sl 4 (l.map stC)),(3,.adr (stC s)),(5,.s (.int .i64 (a:Nat))),(6,.s (.int .i64 (k:Nat)))],[]⟩) (fun(⟨k,a⟩:Nat×Nat)=>k≤l.length∧a≤k∧(∀ (j:Nat) (hj:j<l.length),a≤j→j<k→0<jH l[j] s)∧(∀ z,l[a - 1]?=some z→0<a→jH z s≤0)) (fun(⟨k,a⟩:Nat×Nat)=>l.length - k) (0,0) ?_ ?_ ?_)
  · exact⟨Nat.zero_le _,Nat.le_refl _,by omega,by omega⟩
  · exact cW rfl
  ·
   rintro ⟨k,a⟩ hC
   obtain ⟨h1,h2,h3,h4⟩:=hC
   refine aC (fun K8 hK8=>(aC (fun K9 hK9=>(aB (aE aA 4 rfl (aD (hK9 _ (aO rfl (fun hc2=>?_) (fun hc2=>?_)))))))))
   ·
    simp only[bs] at hc2
    refine aP (hK8 _ (aC (fun K10 hK10=>(aR (aC (fun K11 hK11=>(dM hf bN (by kernel_rfl) rfl (bG aA 3 rfl ?_))))))))
    refine bX [(21,_),(22,_)] rfl rfl ⟨⟨rfl,rfl⟩,⟨rfl,rfl⟩,trivial⟩ rfl (bA rfl rfl lL eL (by first | exact ixm (by omega) | assumption | exact⟨by decide,rfl⟩)) ?_
    refine bG aA 1 rfl (cC [(20,_),(24,_)] rfl rfl ⟨⟨rfl,rfl⟩,⟨rfl,rfl⟩,trivial⟩ rfl (aQ rfl rfl aBy rfl (aE6 s l[k])) (bG aA 1 rfl (dQ [0,3,5,6,26] rfl rfl rfl (hK11 _ (aO rfl (fun hc3=>?_) (fun hc3=>?_))))))
    ·
     simp only[bs] at hc3
     refine aB (aE aA 1 rfl ?_)
     refine aH rfl (bS rfl rfl (by omega) (by omega)) ?_
     refine aE aA 1 rfl ?_
     refine bL ?_
     refine hK10 _ (aB (aE aA 1 rfl ?_))
     refine aH rfl (bS rfl rfl (by omega) (by omega)) ?_
     refine aE aA 1 rfl (aD ?_)
     exact⟨(k+1,k+1),⟨by omega,Nat.le_refl _,by omega,fun z hz _=>by rw[Nat.add_sub_cancel,List.getElem?_eq_getElem (by omega)] at hz; cases hz; have:=cmpS_tri.swap l[k] s; omega⟩,by simp only; omega,lE ⟨rfl,rfl,rfl,rfl,trivial⟩⟩
    ·
     simp only[bs] at hc3
     refine aP (hK10 _ (aB (aE aA 1 rfl ?_)))
     refine aH rfl (bS rfl rfl (by omega) (by omega)) ?_
     refine aE aA 1 rfl (aD ?_)
     exact⟨(k+1,a),⟨by omega,by omega,fun j hj h5 h6=>by
      by_cases e:j=k
      · subst e; have:=cmpS_tri.swap l[j] s; omega
      · exact h3 j hj h5 (by omega),h4⟩,by simp only; omega,lE ⟨rfl,rfl,rfl,rfl,trivial⟩⟩
   ·
    simp only[bs] at hc2
    refine bF (hK6 _ (aC (fun K12 hK12=>(aB ?_))))
    have hins:=aCt s l a (by omega) (fun j hj h5=>h3 j hj h5 (by omega)) (fun h0 h=>h4 _ (List.getElem?_eq_getElem h) h0)
    refine cP hf rfl rfl rfl oS rfl rfl rfl rfl (l2 rfl) ?_
    refine aE aA 2 rfl (aH rfl (dL rfl lL eL rfl (iR rfl (by omega)) (by omega) (by simp only[List.length_map,Int.toNat_natCast] <;> omega) (iQ (k:=a) (by omega))) ?_)
    refine bZ hf rfl oS rfl rfl rfl (.inl rfl) (by first | rfl | (simp only[List.length_append,List.length_map,List.length_cons,List.length_nil,List.length_take] <;> omega)) rfl (by first | rfl | simp [eB,bV]) (by first | (simp only[maxLen,List.length_map,List.length_append,List.length_cons,List.length_nil]; omega) | (simp [maxLen] <;> omega)) (by first | (simp only[List.length_map,List.length_append,List.length_cons,List.length_nil]; omega) | (simp <;> omega)) ?_
    refine bM (dY [0,3,5,33] rfl) (aE aA 1 rfl (aD (hK12 _ (aC (fun K13 hK13=>(aB (aE aA 2 rfl (aM hf rfl (bD oS rfl rfl rfl rfl (l2 rfl)) (bZ hf rfl oS rfl rfl rfl (.inl rfl) (by first | rfl | (simp only[List.length_append,List.length_map,List.length_cons,List.length_nil,List.length_take] <;> omega)) rfl (by first | rfl | simp [eB,bV]) (by first | (simp only[maxLen,List.length_map,List.length_append,List.length_cons,List.length_nil]; omega) | (simp [maxLen] <;> omega)) (by first | (simp only[List.length_map,List.length_append,List.length_cons,List.length_nil]; omega) | (simp <;> omega)) ?_)))))))))
    refine bM (dY [0,5,37] rfl) (aE aA 1 rfl (aD (hK13 _ (aC (fun K14 hK14=>(aB (aE aA 3 rfl (aH rfl (dL rfl lL eL (iR rfl (by omega)) rfl (by simp only[List.length_map,Int.toNat_natCast] <;> omega) (by omega) (fU (k:=a) (by omega))) ?_))))))))
    refine bZ hf rfl oS rfl rfl rfl (.inl rfl) (by first | rfl | (simp only[List.length_append,List.length_map,List.length_cons,List.length_nil,List.length_take] <;> omega)) rfl (by first | rfl | simp [eB,bV]) (by first | (simp only[maxLen,List.length_map,List.length_append,List.length_cons,List.length_nil]; omega) | (simp [maxLen] <;> omega)) (by first | (simp only[List.length_map,List.length_append,List.length_cons,List.length_nil]; omega) | (simp <;> omega)) ?_
    refine bM (dY [42] rfl) (aE aA 1 rfl (aD (hK14 _ (aN ?_))))
    refine⟨_,rfl,?_⟩
    refine(cE (g:=29) rfl ?_).trans ?_
    · simp only[List.length_append,List.length_map,List.length_cons,List.length_nil,List.length_take]
    · rw[iU,if_neg (by omega),hins]; first | (simp; done) | (simp; rfl)
end Go.Proofs.YtijnkglkchhomaaGreat
set_option linter.unusedVariables false
set_option linter.unusedSimpArgs false
namespace Go.Proofs.YtijnkglkchhomaaGreat
open Go Go.Abs
theorem oM (s:Sta) (u:ByteArray) (x:cB) (hz:SzS 140737488355200 s) (hr:cX cZ s.usr) :DenX Tryz.prog 90 [.agg (eX s E0 E1),.s (.string u),.agg (stC x)] [(E0,.buf 2 (s.usr.map usC)),(E1,.buf 2 (s.tmb.map tmC))] (fun r m=>r=.agg (eX (eC s u x) E0 E1)∧m=[(E0,.buf 2 ((eC s u x).usr.map usC)),(E1,.buf 2 ((eC s u x).tmb.map tmC))]):=by
 have z1:=hz.o
 have z2:=hz.u
 have z3:=hz.b
 have z4:=hz.t
 have hlm:(s.usr.map usC).length=s.usr.length:=List.length_map _
 have hpl:=yN (key:=cZ) s.usr u
 refine jD [(E0,G0),(E1,G1)] Tryz.func90 rfl (Nat.le_of_ble_eq_true rfl) (args':=[.agg (eX s G0 G1),.s (.string u),.agg (stC x)]) (m':=[(G0,.buf 2 (s.usr.map usC)),(G1,.buf 2 (s.tmb.map tmC))]) rfl rfl (by decide) (by decide) rfl (fun w0 o0 A hf=>?_)
 refine aC (fun K1 hK1=>(aB (kD hf rfl rfl rfl rfl (l1 rfl) ?_)))
 refine aM hf rfl (cT rfl rfl (lf rfl)) (aX hf rfl rfl rfl bB (aD (hK1 _ (aC (fun K2 hK2=>(aC (fun K3 hK3=>(aB (aE aA 2 rfl (aM hf rfl (aQ rfl rfl rY rfl (yO x.1)) (aD (hK3 _ (aO rfl (fun hc1=>?_) (fun hc1=>?_))))))))))))))
 ·
  simp only[bs] at hc1
  refine aC (fun K4 hK4=>(aB (aH rfl (cD (cs':=eX s G0 G1) rfl pH cM rfl rfl rfl) (aZ hf rfl rfl cM rfl rfl (l1 rfl) (l4 rfl) rfl (aD (hK4 _ (aN ?_)))))))
  rw[iT (by assumption)]
  exact⟨_,[(E0,G0),(E1,G1)],_,Le.refl _,by decide,rfl,rfl,⟨rfl,rfl⟩⟩
 ·
  simp only[bs] at hc1
  have hx:¬ x.1.2≤x.1.1:=by simpa using hc1
  refine aP (hK2 _ (aC (fun K5 hK5=>(aB (aE aA 3 rfl (aM hf rfl (tI rfl rfl (by show [AV.conv _ _,_,_]=_; rw[cE (g:=G0) rfl rfl]; rfl) aFj (aC4 s.usr u (by omega) hr) rfl) ?_))))))
  refine aE aA 5 rfl (aD (hK5 _ (aC (fun K6 hK6=>(aC (fun K7 hK7=>(aB (aE aA 1 rfl (aD (hK7 _ (aO rfl (fun hc2=>?_) (fun hc2=>?_))))))))))))
  ·
   obtain ⟨hk,he⟩:=aAd hr (show mI cZ s.usr u=true by assumption)
   refine aC (fun K8 hK8=>(iS hf (L:=#[true,true,true,true,true,true,true,true,true,true,true,true,true,false]) 13 1 bN (by kernel_rfl) rfl (by kernel_rfl) rfl ?_))
   refine bG aA 6 rfl ?_
   refine bX [(25,_),(26,_)] rfl rfl ⟨⟨rfl,rfl⟩,⟨rfl,rfl⟩,trivial⟩ rfl (cN rfl rfl fB dX (by omega)) ?_
   refine bG aA 1 rfl (bX [(28,_)] rfl rfl ⟨⟨rfl,rfl⟩,trivial⟩ rfl (aD7 rfl aLv rfl ((aKa (by omega) hk 1).trans rfl)) (bG aA 1 rfl (cC [(29,_),(30,_)] rfl rfl ⟨⟨rfl,rfl⟩,⟨rfl,rfl⟩,trivial⟩ rfl (aQ rfl rfl xQ rfl (aFb s.usr[dS cZ s.usr u].2 x (by have:=hz.y _ (List.getElem_mem hk); omega))) ?_)))
   refine bX [(22,_),(23,_)] rfl rfl ⟨⟨rfl,rfl⟩,⟨rfl,rfl⟩,trivial⟩ rfl (cN rfl rfl fB dX (by omega)) ?_
   refine bG aA 1 rfl (uR [3,6,31,33] rfl rfl rfl ?_)
   refine aG 13 [] (by kernel_rfl) ⟨?_,trivial⟩
   ·
    refine⟨_,rfl,rfl,(ao rfl (aZ hf rfl rfl vL rfl rfl (by simp [AV.cells,AV.one,Value.oneCell']) (by simp [AV.cells,AV.leaf,Value.oneCell']) (iK (c:=2) (k:=dS cZ s.usr u) (f:=1) (enc:=usC) (v:=(s.usr[dS cZ s.usr u].1,iU s.usr[dS cZ s.usr u].2 x)) (by omega) hk rfl (Nat.le_of_ble_eq_true rfl)) ?_))⟩
    refine aF (dB (by kernel_rfl) ?_)
    refine hK8 _ (aC (fun K9 hK9=>(aB ?_)))
    rw[aQx hr (by assumption) hx hk,show eX s G0 G1=eX (eC s u x) G0 G1 from by simp only[eX,eC]; rw[show ((mN s.usr u x).map usC).length=(s.usr.map usC).length from by rw[← aQx hr (by assumption) hx hk,List.length_map,List.length_map,List.length_set]]]
    refine aH rfl (cD (cs':=eX (eC s u x) G0 G1) rfl pH cM rfl rfl rfl) (aZ hf rfl rfl cM rfl rfl (l1 rfl) (l4 rfl) rfl (aD (hK9 _ (aN ?_))))
    exact⟨_,[(E0,G0),(E1,G1)],_,Le.refl _,by decide,rfl,rfl,⟨rfl,rfl⟩⟩
  ·
   have hno:mI cZ s.usr u=false:=by simp_all
   refine aHi (lU (nee G0) (sl':=[(1,_),(3,_),(5,_),(6,_),(7,_)]) (m':=[(6,.box [.s (.int .i64 0),.s (.int .i64 0),.s (.slice none 0 0),.s (.slice none 0 0),.s (.slice none 0 0),.s (.slice none 0 0)]),(3,.box [.s (.int .i64 s.now),.s (.int .i64 s.hor),.sl 4 (s.opn.map seC),.sl 2 (s.usr.map usC),.sl 4 (s.sub.map enC),.own G1 2 0 (s.tmb.map tmC).length]),(G1,.buf 2 (s.tmb.map tmC))]) ⟨⟨_,rfl,rfl⟩,⟨_,rfl,rfl⟩,⟨_,rfl,rfl⟩,⟨_,rfl,rfl⟩,⟨_,rfl,rfl⟩,trivial⟩ (Eq.trans (show _=[(6,AM.box [.s (.int .i64 0),.s (.int .i64 0),.s (.slice none 0 0),.s (.slice none 0 0),.s (.slice none 0 0),.s (.slice none 0 0)]),(3,.box [.s (.int .i64 s.now),.s (.int .i64 s.hor),.sl 4 (s.opn.map seC),AV.only (nee G0) [(6,.box [.s (.int .i64 0),.s (.int .i64 0),.s (.slice none 0 0),.s (.slice none 0 0),.s (.slice none 0 0),.s (.slice none 0 0)]),(3,.box (eX s G0 G1)),(G0,.buf 2 (s.usr.map usC)),(G1,.buf 2 (s.tmb.map tmC))] (.own G0 2 0 (s.usr.map usC).length),.sl 4 (s.sub.map enC),.own G1 2 0 (s.tmb.map tmC).length]),(G1,.buf 2 (s.tmb.map tmC))] from rfl) (by rw[qL (ok:=nee G0) (g:=G0) rfl rfl rfl]))) ?_
   refine aP (hK6 _ (aC (fun K10 hK10=>(iS hf (L:=#[true,true,true,true,true,true,true,true,true,true,true,true,true,true,false,false,false]) 14 3 bN (by kernel_rfl) rfl (by kernel_rfl) rfl ?_))))
   refine bG aA 3 rfl (bX [(36,_),(37,_)] rfl rfl ⟨⟨rfl,rfl⟩,⟨rfl,rfl⟩,trivial⟩ rfl (dL rfl fB dX rfl (iR rfl (by omega)) (by omega) (by omega) (iQ (by omega))) (bG aA 2 rfl (cC [(40,_)] rfl rfl ⟨⟨rfl,rfl⟩,trivial⟩ rfl (bD jQ rfl rfl rfl rfl (l2 rfl)) (bX [(39,_),(41,_)] rfl rfl ⟨⟨rfl,rfl⟩,⟨rfl,rfl⟩,trivial⟩ rfl (cK rfl oN aFd (l3 rfl) rfl) (cC [(42,_)] rfl rfl ⟨⟨rfl,rfl⟩,trivial⟩ rfl (bD nP rfl rfl rfl rfl (l2 rfl)) (bG aA 3 rfl (bX [(45,_),(46,_)] rfl rfl ⟨⟨rfl,rfl⟩,⟨rfl,rfl⟩,trivial⟩ rfl (dL rfl fB dX (iR rfl (by omega)) rfl (by omega) (by omega) (fU (by omega))) ?_)))))))
   refine cC [(38,_),(43,_),(47,_)] rfl rfl ⟨⟨rfl,rfl⟩,⟨rfl,rfl⟩,⟨rfl,rfl⟩,trivial⟩ rfl (bD aP8 rfl rfl rfl rfl (l2 rfl)) (uR [3,6,48] rfl rfl rfl ?_)
   refine aG 14 [] (by kernel_rfl) ⟨?_,trivial⟩
   ·
    refine⟨_,rfl,rfl,(ao rfl (iP hf rfl rfl rfl rfl rfl aM5 rfl (aJd [s.usr.take (dS cZ s.usr u),[(u,[x])],s.usr.drop (dS cZ s.usr u)] (by simp) (by simp only[List.flatten_cons,List.flatten_nil,List.length_append,List.length_take,List.length_drop,List.length_cons,List.length_nil]; omega)) ?_))⟩
    rintro _ rfl
    refine aF (aG 15 [] (by kernel_rfl) ⟨?_,trivial⟩)
    ·
     refine⟨_,rfl,rfl,(ao rfl (aE aA 1 rfl (aF (aG 16 [] (by kernel_rfl) ⟨?_,trivial⟩))))⟩
     ·
      refine⟨_,rfl,rfl,(ao rfl (aZ hf rfl rfl rG rfl rfl (l1 rfl) (l4 rfl) rfl (aF (dB (by kernel_rfl) ?_))))⟩
      refine hK10 _ (aC (fun K11 hK11=>(aB ?_)))
      rw[aUu hr hno hx]
      refine aH rfl (cD (cs':=eX (eC s u x) 49 G1) rfl pH cM rfl rfl rfl) (aZ hf rfl rfl cM rfl rfl (l1 rfl) (l4 rfl) rfl (aD (hK11 _ (aN ?_))))
      exact⟨_,[(E0,49),(E1,G1)],_,Le.refl _,by decide,rfl,rfl,⟨rfl,rfl⟩⟩
end Go.Proofs.YtijnkglkchhomaaGreat
set_option linter.unusedVariables false
set_option linter.unusedSimpArgs false
namespace Go.Proofs.YtijnkglkchhomaaGreat
open Go Go.Abs
theorem aAx (l:List Se) (u:ByteArray) (t:Int) (hl:l.length*40+40≤140737488355328) :Den Tryz.prog 70 [.sl 4 (l.map seC),.s (.string u),.s (.int .i64 t)]  (·=.sl 4 ((hY l u t).map stC)):=by
 refine aY Tryz.func70 rfl (Nat.le_of_ble_eq_true rfl) (fun w0 A hf=>(aC (fun K1 hK1=>(aB (aH rfl (bR) (aD (hK1 _ (aC (fun K2 hK2=>(aB (jT hf 4 rfl rfl rfl (aD (hK2 _ (aC (fun K3 hK3=>(aC (fun K4 hK4=>?_)))))))))))))))))
 refine aB (aE aA 3 rfl (aD (hK4 _ (aR (bY (ι:=Nat×List cB) (fun(⟨k,out⟩:Nat×List cB)=>⟨38,[(1,.s (.string u)),(2,.s (.int .i64 t)),(7,.own 7 4 0 out.length),(11,.sl 4 (l.map seC)),(12,.s (.int .i64 ((l.map seC).length:Nat))),(13,.s (.int .i64 (k:Nat)))],[(7,.buf 4 (out.map stC))]⟩) (fun(⟨k,out⟩:Nat×List cB)=>k≤l.length∧out=mH (l.take k) u t∧out.length≤k) (fun(⟨k,out⟩:Nat×List cB)=>l.length - k) (0,[]) ?_ ?_ ?_)))))
 · exact⟨Nat.zero_le _,rfl,Nat.le_refl _⟩
 · exact cW rfl
 ·
  rintro ⟨k,out⟩ hC
  obtain ⟨h1,h2,h3⟩:=hC
  refine aC (fun K5 hK5=>(aB (aE aA 1 rfl (aD (hK5 _ (aC (fun K6 hK6=>(aO rfl (fun hc1=>?_) (fun hc1=>?_)))))))))
  ·
   simp only[bs,gG] at hc1
   refine aP (hK6 _ (aC (fun K7 hK7=>(aR (aC (fun K8 hK8=>(aB ?_)))))))
   refine aH rfl (bA rfl rfl eP dO (by first | exact ixm (by omega) | assumption | exact⟨by decide,rfl⟩)) ?_
   refine aE aA 1 rfl (cF hf rfl pZ rfl dO rfl rfl rfl rfl (lf rfl) (aD (hK8 _ (aC (fun K9 hK9=>(aB (aE aA 2 rfl (aM hf rfl (aQ rfl rfl vJ rfl (wY l[k] t)) (cF hf rfl eY rfl bH rfl rfl rfl rfl (lf rfl) (aD (hK9 _ (aC (fun K10 hK10=>(aB ?_))))))))))))))
   refine aE aA 5 rfl (bC rfl rfl rfl (fun hg2=>?_) (fun hg2=>?_))
   ·
    simp only[bs,gG] at hg2
    refine aH rfl (bQ rfl aI4 aAu rfl) ?_
    refine aE aA 1 rfl (bP rfl rfl rfl (aM hf rfl (aQ rfl rfl rY rfl (yO (gG l[k] t).1)) (aE aA 2 rfl (aD (hK10 _ (aO rfl (fun hc3=>?_) (fun hc3=>?_)))))))
    ·
     simp only[bs,gG] at hc3
     refine aB (aE aA 2 rfl (aM hf rfl (bD jQ rfl rfl rfl rfl (l2 rfl)) (bZ hf rfl jQ rfl rfl rfl (.inl rfl) (by rw[List.length_map]) rfl (by first | rfl | simp [eB,bV]) (by first | (simp only[maxLen,List.length_map,List.length_append,List.length_cons,List.length_nil]; omega) | (simp [maxLen] <;> omega)) (by first | (simp only[List.length_map,List.length_append,List.length_cons,List.length_nil]; omega) | (simp <;> omega)) ?_)))
     refine bM (dY [1,2,11,12,13,33] rfl) (aE aA 1 rfl ?_)
     refine bL ?_
     refine hK7 _ (aB ?_)
     refine aH rfl (bS rfl rfl (by omega) (by omega)) ?_
     refine aE aA 1 rfl (aD ?_)
     exact⟨(k+1,out++[gG l[k] t]),⟨by omega,by rw[h2,mH,mH,wX _ _ k (by omega),if_pos ⟨(show pS u l[k]=true from by simp_all[pS,toList_inj]),by first | omega | exact of_decide_eq_false hc3⟩],by rw[List.length_append]; simp only[List.length_cons,List.length_nil]; omega⟩,by simp only; omega,cJ ⟨rfl,rfl,(by first | rfl | (rw[List.length_append]; rfl)),rfl,rfl,rfl,trivial⟩ (by rw[List.map_append]; rfl)⟩
    ·
     simp only[bs,gG] at hc3
     refine aP (hK7 _ (aB ?_))
     refine aH rfl (bS rfl rfl (by omega) (by omega)) ?_
     refine aE aA 1 rfl (aD ?_)
     exact⟨(k+1,out),⟨by omega,by rw[h2,mH,mH,wX _ _ k (by omega),if_neg (by first | exact(fun hh=>(show ¬ pS u l[k]=true from by simp_all[pS,toList_inj]) hh.1) | (rintro ⟨_,hh⟩; exact hh (by first | omega | exact of_decide_eq_true hc3))),List.append_nil],by omega⟩,by simp only; omega,cJ ⟨rfl,rfl,(by first | rfl | (rw[List.length_append]; rfl)),rfl,rfl,rfl,trivial⟩ rfl⟩
   ·
    simp only[bs,gG] at hg2
    refine aE aA 4 rfl (aD (hK10 _ (bJ rfl (aP (hK7 _ (aB ?_))))))
    refine aH rfl (bS rfl rfl (by omega) (by omega)) ?_
    refine aE aA 1 rfl (aD ?_)
    exact⟨(k+1,out),⟨by omega,by rw[h2,mH,mH,wX _ _ k (by omega),if_neg (by first | exact(fun hh=>(show ¬ pS u l[k]=true from by simp_all[pS,toList_inj]) hh.1) | (rintro ⟨_,hh⟩; exact hh (by first | omega | exact of_decide_eq_true hc3))),List.append_nil],by omega⟩,by simp only; omega,cJ ⟨rfl,rfl,(by first | rfl | (rw[List.length_append]; rfl)),rfl,rfl,rfl,trivial⟩ rfl⟩
  ·
   simp only[bs,gG] at hc1
   refine bF (hK3 _ (aC (fun K11 hK11=>(aB (aE aA 1 rfl (iD hf 7 rfl rfl rfl rfl rfl aNi (yE aB0 cmpS_tri (fun x y=>aLj x y) out _ rfl (by omega)) ?_))))))
   rintro r zs ⟨t0,ht1,ht2,rfl⟩
   refine aD (hK11 _ (aC (fun K12 hK12=>(aB (aE aA 2 rfl (aD (hK12 _ (aN ?_))))))))
   refine⟨_,rfl,?_⟩
   refine(cE (g:=7) rfl (by rw[List.length_map,ht1.length_eq])).trans ?_
   rw[hY,aTa ht1 ht2,h2,List.take_of_length_le (by omega)]
end Go.Proofs.YtijnkglkchhomaaGreat
set_option linter.unusedVariables false
set_option linter.unusedSimpArgs false
namespace Go.Proofs.YtijnkglkchhomaaGreat
open Go Go.Abs
theorem aN4 (a b:List Se) (ha:a.length≤9223372036854775807) (hb:b.length≤9223372036854775807) :Den Tryz.prog 80 [.sl 4 (a.map seC),.sl 4 (b.map seC)]  (·=.s (.bool (decide (a=b)))):=by
 refine aY Tryz.func80 rfl (Nat.le_of_ble_eq_true rfl) (fun w0 A hf=>(aC (fun K1 hK1=>(aB (aE aA 1 rfl (aD (hK1 _ (aC (fun K2 hK2=>(aB (aE aA 2 rfl (aM hf rfl (aQ rfl rfl aNg rfl (aNt a b ha hb)) (aE aA 1 rfl (aD (hK2 _ ?_)))))))))))))))
 refine aN ?_
 refine⟨_,rfl,?_⟩
 rfl
theorem aFz (a b:List Se) (ha:a.length≤9223372036854775807) (hb:b.length≤9223372036854775807) :Den Tryz.prog 58 [.sl 4 (a.map seC),.sl 4 (b.map seC)]  (·=.s (.bool (decide (a=b)))):=by
 refine aY Tryz.func58 rfl (Nat.le_of_ble_eq_true rfl) (fun w0 A hf=>(aC (fun K1 hK1=>(aB (aE aA 1 rfl (aD (hK1 _ (aC (fun K2 hK2=>(aC (fun K3 hK3=>(aB (aE aA 5 rfl (aD (hK3 _ (aO rfl (fun hc1=>?_) (fun hc1=>?_)))))))))))))))))
 ·
  simp only[bs] at hc1
  refine aC (fun K4 hK4=>(aB (aE aA 1 rfl (aD (hK4 _ (aN ?_))))))
  refine⟨_,rfl,?_⟩
  refine aS ?_
  rw[nH (by omega)]
 ·
  simp only[bs] at hc1
  refine aP (hK2 _ (aC (fun K5 hK5=>(aC (fun K6 hK6=>(aB (aE aA 1 rfl (aD (hK6 _ (aR (bY (ι:=Nat) (fun k=>⟨26,[(0,.sl 4 (a.map seC)),(1,.sl 4 (b.map seC)),(5,.s (.int .i64 (k:Nat)))],[]⟩) (fun k=>k≤a.length∧a.take k=b.take k) (fun k=>a.length - k) 0 ?_ ?_ ?_)))))))))))
  · exact⟨Nat.zero_le _,rfl⟩
  · exact cW rfl
  ·
   rintro k hC
   obtain ⟨h1,h2⟩:=hC
   refine aC (fun K7 hK7=>(aC (fun K8 hK8=>(aB (aE aA 4 rfl (aD (hK8 _ (aO rfl (fun hc2=>?_) (fun hc2=>?_)))))))))
   ·
    simp only[bs] at hc2
    refine aP (hK7 _ (aC (fun K9 hK9=>(aR (aC (fun K10 hK10=>(dM hf bN (by kernel_rfl) rfl (bG aA 2 rfl ?_))))))))
    refine bX [(17,_),(18,_)] rfl rfl ⟨⟨rfl,rfl⟩,⟨rfl,rfl⟩,trivial⟩ rfl (bA rfl rfl fS eH (by first | exact ixm (by omega) | assumption | exact⟨by decide,rfl⟩)) ?_
    refine bG aA 3 rfl ?_
    refine bX [(21,_),(22,_)] rfl rfl ⟨⟨rfl,rfl⟩,⟨rfl,rfl⟩,trivial⟩ rfl (bA rfl rfl fS eH (by first | exact ixm (by omega) | assumption | exact⟨by decide,rfl⟩)) ?_
    refine bG aA 1 rfl (bX [(20,_),(24,_)] rfl rfl ⟨⟨rfl,rfl⟩,⟨rfl,rfl⟩,trivial⟩ rfl (pP rfl rfl aU0 rfl) ?_)
    rw[aTe]
    refine dQ [0,1,5,25] rfl rfl rfl (hK10 _ (aO rfl (fun hc3=>?_) (fun hc3=>?_)))
    ·
     simp only[bs] at hc3
     refine aC (fun K11 hK11=>(aB (aE aA 1 rfl (aD (hK11 _ (aN ?_))))))
     refine⟨_,rfl,?_⟩
     refine aS ?_
     rw[lG (by omega) (by omega) (by assumption)]
    ·
     simp only[bs] at hc3
     refine aP (hK9 _ (aB (aE aA 1 rfl ?_)))
     refine aH rfl (bS rfl rfl (by omega) (by omega)) ?_
     refine aE aA 1 rfl (aD ?_)
     exact⟨k+1,⟨by omega,jC (by omega) (by omega) h2 (by assumption)⟩,by omega,cW rfl⟩
   ·
    simp only[bs] at hc2
    refine bF (hK5 _ (aC (fun K12 hK12=>(aB (aE aA 1 rfl (aD (hK12 _ (aN ?_))))))))
    refine⟨_,rfl,?_⟩
    refine aS ?_
    rw[kK (by omega) (by omega) h2]
theorem fG (l:List Se) (hl:l.length*40+40≤140737488355328) :Den Tryz.prog 51 [.sl 4 (l.map seC)]  (·=.sl 4 (l.map seC)):=by
 refine aY Tryz.func51 rfl (Nat.le_of_ble_eq_true rfl) (fun w0 A hf=>(aC (fun K1 hK1=>(aB (aH rfl (bR) (aD (hK1 _ (aC (fun K2 hK2=>(aB (jT hf 4 rfl rfl rfl (aD (hK2 _ (aC (fun K3 hK3=>(aC (fun K4 hK4=>?_)))))))))))))))))
 refine aB (aE aA 3 rfl (aD (hK4 _ (aR (bY (ι:=Nat) (fun k=>⟨18,[(3,.own 3 4 0 (l.take k).length),(6,.sl 4 (l.map seC)),(7,.s (.int .i64 ((l.map seC).length:Nat))),(8,.s (.int .i64 (k:Nat)))],[(3,.buf 4 ((l.take k).map seC))]⟩) (fun k=>k≤l.length) (fun k=>l.length - k) 0 ?_ ?_ ?_)))))
 · exact Nat.zero_le _
 · exact cW rfl
 ·
  rintro k hC
  refine aC (fun K5 hK5=>(aB (aE aA 1 rfl (aD (hK5 _ (aC (fun K6 hK6=>(aO rfl (fun hc1=>?_) (fun hc1=>?_)))))))))
  ·
   simp only[bs] at hc1
   refine aP (hK6 _ (aC (fun K7 hK7=>(aR (aC (fun K8 hK8=>(aB ?_)))))))
   refine aH rfl (bA rfl rfl fS eH (by first | exact ixm (by omega) | assumption | exact⟨by decide,rfl⟩)) ?_
   refine aE aA 1 rfl (cF hf rfl oB rfl eH rfl rfl rfl rfl (lf rfl) (aD (hK8 _ (aB ?_))))
   have htl:(l.take k).length=k:=by rw[List.length_take]; omega
   refine aE aA 2 rfl (aM hf rfl (bD mB rfl rfl rfl rfl (l2 rfl)) (bZ hf rfl mB rfl rfl rfl (.inl rfl) (by rw[List.length_map]) rfl (by first | rfl | simp [eB,bV]) (by first | (simp only[maxLen,List.length_map,List.length_append,List.length_cons,List.length_nil]; omega) | (simp [maxLen] <;> omega)) (by first | (simp only[List.length_map,List.length_append,List.length_cons,List.length_nil]; omega) | (simp <;> omega)) ?_))
   refine bM (dY [6,7,8,15] rfl) (aE aA 1 rfl ?_)
   refine bL ?_
   refine hK7 _ (aB ?_)
   refine aH rfl (bS rfl rfl (by omega) (by omega)) ?_
   refine aE aA 1 rfl (aD ?_)
   exact⟨k+1,by omega,by omega,cJ ⟨(by rw[iH l k (by omega)]; rfl),rfl,rfl,rfl,trivial⟩ (by rw[jK l seC k (by omega)]; rfl)⟩
  ·
   simp only[bs] at hc1
   refine bF (hK3 _ (aC (fun K9 hK9=>(aB (aE aA 2 rfl (aD (hK9 _ (aN ?_))))))))
   refine⟨_,rfl,?_⟩
   refine(cE (g:=3) rfl (by rw[List.length_map])).trans ?_
   rw[List.take_of_length_le (by omega)]
theorem fF (l:List Se) (hl:l.length*40+40≤140737488355328) :Den Tryz.prog 60 [.sl 4 (l.map seC)]  (·=.sl 4 (l.map seC)):=by
 refine aY Tryz.func60 rfl (Nat.le_of_ble_eq_true rfl) (fun w0 A hf=>(aC (fun K1 hK1=>(aB (aH rfl (bR) (aD (hK1 _ (aC (fun K2 hK2=>(aB (jT hf 4 rfl rfl rfl (aD (hK2 _ (aC (fun K3 hK3=>(aC (fun K4 hK4=>?_)))))))))))))))))
 refine aB (aE aA 3 rfl (aD (hK4 _ (aR (bY (ι:=Nat) (fun k=>⟨18,[(3,.own 3 4 0 (l.take k).length),(6,.sl 4 (l.map seC)),(7,.s (.int .i64 ((l.map seC).length:Nat))),(8,.s (.int .i64 (k:Nat)))],[(3,.buf 4 ((l.take k).map seC))]⟩) (fun k=>k≤l.length) (fun k=>l.length - k) 0 ?_ ?_ ?_)))))
 · exact Nat.zero_le _
 · exact cW rfl
 ·
  rintro k hC
  refine aC (fun K5 hK5=>(aB (aE aA 1 rfl (aD (hK5 _ (aC (fun K6 hK6=>(aO rfl (fun hc1=>?_) (fun hc1=>?_)))))))))
  ·
   simp only[bs] at hc1
   refine aP (hK6 _ (aC (fun K7 hK7=>(aR (aC (fun K8 hK8=>(aB ?_)))))))
   refine aH rfl (bA rfl rfl eP dO (by first | exact ixm (by omega) | assumption | exact⟨by decide,rfl⟩)) ?_
   refine aE aA 1 rfl (cF hf rfl pZ rfl dO rfl rfl rfl rfl (lf rfl) (aD (hK8 _ (aB ?_))))
   have htl:(l.take k).length=k:=by rw[List.length_take]; omega
   refine aE aA 2 rfl (aM hf rfl (bD fO rfl rfl rfl rfl (l2 rfl)) (bZ hf rfl fO rfl rfl rfl (.inl rfl) (by rw[List.length_map]) rfl (by first | rfl | simp [eB,bV]) (by first | (simp only[maxLen,List.length_map,List.length_append,List.length_cons,List.length_nil]; omega) | (simp [maxLen] <;> omega)) (by first | (simp only[List.length_map,List.length_append,List.length_cons,List.length_nil]; omega) | (simp <;> omega)) ?_))
   refine bM (dY [6,7,8,15] rfl) (aE aA 1 rfl ?_)
   refine bL ?_
   refine hK7 _ (aB ?_)
   refine aH rfl (bS rfl rfl (by omega) (by omega)) ?_
   refine aE aA 1 rfl (aD ?_)
   exact⟨k+1,by omega,by omega,cJ ⟨(by rw[iH l k (by omega)]; rfl),rfl,rfl,rfl,trivial⟩ (by rw[jK l seC k (by omega)]; rfl)⟩
  ·
   simp only[bs] at hc1
   refine bF (hK3 _ (aC (fun K9 hK9=>(aB (aE aA 2 rfl (aD (hK9 _ (aN ?_))))))))
   refine⟨_,rfl,?_⟩
   refine(cE (g:=3) rfl (by rw[List.length_map])).trans ?_
   rw[List.take_of_length_le (by omega)]
theorem aFt (l:List Se) (u:ByteArray) (hl:l.length*40+40≤140737488355328) :Den Tryz.prog 133 [.sl 4 (l.map seC),.s (.string u)]  (·=.sl 4 ((l.filter (fun e=>!pS u e)).map seC)):=by
 refine aY Tryz.func133 rfl (Nat.le_of_ble_eq_true rfl) (fun w0 A hf=>(aC (fun K1 hK1=>(aB (aM hf rfl (cT rfl rfl (lf rfl)) (aH rfl (bR) (aD (hK1 _ (aC (fun K2 hK2=>(aB (aE aA 1 rfl (iP hf rfl rfl rfl rfl rfl jF rfl (jA l (by omega)) ?_)))))))))))))
 rintro _ rfl
 refine aH rfl (jB rfl) (iD hf 6 rfl rfl rfl rfl rfl aMv (aB3 aMu rfl (fun _=>rfl) (fun e=>pS u e) l _ (by rw[List.length_map]) (by omega) (fun x _=>aB5 x u)) ?_)
 rintro r zs ⟨rfl,rfl⟩
 refine aE aA 1 rfl (aD (hK2 _ (aN ?_)))
 refine⟨_,rfl,?_⟩
 exact cE (g:=6) rfl (by rw[List.length_map])
theorem zZ (l:List Se) (u:ByteArray) (hl:l.length*40+40≤140737488355328) :Den Tryz.prog 105 [.sl 4 (l.map seC),.s (.string u)]  (·=.sl 4 ((l.filter (fun e=>!pS u e)).map seC)):=by
 refine aY Tryz.func105 rfl (Nat.le_of_ble_eq_true rfl) (fun w0 A hf=>(aC (fun K1 hK1=>(aB (aH rfl (bR) (aD (hK1 _ (aC (fun K2 hK2=>(aB (jT hf 4 rfl rfl rfl (aD (hK2 _ (aC (fun K3 hK3=>(aC (fun K4 hK4=>?_)))))))))))))))))
 refine aB (aE aA 1 rfl (aD (hK4 _ (aR (bY (ι:=Nat×List Se) (fun(⟨k,out⟩:Nat×List Se)=>⟨28,[(0,.sl 4 (l.map seC)),(1,.s (.string u)),(5,.own 5 4 0 out.length),(6,.s (.int .i64 (k:Nat)))],[(5,.buf 4 (out.map seC))]⟩) (fun(⟨k,out⟩:Nat×List Se)=>k≤l.length∧out=(l.take k).filter (fun e=>!pS u e)∧out.length≤k) (fun(⟨k,out⟩:Nat×List Se)=>l.length - k) (0,[]) ?_ ?_ ?_)))))
 · exact⟨Nat.zero_le _,rfl,Nat.le_refl _⟩
 · exact cW rfl
 ·
  rintro ⟨k,out⟩ hC
  obtain ⟨h1,h2,h3⟩:=hC
  refine aC (fun K5 hK5=>(aC (fun K6 hK6=>(aB (aE aA 4 rfl (aD (hK6 _ (aO rfl (fun hc1=>?_) (fun hc1=>?_)))))))))
  ·
   simp only[bs] at hc1
   refine aP (hK5 _ (aC (fun K7 hK7=>(aR (aC (fun K8 hK8=>(aB (aE aA 2 rfl ?_))))))))
   refine aH rfl (bA rfl rfl fS eH (by first | exact ixm (by omega) | assumption | exact⟨by decide,rfl⟩)) ?_
   refine aE aA 4 rfl (aD (hK8 _ (aO rfl (fun hc2=>?_) (fun hc2=>?_))))
   ·
    simp only[bs] at hc2
    refine aB (aE aA 3 rfl ?_)
    refine aH rfl (bA rfl rfl fS eH (by first | exact ixm (by omega) | assumption | exact⟨by decide,rfl⟩)) ?_
    refine aE aA 1 rfl (aM hf rfl (bD fO rfl rfl rfl rfl (l2 rfl)) (bZ hf rfl fO rfl rfl rfl (.inl rfl) (by rw[List.length_map]) rfl (by first | rfl | simp [eB,bV]) (by first | (simp only[maxLen,List.length_map,List.length_append,List.length_cons,List.length_nil]; omega) | (simp [maxLen] <;> omega)) (by first | (simp only[List.length_map,List.length_append,List.length_cons,List.length_nil]; omega) | (simp <;> omega)) ?_))
    refine bM (dY [0,1,6,26] rfl) (aE aA 1 rfl ?_)
    refine bL ?_
    refine hK7 _ (aB (aE aA 1 rfl ?_))
    refine aH rfl (bS rfl rfl (by omega) (by omega)) ?_
    refine aE aA 1 rfl (aD ?_)
    exact⟨(k+1,out++[l[k]]),⟨by omega,by rw[h2,aT8 (by omega) (by simp_all[pS,toList_inj])],by rw[List.length_append]; simp only[List.length_cons,List.length_nil]; omega⟩,by simp only; omega,cJ ⟨rfl,rfl,(by rw[List.length_append]; rfl),rfl,trivial⟩ (by rw[List.map_append]; rfl)⟩
   ·
    simp only[bs] at hc2
    refine aP (hK7 _ (aB (aE aA 1 rfl ?_)))
    refine aH rfl (bS rfl rfl (by omega) (by omega)) ?_
    refine aE aA 1 rfl (aD ?_)
    exact⟨(k+1,out),⟨by omega,by rw[h2,aOv (by omega) (by simp_all[pS,toList_inj])],by omega⟩,by simp only; omega,cJ ⟨rfl,rfl,rfl,rfl,trivial⟩ rfl⟩
  ·
   simp only[bs] at hc1
   refine bF (hK3 _ (aC (fun K9 hK9=>(aB (aE aA 2 rfl (aD (hK9 _ (aN ?_))))))))
   refine⟨_,rfl,?_⟩
   refine(cE (g:=5) rfl (by rw[List.length_map])).trans ?_
   rw[h2,List.take_of_length_le (by omega)]
end Go.Proofs.YtijnkglkchhomaaGreat
set_option linter.unusedVariables false
set_option linter.unusedSimpArgs false
namespace Go.Proofs.YtijnkglkchhomaaGreat
open Go Go.Abs
theorem aRy (l:List En) (p:Pr) (t:Int) (hl:l.length*48+48≤140737488355328) :Den Tryz.prog 157 [.sl 4 (l.map enC),.agg (prC p),.s (.int .i64 t)]  (·=.tup [.sl 4 ((if onB l p then [] else gT l p t).map enC),.s (.int .i64 (if onB l p then 90 else 0))]):=by
 refine aY Tryz.func157 rfl (Nat.le_of_ble_eq_true rfl) (fun w0 A hf=>(aC (fun K1 hK1=>(aB (aM hf rfl (cT rfl rfl (lf rfl)) (aH rfl (bR) (aE aA 1 rfl (aD (hK1 _ (aC (fun K2 hK2=>(aC (fun K3 hK3=>(aB (aE aA 2 rfl (aM hf rfl (aQ rfl rfl aMk rfl (aKz _ _ (by omega))) ?_))))))))))))))))
 refine aD (hK3 _ (aO rfl (fun hc1=>?_) (fun hc1=>?_)))
 ·
  refine aC (fun K4 hK4=>(aB (aH rfl (rM (k:=4)) (aE aA 1 rfl (aD (hK4 _ (aN ?_)))))))
  refine⟨_,rfl,?_⟩
  rw[show onB l p=true by assumption]; rfl
 ·
  refine aP (hK2 _ (aC (fun K5 hK5=>(aB (aE aA 2 rfl (aH rfl (cK rfl wA tQ (l3 rfl) rfl) (aH rfl (cK rfl nK aFc (l3 rfl) rfl) (cF hf rfl nK rfl eK rfl rfl rfl rfl (lf rfl) (aD (hK5 _ (aC (fun K6 hK6=>(aB (aE aA 1 rfl ?_))))))))))))))
  refine aH rfl (jB rfl) (aM hf rfl (aQ rfl rfl vE rfl (qV aMj rfl (fun x=>decide (0<mF x (p,(t,1099511627776)))) l (by omega) (fun x _=>aOn x (p,(t,1099511627776))))) (aE aA 1 rfl (aD (hK6 _ (aC (fun K7 hK7=>(aC (fun K8 hK8=>(aB (aE aA 2 rfl (aD (hK8 _ (aO rfl (fun hc2=>?_) (fun hc2=>?_))))))))))))))
  ·
   simp only[bs] at hc2
   obtain ⟨k,hk⟩:∃ k:Nat,k=l.length:=⟨_,rfl⟩
   have hno:∀ x∈l,¬ 0<mF x (p,(t,1099511627776)):=by
     rcases dW (fun x=>decide (0<mF x (p,(t,1099511627776)))) l with ⟨_,h⟩ | ⟨k',_,e,_⟩
     · intro x hx; simpa using h x hx
     · exfalso; omega
   have hins:=yV (p,(t,1099511627776)) l k (by omega) (fun j hj _=>hno _ (List.getElem_mem hj)) (fun h=>by omega)
   refine aB (aE aA 2 rfl ?_)
   rw[List.length_map,← hk]
   refine aE aA 1 rfl (aD (hK7 _ (aC (fun K9 hK9=>(dM hf bN (by kernel_rfl) rfl (bG aA 2 rfl (bX [(24,_),(25,_)] rfl rfl ⟨⟨rfl,rfl⟩,⟨rfl,rfl⟩,trivial⟩ rfl (dL rfl gC eK rfl (iR rfl (by omega)) (by omega) (by simp only[List.length_map,Int.toNat_natCast] <;> omega) (iQ (k:=k) (by omega))) ?_)))))))
   refine bG aA 1 rfl (cC [(27,_)] rfl rfl ⟨⟨rfl,rfl⟩,trivial⟩ rfl (bD kM rfl rfl rfl rfl (l2 rfl)) (bG aA 2 rfl (bX [(29,_),(30,_)] rfl rfl ⟨⟨rfl,rfl⟩,⟨rfl,rfl⟩,trivial⟩ rfl (dL rfl gC eK (iR rfl (by omega)) rfl (by simp only[List.length_map,Int.toNat_natCast] <;> omega) (by omega) (fU (k:=k) (by omega))) ?_)))
   refine cC [(26,_),(28,_),(31,_)] rfl rfl ⟨⟨rfl,rfl⟩,⟨rfl,rfl⟩,⟨rfl,rfl⟩,trivial⟩ rfl (bD aFq rfl rfl rfl rfl (l2 rfl)) (cC [(32,_)] rfl rfl ⟨⟨rfl,rfl⟩,trivial⟩ rfl (aQ rfl rfl aBs rfl ((show Den Tryz.prog _ _ (·=.sl 4 ((l.take k++(p,(t,1099511627776))::l.drop k).map enC)) from (dI (aBc [l.take k,[(p,(t,1099511627776))],l.drop k] (by simp) (by simp only[List.flatten_cons,List.flatten_nil,List.length_append,List.length_take,List.length_drop,List.length_cons,List.length_nil]; omega))).mono fun r h=>h.trans (by simp)))) ?_)
   refine bG aA 2 rfl (dQ [6,7] rfl rfl rfl (hK9 _ (aN ?_)))
   refine⟨_,rfl,?_⟩
   rw[show onB l p=false from by first | assumption | (simp at *; assumption),← hins]; rfl
  ·
   simp only[bs] at hc2
   obtain ⟨k,hk,ek,hk1,hk2⟩:∃ k:Nat,∃ h:k<l.length,nQ (fun x=>decide (0<mF x (p,(t,1099511627776)))) l=(k:Nat)∧0<mF l[k] (p,(t,1099511627776))∧∀ (j:Nat) (hj:j<l.length),j<k→¬ 0<mF l[j] (p,(t,1099511627776)):=by
     rcases dW (fun x=>decide (0<mF x (p,(t,1099511627776)))) l with ⟨e,_⟩ | ⟨k',h1,e,h2,h3⟩
     · exfalso; omega
     · exact⟨k',h1,e,by simpa using h2,fun j hj hjk=>by simpa using h3 j hj hjk⟩
   rw[ek]
   have hins:=yV (p,(t,1099511627776)) l k (by omega) hk2 (fun _=>hk1)
   refine aP (hK7 _ (aC (fun K10 hK10=>(dM hf bN (by kernel_rfl) rfl (bG aA 2 rfl (bX [(24,_),(25,_)] rfl rfl ⟨⟨rfl,rfl⟩,⟨rfl,rfl⟩,trivial⟩ rfl (dL rfl gC eK rfl (iR rfl (by omega)) (by omega) (by simp only[List.length_map,Int.toNat_natCast] <;> omega) (iQ (k:=k) (by omega))) ?_))))))
   refine bG aA 1 rfl (cC [(27,_)] rfl rfl ⟨⟨rfl,rfl⟩,trivial⟩ rfl (bD kM rfl rfl rfl rfl (l2 rfl)) (bG aA 2 rfl (bX [(29,_),(30,_)] rfl rfl ⟨⟨rfl,rfl⟩,⟨rfl,rfl⟩,trivial⟩ rfl (dL rfl gC eK (iR rfl (by omega)) rfl (by simp only[List.length_map,Int.toNat_natCast] <;> omega) (by omega) (fU (k:=k) (by omega))) ?_)))
   refine cC [(26,_),(28,_),(31,_)] rfl rfl ⟨⟨rfl,rfl⟩,⟨rfl,rfl⟩,⟨rfl,rfl⟩,trivial⟩ rfl (bD aFq rfl rfl rfl rfl (l2 rfl)) (cC [(32,_)] rfl rfl ⟨⟨rfl,rfl⟩,trivial⟩ rfl (aQ rfl rfl aBs rfl ((show Den Tryz.prog _ _ (·=.sl 4 ((l.take k++(p,(t,1099511627776))::l.drop k).map enC)) from (dI (aBc [l.take k,[(p,(t,1099511627776))],l.drop k] (by simp) (by simp only[List.flatten_cons,List.flatten_nil,List.length_append,List.length_take,List.length_drop,List.length_cons,List.length_nil]; omega))).mono fun r h=>h.trans (by simp)))) ?_)
   refine bG aA 2 rfl (dQ [6,7] rfl rfl rfl (hK10 _ (aN ?_)))
   refine⟨_,rfl,?_⟩
   rw[show onB l p=false from by first | assumption | (simp at *; assumption),← hins]; rfl
end Go.Proofs.YtijnkglkchhomaaGreat
set_option linter.unusedVariables false
set_option linter.unusedSimpArgs false
namespace Go.Proofs.YtijnkglkchhomaaGreat
open Go Go.Abs
theorem of_den (e:En) (p:Pr) :Den Tryz.prog 214 [.agg (enC e),.agg (prC p)]  (·=.s (.bool (ofB p e))):=by
 refine aY Tryz.func214 rfl (Nat.le_of_ble_eq_true rfl) (fun w0 A hf=>(aC (fun K1 hK1=>(aB (aM hf rfl (cT rfl rfl (lf rfl)) (aM hf rfl (cT rfl rfl (lf rfl)) (aE aA 1 rfl (aD (hK1 _ (aC (fun K2 hK2=>(aB (aE aA 6 rfl (bC rfl rfl rfl (fun hg1=>?_) (fun hg1=>?_)))))))))))))))
 ·
  simp only[bs] at hg1
  refine aH rfl (bQ rfl aBf cU rfl) ?_
  refine aE aA 6 rfl (aD (hK2 _ (aN ?_)))
  refine⟨_,rfl,?_⟩
  refine aS ?_
  unfold ofB
  rw[Bool.eq_iff_iff]
  simp_all[Prod.ext_iff,toList_inj]
 ·
  simp only[bs] at hg1
  refine aE aA 6 rfl (aD (hK2 _ (aN ?_)))
  refine⟨_,rfl,?_⟩
  refine aS ?_
  unfold ofB
  rw[Bool.eq_iff_iff]
  simp_all[Prod.ext_iff,toList_inj]
theorem aE7 (a b:En) (h1:TS a.1.1) (h2:TS a.1.2) (h3:TS b.1.1) (h4:TS b.1.2) :Den Tryz.prog 93 [.agg (enC a),.agg (enC b)]  (·=.s (.bool (decide (mF a b<0)))):=by
 refine aY Tryz.func93 rfl (Nat.le_of_ble_eq_true rfl) (fun w0 A hf=>(aC (fun K1 hK1=>(aB (aM hf rfl (cT rfl rfl (lf rfl)) (aM hf rfl (cT rfl rfl (lf rfl)) (aE aA 1 rfl (aD (hK1 _ (aC (fun K2 hK2=>(aB (aE aA 4 rfl (aM hf rfl (aQ rfl rfl oP rfl (Nm.refCmp_den _ _ (by first | assumption | exact(ht _ (List.getElem_mem _)).1 | exact(ht _ (List.getElem_mem _)).2) (by first | assumption | exact(ht _ (List.getElem_mem _)).1 | exact(ht _ (List.getElem_mem _)).2))) ?_))))))))))))))
 refine aE aA 1 rfl (aD (hK2 _ (aC (fun K3 hK3=>(aC (fun K4 hK4=>(aB (aE aA 2 rfl (aD (hK4 _ (aO rfl (fun hc1=>?_) (fun hc1=>?_))))))))))))
 ·
  simp only[bs] at hc1
  refine aC (fun K5 hK5=>(aB (aE aA 3 rfl (aD (hK5 _ (aN ?_))))))
  refine⟨_,rfl,?_⟩
  refine aS ?_
  unfold mF sJ vV
  simp only[orI,lX]
  rw[Bool.eq_iff_iff]
  (repeat' split) <;> simp_all <;> omega
 ·
  simp only[bs] at hc1
  refine aP (hK3 _ (aC (fun K6 hK6=>(aB (aE aA 4 rfl (aM hf rfl (aQ rfl rfl oP rfl (Nm.refCmp_den _ _ (by first | assumption | exact(ht _ (List.getElem_mem _)).1 | exact(ht _ (List.getElem_mem _)).2) (by first | assumption | exact(ht _ (List.getElem_mem _)).1 | exact(ht _ (List.getElem_mem _)).2))) ?_))))))
  refine aE aA 1 rfl (aD (hK6 _ (aC (fun K7 hK7=>(aC (fun K8 hK8=>(aB (aE aA 2 rfl (aD (hK8 _ (aO rfl (fun hc2=>?_) (fun hc2=>?_))))))))))))
  ·
   simp only[bs] at hc2
   refine aC (fun K9 hK9=>(aB (aE aA 3 rfl (aD (hK9 _ (aN ?_))))))
   refine⟨_,rfl,?_⟩
   refine aS ?_
   unfold mF sJ vV
   simp only[orI,lX]
   rw[Bool.eq_iff_iff]
   (repeat' split) <;> simp_all <;> omega
  ·
   simp only[bs] at hc2
   refine aP (hK7 _ (aC (fun K10 hK10=>(aB (aE aA 6 rfl (aD (hK10 _ (aN ?_))))))))
   refine⟨_,rfl,?_⟩
   refine aS ?_
   unfold mF sJ vV
   simp only[orI,lX]
   rw[Bool.eq_iff_iff]
   (repeat' split) <;> simp_all <;> omega
theorem yJ (l:List En) (p:Pr) (hl:l.length≤9223372036854775807) :Den Tryz.prog 173 [.sl 4 (l.map enC),.agg (prC p)]  (·=.s (.int .i64 (nQ (eS p) l))):=by
 refine aY Tryz.func173 rfl (Nat.le_of_ble_eq_true rfl) (fun w0 A hf=>(aC (fun K1 hK1=>(aB (aM hf rfl (cT rfl rfl (lf rfl)) (aE aA 1 rfl (aD (hK1 _ (aC (fun K2 hK2=>(aC (fun K3 hK3=>(aB (aE aA 1 rfl (aD (hK3 _ ?_))))))))))))))))
 refine aR (bY (ι:=Nat) (fun k=>⟨27,[(0,.sl 4 (l.map enC)),(3,.adr (prC p)),(5,.s (.int .i64 (k:Nat)))],[]⟩) (fun k=>k≤l.length∧∀ (j:Nat) (hj:j<l.length),j<k→eS p l[j]=false) (fun k=>l.length - k) 0 ?_ ?_ ?_)
 · exact⟨Nat.zero_le _,by omega⟩
 · exact cW rfl
 ·
  rintro k hC
  obtain ⟨h1,h2⟩:=hC
  refine aC (fun K4 hK4=>(aC (fun K5 hK5=>(aB (aE aA 4 rfl (aD (hK5 _ (aO rfl (fun hc1=>?_) (fun hc1=>?_)))))))))
  ·
   simp only[bs] at hc1
   refine aP (hK4 _ (aC (fun K6 hK6=>(aR (aC (fun K7 hK7=>(dM hf bN (by kernel_rfl) rfl (bG aA 2 rfl ?_))))))))
   refine bX [(12,_),(13,_)] rfl rfl ⟨⟨rfl,rfl⟩,⟨rfl,rfl⟩,trivial⟩ rfl (bA rfl rfl fR eQ (by first | exact ixm (by omega) | assumption | exact⟨by decide,rfl⟩)) ?_
   refine bG aA 2 rfl (cC [(15,_),(16,_)] rfl rfl ⟨⟨rfl,rfl⟩,⟨rfl,rfl⟩,trivial⟩ rfl (aQ rfl rfl aMa rfl (of_den _ _)) (bG aA 1 rfl (gP 18 true rfl (fun hg2=>?_) (fun hg2=>?_))))
   ·
    refine bG aA 2 rfl ?_
    refine bX [(19,_),(20,_)] rfl rfl ⟨⟨rfl,rfl⟩,⟨rfl,rfl⟩,trivial⟩ rfl (bA rfl rfl fR eQ (by first | exact ixm (by omega) | assumption | exact⟨by decide,rfl⟩)) ?_
    refine bG aA 4 rfl (dQ [0,3,5,25] rfl rfl rfl (hK7 _ (aO rfl (fun hc3=>?_) (fun hc3=>?_))))
    ·
     simp only[bs] at hc3
     refine aC (fun K8 hK8=>(aB (aE aA 2 rfl (aD (hK8 _ (aN ?_))))))
     refine⟨_,rfl,?_⟩
     refine eR ?_
     rw[jZ (by omega) h2 (by simp_all[eS,ofB])]
    ·
     simp only[bs] at hc3
     refine aP (hK6 _ (aB (aE aA 1 rfl ?_)))
     refine aH rfl (bS rfl rfl (by omega) (by omega)) ?_
     refine aE aA 1 rfl (aD ?_)
     exact⟨k+1,⟨by omega,fun j hj hjk=>by
       by_cases e:j=k
       · subst e; simp_all[eS,ofB]
       · exact h2 j hj (by omega)⟩,by omega,cW rfl⟩
   ·
    simp only[bs] at hg2
    refine bG aA 7 rfl (dQ [0,3,5,25] rfl rfl rfl (hK7 _ (bJ rfl (aP (hK6 _ (aB (aE aA 1 rfl ?_)))))))
    refine aH rfl (bS rfl rfl (by omega) (by omega)) ?_
    refine aE aA 1 rfl (aD ?_)
    exact⟨k+1,⟨by omega,fun j hj hjk=>by
      by_cases e:j=k
      · subst e; simp_all[eS,ofB]
      · exact h2 j hj (by omega)⟩,by omega,cW rfl⟩
  ·
   simp only[bs] at hc1
   refine bF (hK2 _ (aC (fun K9 hK9=>(aB (aE aA 1 rfl (aD (hK9 _ (aN ?_))))))))
   refine⟨_,rfl,?_⟩
   refine eR ?_
   rw[oI (fun j hj=>h2 j hj (by omega))]
theorem aH4 (l:List En) (p:Pr) (t:Int) (hl:l.length*48+48≤140737488355328) (ht:∀ e∈l,TS e.1.1∧TS e.1.2) (hp1:TS p.1) (hp2:TS p.2) :Den Tryz.prog 103 [.sl 4 (l.map enC),.agg (prC p),.s (.int .i64 t)]  (·=.tup [.sl 4 ((if onB l p then [] else gT l p t).map enC),.s (.int .i64 (if onB l p then 90 else 0))]):=by
 refine aY Tryz.func103 rfl (Nat.le_of_ble_eq_true rfl) (fun w0 A hf=>(aC (fun K1 hK1=>(aB (aM hf rfl (cT rfl rfl (lf rfl)) (aH rfl (bR) (aE aA 1 rfl (aD (hK1 _ (aC (fun K2 hK2=>(aC (fun K3 hK3=>(aB (aE aA 2 rfl (aM hf rfl (aQ rfl rfl aBu rfl (yJ _ _ (by omega))) ?_))))))))))))))))
 refine aE aA 1 rfl (aD (hK3 _ (aO rfl (fun hc1=>?_) (fun hc1=>?_))))
 ·
  simp only[bs] at hc1
  refine aC (fun K4 hK4=>(aB (aH rfl (rM (k:=4)) (aE aA 1 rfl (aD (hK4 _ (aN ?_)))))))
  refine⟨_,rfl,?_⟩
  rw[show onB l p=true from onB_t (by omega)]; rfl
 ·
  simp only[bs] at hc1
  refine aP (hK2 _ (aC (fun K5 hK5=>(aB (aE aA 5 rfl (aH rfl (cK rfl rA aHk (l3 rfl) rfl) (cF hf rfl rA rfl eQ rfl rfl rfl rfl (lf rfl) (aD (hK5 _ (aC (fun K6 hK6=>(aB (aE aA 1 rfl (aD ?_))))))))))))))
  refine hK6 _ (aC (fun K7 hK7=>(aR (bY (ι:=Nat) (fun k=>⟨50,[(0,.sl 4 (l.map enC)),(8,.adr (enC (p,(t,1099511627776)))),(9,.s (.int .i64 (k:Nat)))],[]⟩) (fun k=>k≤l.length∧∀ (j:Nat) (hj:j<l.length),j<k→¬ 0<mF l[j] (p,(t,1099511627776))) (fun k=>l.length - k) 0 ?_ ?_ ?_))))
  · exact⟨Nat.zero_le _,by omega⟩
  · exact cW rfl
  ·
   rintro k hC
   obtain ⟨h1,h2⟩:=hC
   refine aC (fun K8 hK8=>(aC (fun K9 hK9=>(dM hf bN (by kernel_rfl) rfl (bG aA 5 rfl (gP 25 true rfl (fun hg2=>?_) (fun hg2=>?_)))))))
   ·
    simp only[bs] at hg2
    refine bG aA 3 rfl ?_
    refine bX [(27,_),(28,_)] rfl rfl ⟨⟨rfl,rfl⟩,⟨rfl,rfl⟩,trivial⟩ rfl (bA rfl rfl fR eQ (by first | exact ixm (by omega) | assumption | exact⟨by decide,rfl⟩)) ?_
    refine bG aA 1 rfl (cC [(26,_),(30,_)] rfl rfl ⟨⟨rfl,rfl⟩,⟨rfl,rfl⟩,trivial⟩ rfl (aQ rfl rfl aFg rfl (aE7 (p,(t,1099511627776)) _ hp1 hp2 (ht _ (List.getElem_mem _)).1 (ht _ (List.getElem_mem _)).2)) (bG aA 2 rfl (dQ [0,8,9,33] rfl rfl rfl (hK9 _ (aO rfl (fun hc3=>?_) (fun hc3=>?_))))))
    ·
     simp only[bs] at hc3
     refine aP (hK8 _ (aR (aB (aE aA 1 rfl ?_))))
     refine aH rfl (bS rfl rfl (by omega) (by omega)) ?_
     refine aE aA 1 rfl ?_
     refine bL ?_
     exact⟨k+1,⟨by omega,fun j hj hjk=>by
       by_cases e:j=k
       · subst e; have:=ordE_tri.swap l[j] (p,(t,1099511627776)); (try simp only[decide_eq_true_eq,decide_eq_false_iff_not,Bool.not_eq_true'] at *); omega
       · exact h2 j hj (by omega)⟩,by omega,cW rfl⟩
    ·
     simp only[bs] at hc3
     refine bF (hK7 _ (aC (fun K10 hK10=>(aB ?_))))
     have hins:=yV (p,(t,1099511627776)) l k (by omega) h2 (fun h=>by have:=ordE_tri.swap l[k] (p,(t,1099511627776)); (try simp only[decide_eq_true_eq,decide_eq_false_iff_not,Bool.not_eq_true'] at *); omega)
     refine cP hf rfl rfl rfl eN rfl rfl rfl rfl (l2 rfl) ?_
     refine aE aA 2 rfl (aH rfl (dL rfl fR eQ rfl (iR rfl (by omega)) (by omega) (by simp only[List.length_map,Int.toNat_natCast] <;> omega) (iQ (k:=k) (by omega))) ?_)
     refine bZ hf rfl eN rfl rfl rfl (.inl rfl) (by first | rfl | (simp only[List.length_append,List.length_map,List.length_cons,List.length_nil,List.length_take] <;> omega)) rfl (by first | rfl | simp [eB,bV]) (by first | (simp only[maxLen,List.length_map,List.length_append,List.length_cons,List.length_nil]; omega) | (simp [maxLen] <;> omega)) (by first | (simp only[List.length_map,List.length_append,List.length_cons,List.length_nil]; omega) | (simp <;> omega)) ?_
     refine bM (dY [0,8,9,40] rfl) (aE aA 1 rfl (aD (hK10 _ (aC (fun K11 hK11=>(aB (aE aA 2 rfl (aM hf rfl (bD eN rfl rfl rfl rfl (l2 rfl)) (bZ hf rfl eN rfl rfl rfl (.inl rfl) (by first | rfl | (simp only[List.length_append,List.length_map,List.length_cons,List.length_nil,List.length_take] <;> omega)) rfl (by first | rfl | simp [eB,bV]) (by first | (simp only[maxLen,List.length_map,List.length_append,List.length_cons,List.length_nil]; omega) | (simp [maxLen] <;> omega)) (by first | (simp only[List.length_map,List.length_append,List.length_cons,List.length_nil]; omega) | (simp <;> omega)) ?_)))))))))
     refine bM (dY [0,9,44] rfl) (aE aA 1 rfl (aD (hK11 _ (aC (fun K12 hK12=>(aB (aE aA 3 rfl (aH rfl (dL rfl fR eQ (iR rfl (by omega)) rfl (by simp only[List.length_map,Int.toNat_natCast] <;> omega) (by omega) (fU (k:=k) (by omega))) ?_))))))))
     refine bZ hf rfl eN rfl rfl rfl (.inl rfl) (by first | rfl | (simp only[List.length_append,List.length_map,List.length_cons,List.length_nil,List.length_take] <;> omega)) rfl (by first | rfl | simp [eB,bV]) (by first | (simp only[maxLen,List.length_map,List.length_append,List.length_cons,List.length_nil]; omega) | (simp [maxLen] <;> omega)) (by first | (simp only[List.length_map,List.length_append,List.length_cons,List.length_nil]; omega) | (simp <;> omega)) ?_
     refine bM (dY [49] rfl) (aE aA 2 rfl (aD (hK12 _ (aN ?_))))
     refine⟨_,rfl,?_⟩
     rw[show onB l p=false from aQl (by omega)]
     refine(congrArg (fun z=>AV.tup [z,.s (.int .i64 0)]) (cE (g:=36) rfl ?_)).trans ?_
     · simp only[List.length_append,List.length_map,List.length_cons,List.length_nil,List.length_take]
     · rw[if_neg (by simp),if_neg (by simp),gT,hins]; first | (simp; done) | (simp; rfl)
   ·
    simp only[bs] at hg2
    refine bG aA 8 rfl (dQ [0,8,9,33] rfl rfl rfl (hK9 _ (bJ rfl (bF (hK7 _ (aC (fun K13 hK13=>(aB ?_))))))))
    have hins:=yV (p,(t,1099511627776)) l k (by omega) h2 (fun h=>by have:=ordE_tri.swap l[k] (p,(t,1099511627776)); (try simp only[decide_eq_true_eq,decide_eq_false_iff_not,Bool.not_eq_true'] at *); omega)
    refine cP hf rfl rfl rfl eN rfl rfl rfl rfl (l2 rfl) ?_
    refine aE aA 2 rfl (aH rfl (dL rfl fR eQ rfl (iR rfl (by omega)) (by omega) (by simp only[List.length_map,Int.toNat_natCast] <;> omega) (iQ (k:=k) (by omega))) ?_)
    refine bZ hf rfl eN rfl rfl rfl (.inl rfl) (by first | rfl | (simp only[List.length_append,List.length_map,List.length_cons,List.length_nil,List.length_take] <;> omega)) rfl (by first | rfl | simp [eB,bV]) (by first | (simp only[maxLen,List.length_map,List.length_append,List.length_cons,List.length_nil]; omega) | (simp [maxLen] <;> omega)) (by first | (simp only[List.length_map,List.length_append,List.length_cons,List.length_nil]; omega) | (simp <;> omega)) ?_
    refine bM (dY [0,8,9,40] rfl) (aE aA 1 rfl (aD (hK13 _ (aC (fun K14 hK14=>(aB (aE aA 2 rfl (aM hf rfl (bD eN rfl rfl rfl rfl (l2 rfl)) (bZ hf rfl eN rfl rfl rfl (.inl rfl) (by first | rfl | (simp only[List.length_append,List.length_map,List.length_cons,List.length_nil,List.length_take] <;> omega)) rfl (by first | rfl | simp [eB,bV]) (by first | (simp only[maxLen,List.length_map,List.length_append,List.length_cons,List.length_nil]; omega) | (simp [maxLen] <;> omega)) (by first | (simp only[List.length_map,List.length_append,List.length_cons,List.length_nil]; omega) | (simp <;> omega)) ?_)))))))))
    refine bM (dY [0,9,44] rfl) (aE aA 1 rfl (aD (hK14 _ (aC (fun K15 hK15=>(aB (aE aA 3 rfl (aH rfl (dL rfl fR eQ (iR rfl (by omega)) rfl (by simp only[List.length_map,Int.toNat_natCast] <;> omega) (by omega) (fU (k:=k) (by omega))) ?_))))))))
    refine bZ hf rfl eN rfl rfl rfl (.inl rfl) (by first | rfl | (simp only[List.length_append,List.length_map,List.length_cons,List.length_nil,List.length_take] <;> omega)) rfl (by first | rfl | simp [eB,bV]) (by first | (simp only[maxLen,List.length_map,List.length_append,List.length_cons,List.length_nil]; omega) | (simp [maxLen] <;> omega)) (by first | (simp only[List.length_map,List.length_append,List.length_cons,List.length_nil]; omega) | (simp <;> omega)) ?_
    refine bM (dY [49] rfl) (aE aA 2 rfl (aD (hK15 _ (aN ?_))))
    refine⟨_,rfl,?_⟩
    rw[show onB l p=false from aQl (by omega)]
    refine(congrArg (fun z=>AV.tup [z,.s (.int .i64 0)]) (cE (g:=36) rfl ?_)).trans ?_
    · simp only[List.length_append,List.length_map,List.length_cons,List.length_nil,List.length_take]
    · rw[if_neg (by simp),if_neg (by simp),gT,hins]; first | (simp; done) | (simp; rfl)
theorem aF1 (l:List En) (p:Pr) (t:Int) (hl:l.length*48+48≤140737488355328) :Den Tryz.prog 104 [.sl 4 (l.map enC),.agg (prC p),.s (.int .i64 t)]  (·=.tup [.sl 4 ((if onB l p then jG l p t else []).map enC),.s (.int .i64 (if onB l p then 0 else 91))]):=by
 refine aY Tryz.func104 rfl (Nat.le_of_ble_eq_true rfl) (fun w0 A hf=>(aC (fun K1 hK1=>(aB (aM hf rfl (cT rfl rfl (lf rfl)) (aH rfl (bR) (aE aA 1 rfl (aD (hK1 _ (aC (fun K2 hK2=>(aB (aE aA 2 rfl (aM hf rfl (aQ rfl rfl aBu rfl (yJ _ _ (by omega))) (aE aA 1 rfl ?_)))))))))))))))
 refine aD (hK2 _ (aC (fun K3 hK3=>(aC (fun K4 hK4=>(aB (aE aA 2 rfl (aD (hK4 _ (aO rfl (fun hc1=>?_) (fun hc1=>?_)))))))))))
 ·
  simp only[bs] at hc1
  refine aC (fun K5 hK5=>(aB (aH rfl (rM (k:=4)) (aE aA 1 rfl (aD (hK5 _ (aN ?_)))))))
  refine⟨_,rfl,?_⟩
  rw[show onB l p=false from aQl (by omega)]; rfl
 ·
  simp only[bs] at hc1
  obtain ⟨n,hn,en,hn1,hn2⟩:∃ n:Nat,∃ h:n<l.length,nQ (eS p) l=(n:Nat)∧eS p l[n]=true∧∀ (j:Nat) (hj:j<l.length),j<n→eS p l[j]=false:=by
    rcases dW (eS p) l with ⟨e,_⟩ | ⟨k',h1,e,h2,h3⟩
    · exfalso; omega
    · exact⟨k',h1,e,h2,h3⟩
  rw[en]
  refine aP (hK3 _ (aC (fun K6 hK6=>(aB (jT hf 4 rfl rfl rfl (aD (hK6 _ (aC (fun K7 hK7=>(aC (fun K8 hK8=>(aB (aE aA 1 rfl (aD (hK8 _ ?_)))))))))))))))
  refine aR (bY (ι:=Nat×List En) (fun(⟨k,out⟩:Nat×List En)=>⟨47,[(0,.sl 4 (l.map enC)),(2,.s (.int .i64 t)),(8,.s (.int .i64 (n:Nat))),(9,.own 9 4 0 out.length),(10,.s (.int .i64 (k:Nat)))],[(9,.buf 4 (out.map enC))]⟩) (fun(⟨k,out⟩:Nat×List En)=>RevI l n t k out) (fun(⟨k,out⟩:Nat×List En)=>l.length - k) (0,[]) ?_ ?_ ?_)
  · exact RevI.start t hn
  · exact cW rfl
  ·
   rintro ⟨k,out⟩ hC
   have h1:=hC.1
   have h2:=hC.len
   refine aC (fun K9 hK9=>(aC (fun K10 hK10=>(aB (aE aA 4 rfl (aD (hK10 _ (aO rfl (fun hc2=>?_) (fun hc2=>?_)))))))))
   ·
    simp only[bs] at hc2
    refine aP (hK9 _ (aC (fun K11 hK11=>(aR (aC (fun K12 hK12=>(aB (aE aA 2 rfl ?_))))))))
    refine aH rfl (bA rfl rfl fR eQ (by first | exact ixm (by omega) | assumption | exact⟨by decide,rfl⟩)) ?_
    refine aE aA 1 rfl (aX hf rfl rfl rfl rA (aZ hf rfl rfl eQ rfl rfl (l1 rfl) (l4 rfl) rfl (aD (hK12 _ (aC (fun K13 hK13=>(aC (fun K14 hK14=>(aB (aE aA 3 rfl (aD (hK14 _ (aO rfl (fun hc3=>?_) (fun hc3=>?_))))))))))))))
    ·
     simp only[bs] at hc3
     refine aB (aE aA 2 rfl (aZ hf rfl rfl cI rfl rfl (l1 rfl) (l4 rfl) rfl (aD (hK13 _ (aC (fun K15 hK15=>(aB ?_)))))))
     refine bM (lU (nee 11) (sl':=[(0,.sl 4 (l.map enC)),(2,.s (.int .i64 t)),(8,.s (.int .i64 (n:Nat))),(9,.own 9 4 0 out.length),(10,.s (.int .i64 (k:Nat))),(11,.adr (enC (l[k].1,(l[k].2.1,t))))]) (m':=[(9,.buf 4 (out.map enC))]) ⟨⟨_,rfl,rfl⟩,⟨_,rfl,rfl⟩,⟨_,rfl,rfl⟩,⟨_,rfl,rfl⟩,⟨_,rfl,rfl⟩,⟨_,rfl,rfl⟩,trivial⟩ rfl) ?_
     refine aE aA 4 rfl (bC rfl rfl rfl (fun hg4=>?_) (fun hg4=>?_))
     ·
      simp only[bs] at hg4
      refine aH rfl (bQ rfl rT cI rfl) ?_
      refine aE aA 5 rfl (aD (hK15 _ (aO rfl (fun hc5=>?_) (fun hc5=>?_))))
      ·
       simp only[bs] at hc5
       refine aB (aE aA 2 rfl (aM hf rfl (bD eN rfl rfl rfl rfl (l2 rfl)) (bZ hf rfl eN rfl rfl rfl (.inl rfl) (by rw[List.length_map]) rfl (by first | rfl | simp [eB,bV]) (by first | (simp only[maxLen,List.length_map,List.length_append,List.length_cons,List.length_nil]; omega) | (simp [maxLen] <;> omega)) (by first | (simp only[List.length_map,List.length_append,List.length_cons,List.length_nil]; omega) | (simp <;> omega)) ?_)))
       refine bM (dY [0,2,8,10,45] rfl) (aE aA 1 rfl ?_)
       refine bL ?_
       refine hK11 _ (aB (aE aA 1 rfl ?_))
       refine aH rfl (bS rfl rfl (by omega) (by omega)) ?_
       refine aE aA 1 rfl (aD ?_)
       exact⟨(k+1,out++[(l[k].1,(l[k].2.1,t))]),hC.keep (by omega) (by omega) (by omega),by simp only; omega,cJ ⟨rfl,rfl,rfl,(by rw[List.length_append]; rfl),rfl,trivial⟩ (by rw[List.map_append]; rfl)⟩
      ·
       simp only[bs] at hc5
       refine aP (hK11 _ (aB (aE aA 1 rfl ?_)))
       refine aH rfl (bS rfl rfl (by omega) (by omega)) ?_
       refine aE aA 1 rfl (aD ?_)
       exact⟨(k+1,out),hC.gone (by omega) (by omega) (by omega),by simp only; omega,cJ ⟨rfl,rfl,rfl,rfl,rfl,trivial⟩ rfl⟩
     ·
      simp only[bs] at hg4
      refine aE aA 5 rfl (aD (hK15 _ (bW rfl (aB (aE aA 2 rfl (aM hf rfl (bD eN rfl rfl rfl rfl (l2 rfl)) (bZ hf rfl eN rfl rfl rfl (.inl rfl) (by rw[List.length_map]) rfl (by first | rfl | simp [eB,bV]) (by first | (simp only[maxLen,List.length_map,List.length_append,List.length_cons,List.length_nil]; omega) | (simp [maxLen] <;> omega)) (by first | (simp only[List.length_map,List.length_append,List.length_cons,List.length_nil]; omega) | (simp <;> omega)) ?_)))))))
      refine bM (dY [0,2,8,10,45] rfl) (aE aA 1 rfl ?_)
      refine bL ?_
      refine hK11 _ (aB (aE aA 1 rfl ?_))
      refine aH rfl (bS rfl rfl (by omega) (by omega)) ?_
      refine aE aA 1 rfl (aD ?_)
      (exfalso; omega)
    ·
     simp only[bs] at hc3
     refine aP (hK13 _ (aC (fun K16 hK16=>(aB ?_))))
     refine bM (lU (nee 11) (sl':=[(0,.sl 4 (l.map enC)),(2,.s (.int .i64 t)),(8,.s (.int .i64 (n:Nat))),(9,.own 9 4 0 out.length),(10,.s (.int .i64 (k:Nat))),(11,.adr (enC l[k]))]) (m':=[(9,.buf 4 (out.map enC))]) ⟨⟨_,rfl,rfl⟩,⟨_,rfl,rfl⟩,⟨_,rfl,rfl⟩,⟨_,rfl,rfl⟩,⟨_,rfl,rfl⟩,⟨_,rfl,rfl⟩,trivial⟩ rfl) ?_
     refine aE aA 4 rfl (bC rfl rfl rfl (fun hg7=>?_) (fun hg7=>?_))
     ·
      simp only[bs] at hg7
      refine aH rfl (bQ rfl rT cI rfl) ?_
      refine aE aA 5 rfl (aD (hK16 _ (aO rfl (fun hc8=>?_) (fun hc8=>?_))))
      ·
       simp only[bs] at hc8
       refine aB (aE aA 2 rfl (aM hf rfl (bD eN rfl rfl rfl rfl (l2 rfl)) (bZ hf rfl eN rfl rfl rfl (.inl rfl) (by rw[List.length_map]) rfl (by first | rfl | simp [eB,bV]) (by first | (simp only[maxLen,List.length_map,List.length_append,List.length_cons,List.length_nil]; omega) | (simp [maxLen] <;> omega)) (by first | (simp only[List.length_map,List.length_append,List.length_cons,List.length_nil]; omega) | (simp <;> omega)) ?_)))
       refine bM (dY [0,2,8,10,45] rfl) (aE aA 1 rfl ?_)
       refine bL ?_
       refine hK11 _ (aB (aE aA 1 rfl ?_))
       refine aH rfl (bS rfl rfl (by omega) (by omega)) ?_
       refine aE aA 1 rfl (aD ?_)
       (exfalso; omega)
      ·
       simp only[bs] at hc8
       refine aP (hK11 _ (aB (aE aA 1 rfl ?_)))
       refine aH rfl (bS rfl rfl (by omega) (by omega)) ?_
       refine aE aA 1 rfl (aD ?_)
       (exfalso; omega)
     ·
      simp only[bs] at hg7
      refine aE aA 5 rfl (aD (hK16 _ (bW rfl (aB (aE aA 2 rfl (aM hf rfl (bD eN rfl rfl rfl rfl (l2 rfl)) (bZ hf rfl eN rfl rfl rfl (.inl rfl) (by rw[List.length_map]) rfl (by first | rfl | simp [eB,bV]) (by first | (simp only[maxLen,List.length_map,List.length_append,List.length_cons,List.length_nil]; omega) | (simp [maxLen] <;> omega)) (by first | (simp only[List.length_map,List.length_append,List.length_cons,List.length_nil]; omega) | (simp <;> omega)) ?_)))))))
      refine bM (dY [0,2,8,10,45] rfl) (aE aA 1 rfl ?_)
      refine bL ?_
      refine hK11 _ (aB (aE aA 1 rfl ?_))
      refine aH rfl (bS rfl rfl (by omega) (by omega)) ?_
      refine aE aA 1 rfl (aD ?_)
      exact⟨(k+1,out++[l[k]]),hC.ne (by omega) (by omega),by simp only; omega,cJ ⟨rfl,rfl,rfl,(by rw[List.length_append]; rfl),rfl,trivial⟩ (by rw[List.map_append]; rfl)⟩
   ·
    simp only[bs] at hc2
    refine bF (hK7 _ (aC (fun K17 hK17=>(aB (aE aA 3 rfl (aD (hK17 _ (aN ?_))))))))
    refine⟨_,rfl,?_⟩
    rw[show onB l p=true from aOd hn hn1]
    refine(congrArg (fun z=>AV.tup [z,.s (.int .i64 0)]) (cE (g:=9) rfl (by rw[List.length_map]))).trans ?_
    rw[if_pos rfl,if_pos rfl,hC.fin (by omega) hn2 (fun _=>hn1)]
end Go.Proofs.YtijnkglkchhomaaGreat
set_option linter.unusedVariables false
set_option linter.unusedSimpArgs false
namespace Go.Proofs.YtijnkglkchhomaaGreat
open Go Go.Abs
theorem aDu (l:List En) (u:ByteArray) (hl:l.length*48+48≤140737488355328) :Den Tryz.prog 106 [.sl 4 (l.map enC),.s (.string u)]  (·=.sl 4 ((l.filter (fun e=>!nG u e)).map enC)):=by
 refine aY Tryz.func106 rfl (Nat.le_of_ble_eq_true rfl) (fun w0 A hf=>(aC (fun K1 hK1=>(aB (aH rfl (bR) (aD (hK1 _ (aC (fun K2 hK2=>(aB (jT hf 4 rfl rfl rfl (aD (hK2 _ (aC (fun K3 hK3=>(aC (fun K4 hK4=>?_)))))))))))))))))
 refine aB (aE aA 1 rfl (aD (hK4 _ (aR (bY (ι:=Nat×List En) (fun(⟨k,out⟩:Nat×List En)=>⟨37,[(0,.sl 4 (l.map enC)),(1,.s (.string u)),(5,.own 5 4 0 out.length),(6,.s (.int .i64 (k:Nat)))],[(5,.buf 4 (out.map enC))]⟩) (fun(⟨k,out⟩:Nat×List En)=>k≤l.length∧out=((l.take k).filter (fun e=>!nG u e))∧out.length≤k) (fun(⟨k,out⟩:Nat×List En)=>l.length - k) (0,[]) ?_ ?_ ?_)))))
 · exact⟨Nat.zero_le _,rfl,Nat.le_refl _⟩
 · exact cW rfl
 ·
  rintro ⟨k,out⟩ hC
  obtain ⟨h1,h2,h3⟩:=hC
  refine aC (fun K5 hK5=>(aC (fun K6 hK6=>(aB (aE aA 4 rfl (aD (hK6 _ (aO rfl (fun hc1=>?_) (fun hc1=>?_)))))))))
  ·
   simp only[bs] at hc1
   refine aP (hK5 _ (aC (fun K7 hK7=>(aR (aC (fun K8 hK8=>(aB (aE aA 2 rfl ?_))))))))
   refine aH rfl (bA rfl rfl fR eQ (by first | exact ixm (by omega) | assumption | exact⟨by decide,rfl⟩)) ?_
   refine aE aA 5 rfl (bC rfl rfl rfl (fun hg2=>?_) (fun hg2=>?_))
   ·
    simp only[bs] at hg2
    refine aH rfl (fD rfl) (aE aA 1 rfl (bP rfl rfl rfl ?_))
    refine aH rfl (bA rfl rfl fR eQ (by first | exact ixm (by omega) | assumption | exact⟨by decide,rfl⟩)) ?_
    refine aE aA 5 rfl (aD (hK8 _ (aO rfl (fun hc3=>?_) (fun hc3=>?_))))
    ·
     simp only[bs] at hc3
     refine aB (aE aA 3 rfl ?_)
     refine aH rfl (bA rfl rfl fR eQ (by first | exact ixm (by omega) | assumption | exact⟨by decide,rfl⟩)) ?_
     refine aE aA 1 rfl (aM hf rfl (bD eN rfl rfl rfl rfl (l2 rfl)) (bZ hf rfl eN rfl rfl rfl (.inl rfl) (by rw[List.length_map]) rfl (by first | rfl | simp [eB,bV]) (by first | (simp only[maxLen,List.length_map,List.length_append,List.length_cons,List.length_nil]; omega) | (simp [maxLen] <;> omega)) (by first | (simp only[List.length_map,List.length_append,List.length_cons,List.length_nil]; omega) | (simp <;> omega)) ?_))
     refine bM (dY [0,1,6,35] rfl) (aE aA 1 rfl ?_)
     refine bL ?_
     refine hK7 _ (aB (aE aA 1 rfl ?_))
     refine aH rfl (bS rfl rfl (by omega) (by omega)) ?_
     refine aE aA 1 rfl (aD ?_)
     exact⟨(k+1,out++[l[k]]),⟨by omega,by rw[h2,aT8 (by omega) (hasU_f (by assumption) (by assumption))],by rw[List.length_append]; simp only[List.length_cons,List.length_nil]; omega⟩,by simp only; omega,cJ ⟨rfl,rfl,(by rw[List.length_append]; rfl),rfl,trivial⟩ (by rw[List.map_append]; rfl)⟩
    ·
     simp only[bs] at hc3
     refine aP (hK7 _ (aB (aE aA 1 rfl ?_)))
     refine aH rfl (bS rfl rfl (by omega) (by omega)) ?_
     refine aE aA 1 rfl (aD ?_)
     exact⟨(k+1,out),⟨by omega,by rw[h2,aOv (by omega) (aT5 (by first | exact .inl (by assumption) | exact .inr (by assumption)))],by omega⟩,by simp only; omega,cJ ⟨rfl,rfl,rfl,rfl,trivial⟩ rfl⟩
   ·
    simp only[bs] at hg2
    refine aE aA 7 rfl (aD (hK8 _ (bJ rfl (aP (hK7 _ (aB (aE aA 1 rfl ?_)))))))
    refine aH rfl (bS rfl rfl (by omega) (by omega)) ?_
    refine aE aA 1 rfl (aD ?_)
    exact⟨(k+1,out),⟨by omega,by rw[h2,aOv (by omega) (aT5 (by first | exact .inl (by assumption) | exact .inr (by assumption)))],by omega⟩,by simp only; omega,cJ ⟨rfl,rfl,rfl,rfl,trivial⟩ rfl⟩
  ·
   simp only[bs] at hc1
   refine bF (hK3 _ (aC (fun K9 hK9=>(aB (aE aA 2 rfl (aD (hK9 _ (aN ?_))))))))
   refine⟨_,rfl,?_⟩
   refine(cE (g:=5) rfl (by rw[List.length_map])).trans ?_
   rw[h2,List.take_of_length_le (by omega)]
theorem aI9 (l:List En) (u:ByteArray) (hl:l.length*48+48≤140737488355328) :Den Tryz.prog 134 [.sl 4 (l.map enC),.s (.string u)]  (·=.sl 4 ((l.filter fun e=>!nG u e).map enC)):=by
 refine aY Tryz.func134 rfl (Nat.le_of_ble_eq_true rfl) (fun w0 A hf=>(aC (fun K1 hK1=>(aB (aM hf rfl (cT rfl rfl (lf rfl)) (aH rfl (bR) (aD (hK1 _ (aC (fun K2 hK2=>(aB (aE aA 1 rfl (iP hf rfl rfl rfl rfl rfl rC rfl (qW _ (by omega)) ?_)))))))))))))
 rintro _ rfl
 refine aH rfl (jB rfl) (iD hf 6 rfl rfl rfl rfl rfl aM4 (aCi aMt rfl (fun _=>rfl) (nG u) l _ (by rw[List.length_map]) (by omega) (fun x _=>aHu x u)) ?_)
 rintro r zs ⟨rfl,rfl⟩
 refine aE aA 1 rfl (aD (hK2 _ (aN ?_)))
 refine⟨_,rfl,?_⟩
 exact cE (g:=6) rfl (by rw[List.length_map])
end Go.Proofs.YtijnkglkchhomaaGreat
set_option linter.unusedVariables false
set_option linter.unusedSimpArgs false
namespace Go.Abs
def aQd (x:List En) (p:Pr) (t:Int):List En:=if onB x p=true then jG x p t else gT x p t
def aU3 (x:List En) (a:Int):Prop:=aFw x=true∧∀ e∈x,e.2.1≤a∧(e.2.2=1099511627776∨e.2.2≤a)∧TS e.1.1∧TS e.1.2
theorem ordE_eq {a b:En}:mF a b=0↔a.1=b.1∧a.2.1=b.2.1:=by
  rw[uN,sN,aD6]
  refine and_congr_right fun _=>?_
  unfold lX; (repeat' split) <;> omega
theorem yR {e:En}:∀ {l:List En},l.Pairwise RisR→(∀ x∈l,¬ 0<mF x e→RisR x e)→(∀ x∈l,0<mF x e→RisR e x)→(rH l e).Pairwise RisR
  | [],_,_,_=>by simp [rH]
  | x::l,h,h1,h2=>by
    obtain ⟨hx,hl⟩:=List.pairwise_cons.1 h
    rw[rH]
    split
    · rename_i h0
      refine List.pairwise_cons.2 ⟨fun y hy=>?_,h⟩
      rcases List.mem_cons.1 hy with rfl | hy
      · exact h2 _ (by simp) h0
      · refine h2 y (by simp [hy]) ?_
        have e1:=ordE_tri.lt_tr (show mF e x<0 by have:=ordE_tri.swap e x; omega) (hx y hy).1
        have:=ordE_tri.swap e y; omega
    · rename_i h0
      refine List.pairwise_cons.2 ⟨fun y hy=>?_,yR hl (fun z hz=>h1 z (by simp [hz])) (fun z hz=>h2 z (by simp [hz]))⟩
      rcases uT.1 hy with rfl | hy
      · exact h1 x (by simp) h0
      · exact hx y hy
theorem yH {p:Pr} {t:Int} {y:En}:∀ {l:List En},y∈jG l p t→y∈l∨∃ e∈l,eS p e=true∧e.2.1<t∧y=(e.1,(e.2.1,t))
  | [],h=>by simp [jG] at h
  | x::l,h=>by
    rw[jG] at h
    split at h
    · rename_i hf
      rcases List.mem_append.1 h with h | h
      · unfold qG at h
        split at h
        · simp at h
        · simp only[List.mem_singleton] at h
          exact .inr ⟨x,by simp,hf,by omega,h⟩
      · exact .inl (by simp [h])
    · rcases List.mem_cons.1 h with h | h
      · exact .inl (by simp [h])
      · rcases yH h with h | ⟨e,he,h⟩
        · exact .inl (by simp [h])
        · exact .inr ⟨e,by simp [he],h⟩
theorem aAl {p:Pr} {e:En}:eS p e=true↔e.1=p∧e.2.2=1099511627776:=by simp [eS]
theorem yG {p:Pr} {t:Int}:∀ {l:List En},l.Pairwise RisR→(∀ y∈l,y.2.1<1099511627776)→(jG l p t).Pairwise RisR
  | [],_,_=>by simp [jG]
  | x::l,h,h1=>by
    obtain ⟨hx,hl⟩:=List.pairwise_cons.1 h
    rw[jG]
    split
    · rename_i hf
      have hF:=(aAl.1 hf).2
      unfold qG
      split
      · exact hl
      · refine List.pairwise_cons.2 ⟨fun y hy=>⟨(hx y hy).1,fun e=>?_⟩,hl⟩
        have:=(hx y hy).2 e
        have:=h1 y (List.mem_cons_of_mem _ hy)
        omega
    · refine List.pairwise_cons.2 ⟨fun y hy=>?_,yG hl (fun z hz=>h1 z (by simp [hz]))⟩
      rcases yH hy with hy | ⟨e,he,_,_,rfl⟩
      · exact hx y hy
      · exact⟨(hx e he).1,fun e'=>(hx e he).2 e'⟩
theorem aHc {x:List En} {a t:Int} {p:Pr} (h:aU3 x a) (h1:a≤t) (h2:t<1099511627776) (r1:dA p.1=true) (r2:dA p.2=true) (s1:TS p.1) (s2:TS p.2):aU3 (aQd x p t) t:=by
  obtain ⟨hr,he⟩:=h
  obtain ⟨ho,hp⟩:=(qE x).1 hr
  have hT:∀ e∈x,e.2.1<e.2.2:=fun e hm=>by have:=ho e hm; simp only[okE,Bool.and_eq_true,decide_eq_true_eq] at this; exact this.1
  have hF:∀ e∈x,e.2.1<1099511627776:=fun e hm=>by have:=(he e hm).1; omega
  unfold aQd
  split
  · refine⟨(qE _).2 ⟨fun y hy=>?_,yG hp hF⟩,fun y hy=>?_⟩
    · rcases yH hy with hy | ⟨e,hm,_,hlt,rfl⟩
      · exact ho y hy
      · have:=ho e hm
        simp only[okE,Bool.and_eq_true,decide_eq_true_eq] at this ⊢
        exact⟨hlt,this.2⟩
    · rcases yH hy with hy | ⟨e,hm,_,hlt,rfl⟩
      · obtain ⟨q1,q2,q3⟩:=he y hy
        exact⟨by omega,by omega,q3⟩
      · obtain ⟨q1,q2,q3⟩:=he e hm
        exact⟨by simp only; omega,.inr (by simp),q3⟩
  · rename_i hon
    refine⟨(qE _).2 ⟨fun y hy=>?_,yR hp (fun y hy hle=>?_) (fun y hy hlt=>?_)⟩,fun y hy=>?_⟩
    · rcases uT.1 hy with rfl | hy
      · simp [okE,h2,r1,r2]
      · exact ho y hy
    · have hne:¬ (y.1=p∧y.2.2=1099511627776):=fun hh=>hon (aIa.2 ⟨y,hy,hh⟩)
      obtain ⟨q1,q2,_⟩:=he y hy
      have q4:=hT y hy
      have hyt:y.1=p→y.2.2≤t:=fun e=>by rcases q2 with q2 | q2; exact absurd ⟨e,q2⟩ hne; omega
      refine⟨?_,fun e=>by simp only at e ⊢; exact hyt e⟩
      rcases Int.lt_or_eq_of_le (show mF y (p,(t,1099511627776))≤0 by omega) with e | e
      · exact e
      · exfalso
        obtain ⟨e1,e2⟩:=ordE_eq.1 e
        have:=hyt e1
        simp only at e2; omega
    · refine⟨by have:=ordE_tri.swap y (p,(t,1099511627776)); omega,fun e=>?_⟩
      exfalso
      simp only at e
      have q1:=(he y hy).1
      have:mF y (p,(t,1099511627776))=lX y.2.1 t:=by
        rw[uN,uS,if_neg (by simp [aD6,← e])]
      rw[this] at hlt
      unfold lX at hlt
      (repeat' split at hlt) <;> omega
    · rcases uT.1 hy with rfl | hy
      · exact⟨Int.le_refl _,.inl rfl,s1,s2⟩
      · obtain ⟨q1,q2,q3⟩:=he y hy
        exact⟨by omega,by omega,q3⟩
end Go.Abs
set_option linter.unusedVariables false
set_option linter.unusedSimpArgs false
namespace Go.Abs
theorem kR {s:ByteArray} (h:dA s=true):TS s:=by
  simp only[dA,Bool.and_eq_true,decide_eq_true_eq] at h
  have:=h.1.2
  show s.size≤_
  omega
theorem nU {s:Sta} {x:cB}:lA s x=true↔(∀ e∈s.opn,e.1.1=x.2.1→x.1.2≤e.2.2)∧0≤x.1.1∧x.1.2≤s.now∧1≤x.2.1∧x.2.1≤999∧1≤x.2.2∧x.2.2≤4:=by
  simp only[lA,Bool.and_eq_true,decide_eq_true_eq,Bool.not_eq_true',List.any_eq_false,not_and,Int.not_lt]
theorem pA {s:Sta} {x:Us}:aCe s x=true↔x.2≠[]∧zV x.2=true∧∀ y∈x.2,lA s y=true:=by
  simp only[aCe,Bool.and_eq_true,Bool.not_eq_true',List.isEmpty_eq_false_iff,List.all_eq_true,ne_eq]
theorem gH {s:Sta} {e:En}:aEd s e=true↔0≤e.2.1∧e.2.1≤s.now∧(e.2.2≤s.now∨e.2.2=1099511627776):=by
  simp only[aEd,Bool.and_eq_true,Bool.or_eq_true,decide_eq_true_eq]
theorem kZ {s:Sta} {x:Tm}:aTt s x=true↔0≤x.2∧x.2≤s.now:=by
  simp only[aTt,Bool.and_eq_true,decide_eq_true_eq]
theorem aAc {e:Se}:jM e=true↔dA e.1.2=true∧1≤e.1.1∧e.1.1≤999∧1≤e.2.1∧e.2.1≤4∧0≤e.2.2∧e.2.2≤1099511627775:=by
  simp only[jM,Bool.and_eq_true,decide_eq_true_eq,and_assoc]
theorem aG0 {s:Sta} (h:RightP s) {e:Se} (he:e∈s.opn):dA e.1.2=true∧1≤e.1.1∧e.1.1≤999∧1≤e.2.1∧e.2.1≤4∧0≤e.2.2∧e.2.2≤1099511627775 :=
  aAc.1 (((kG _).1 h.opn).1.1 e he)
theorem aCr {l:List Us} {u:ByteArray} {p:Us→Prop} (h:cX cZ l) (hp:∀ x∈l,p x) (h0:p (u,[])):p (u,ofU l u):=by
  by_cases hh:mI cZ l u=true
  · obtain ⟨hk,e⟩:=aAd h hh
    rw[← e]; exact hp _ (List.getElem_mem hk)
  · rw[qN (Bool.eq_false_iff.2 hh)]; exact h0
theorem aG6 {s:Sta} (h:RightP s) (u:ByteArray):zV (ofU s.usr u)=true∧∀ y∈ofU s.usr u,lA s y=true:=by
  have:=aCr (u:=u) (p:=fun x=>zV x.2=true∧∀ y∈x.2,lA s y=true) h.usr (fun x hx=>(pA.1 (h.uok x hx)).2) ⟨rfl,by simp⟩
  exact this
theorem aUy {l:List cB} {x y:cB} (h:y∈iU l x):y=x∨y∈l:=by
  unfold iU at h
  split at h
  · exact .inr h
  · exact List.mem_cons.1 ((iL x l).mem_iff.1 h)
theorem aDb {s:Sta} {t:Int} {opn':List Se} {e:Se} (h:RightP s) (ht:s.now≤t) (ht1:t<1099511627776) (he:e∈s.opn) (hr:kW opn'=true) (hl:∀ x∈opn',x.2.2≤t)
    (hb:∀ x∈opn',(x∈s.opn∧x.1.1≠e.1.1)∨t≤x.2.2):RightP ⟨t,s.hor,opn',mN s.usr e.1.2 (gG e t),s.sub,s.tmb⟩:=by
  obtain ⟨g1,g2,g3,g4,g5,g6,g7⟩:=aG0 h he
  have hold:∀ y,lA s y=true→lA ⟨t,s.hor,opn',mN s.usr e.1.2 (gG e t),s.sub,s.tmb⟩ y=true:=fun y hy=>by
    obtain ⟨a1,a2,a3,a4⟩:=nU.1 hy
    refine nU.2 ⟨fun x hx hn=>?_,a2,Int.le_trans a3 ht,a4⟩
    rcases hb x hx with ⟨h1,_⟩ | h1
    · exact a1 x h1 hn
    · exact Int.le_trans a3 (Int.le_trans ht h1)
  have hold2:∀ x,aCe s x=true→aCe ⟨t,s.hor,opn',mN s.usr e.1.2 (gG e t),s.sub,s.tmb⟩ x=true:=fun x hx=>by
    obtain ⟨a1,a2,a3⟩:=pA.1 hx
    exact pA.2 ⟨a1,a2,fun y hy=>hold y (a3 y hy)⟩
  have hmem:∀ x∈mN s.usr e.1.2 (gG e t),x∈s.usr∨(e.2.2<t∧x=(e.1.2,iU (ofU s.usr e.1.2) (gG e t))):=fun x hx=>by
    unfold mN at hx
    split at hx
    · exact .inl hx
    · rename_i hlt
      rcases jW.1 hx with ⟨hx,_⟩ | hx
      · exact .inl hx
      · unfold tU at hx
        split at hx
        · cases hx
        · exact .inr ⟨Int.not_le.1 hlt,List.mem_singleton.1 hx⟩
  refine⟨Int.le_trans h.n0 ht,ht1,h.h0,h.h1,hr,hl,fun x hx=>?_,?_,fun x hx=>?_,h.sub,fun y hy=>?_,h.tnm,h.tmb,fun x hx=>?_⟩
  · rcases hmem x hx with hx | ⟨_,rfl⟩
    · exact h.unm x hx
    · exact g1
  · show cX cZ (mN s.usr e.1.2 (gG e t))
    unfold mN
    split
    · exact h.usr
    · exact sF h.usr
  · rcases hmem x hx with hx | ⟨hlt,rfl⟩
    · exact hold2 x (h.uok x hx)
    · obtain ⟨q1,q2⟩:=aG6 h e.1.2
      refine pA.2 ⟨fun e0=>?_,?_,fun y hy=>?_⟩
      · have h1:=aEk (ofU s.usr e.1.2) (gG e t)
        simp only at e0
        rw[iU,if_neg (show ¬ (gG e t).1.2≤(gG e t).1.1 from Int.not_le.2 hlt)] at e0
        rw[e0] at h1; simp at h1
      · show zV (iU (ofU s.usr e.1.2) (gG e t))=true
        rw[ris_add q1,Bool.not_eq_true',List.any_eq_false]
        intro y hy hye
        simp only[decide_eq_true_eq] at hye
        have:=(nU.1 (q2 y hy)).1 e he (by rw[hye]; rfl)
        rw[hye] at this
        exact absurd hlt (Int.not_lt.2 this)
      · rcases aUy hy with rfl | hy
        · refine nU.2 ⟨fun x hx hn=>?_,g6,Int.le_refl _,g2,g3,g4,g5⟩
          rcases hb x hx with ⟨_,h1⟩ | h1
          · exact absurd hn h1
          · exact h1
        · exact hold y (q2 y hy)
  · obtain ⟨a,b,c⟩:=gH.1 (h.sok y hy)
    exact gH.2 ⟨a,Int.le_trans b ht,c.imp (fun c=>Int.le_trans c ht) id⟩
  · obtain ⟨a,b⟩:=kZ.1 (h.tok x hx)
    exact kZ.2 ⟨a,Int.le_trans b ht⟩
theorem qD {s s':Sta} (h:RightP s) (ht:s.now≤s'.now) (ht1:s'.now<1099511627776) (h0:0≤s'.hor) (h1:s'.hor<1099511627776) (hr:kW s'.opn=true) (hl:∀ x∈s'.opn,x.2.2≤s'.now)
    (hb:∀ x∈s'.opn,x∈s.opn∨s.now≤x.2.2) (hu:∀ x∈s'.usr,x∈s.usr) (hu2:cX cZ s'.usr) (hs:aFw s'.sub=true) (hs2:∀ e∈s'.sub,aEd s' e=true) (htm:cX dR s'.tmb) (htm2:∀ x∈s'.tmb,x∈s.tmb∨(dA x.1=true∧0≤x.2∧x.2≤s'.now)):RightP s':=by
  have hold:∀ y,lA s y=true→lA s' y=true:=fun y hy=>by
    obtain ⟨a1,a2,a3,a4⟩:=nU.1 hy
    refine nU.2 ⟨fun x hx hn=>?_,a2,Int.le_trans a3 ht,a4⟩
    rcases hb x hx with h1 | h1
    · exact a1 x h1 hn
    · exact Int.le_trans a3 h1
  refine⟨Int.le_trans h.n0 ht,ht1,h0,h1,hr,hl,fun x hx=>h.unm x (hu x hx),hu2,fun x hx=>?_,hs,hs2,fun x hx=>?_,htm,fun x hx=>?_⟩
  · obtain ⟨a1,a2,a3⟩:=pA.1 (h.uok x (hu x hx))
    exact pA.2 ⟨a1,a2,fun y hy=>hold y (a3 y hy)⟩
  · rcases htm2 x hx with h2 | h2
    · exact h.tnm x h2
    · exact h2.1
  · rcases htm2 x hx with h2 | h2
    · obtain ⟨a,b⟩:=kZ.1 (h.tok x h2)
      exact kZ.2 ⟨a,Int.le_trans b ht⟩
    · exact kZ.2 h2.2
theorem zW {s:Sta} (h:RightP s) {t:Int} (ht:s.now≤t) {u:List Us} {o:List Se} {hr:Int} {tm:List Tm}:∀ e∈s.sub,aEd ⟨t,hr,o,u,s.sub,tm⟩ e=true:=fun e he=>by
  obtain ⟨a,b,c⟩:=gH.1 (h.sok e he)
  exact gH.2 ⟨a,Int.le_trans b ht,c.imp (fun c=>Int.le_trans c ht) id⟩
theorem aDs {s:Sta} (h:RightP s):aU3 s.sub s.now:=by
  refine⟨h.sub,fun e he=>?_⟩
  obtain ⟨a,b,c⟩:=gH.1 (h.sok e he)
  have:=((qE _).1 h.sub).1 e he
  simp only[okE,Bool.and_eq_true,decide_eq_true_eq] at this
  exact⟨b,c.symm,kR this.2.1,kR this.2.2⟩
theorem ev_at {e:Ev} (h:bU e=true):0≤e.at'∧e.at'<1099511627776:=by
  simp only[bU,Bool.and_eq_true,decide_eq_true_eq] at h
  exact⟨h.1,h.2.1⟩
theorem sS {e:Ev} (h:bU e=true):(e.kind=1∧eF e=true∧1≤e.st∧e.st≤4)∨(e.kind=2∧eF e=true∧1≤e.st∧e.st≤4)∨(e.kind=3∧eF e=true∧e.st=0)∨(e.kind=4∧dA e.user=true∧dA e.other=true∧e.n=0∧e.st=0)∨(e.kind=5∧dA e.user=true∧dA e.other=true∧e.n=0∧e.st=0)∨(e.kind=6∧e.user=bs0∧e.other=bs0∧e.st=0∧0≤e.n∧e.n<1099511627776)∨(e.kind=7∧dA e.user=true∧e.other=bs0∧e.n=0∧e.st=0):=by
  simp only[bU,Bool.and_eq_true,decide_eq_true_eq] at h
  obtain ⟨_,_,h⟩:=h
  split at h
  · rename_i hk
    simp only[Bool.and_eq_true,decide_eq_true_eq] at h
    rcases hk with hk | hk
    · exact .inl ⟨hk,h⟩
    · exact .inr (.inl ⟨hk,h⟩)
  · split at h
    · rename_i hk
      simp only[Bool.and_eq_true,decide_eq_true_eq] at h
      exact .inr (.inr (.inl ⟨hk,h⟩))
    · split at h
      · rename_i hk
        simp only[Bool.and_eq_true,decide_eq_true_eq] at h
        rcases hk with hk | hk
        · exact .inr (.inr (.inr (.inl ⟨hk,h⟩)))
        · exact .inr (.inr (.inr (.inr (.inl ⟨hk,h⟩))))
      · split at h
        · rename_i hk
          simp only[Bool.and_eq_true,decide_eq_true_eq] at h
          exact .inr (.inr (.inr (.inr (.inr (.inl ⟨hk,h⟩)))))
        · split at h
          · rename_i hk
            simp only[Bool.and_eq_true,decide_eq_true_eq] at h
            exact .inr (.inr (.inr (.inr (.inr (.inr ⟨hk,h⟩)))))
          · cases h
theorem uF {e:Ev}:eF e=true↔1≤e.n∧e.n≤999∧dA e.user=true∧e.other=bs0:=by
  simp only[eF,Bool.and_eq_true,decide_eq_true_eq]
theorem aEx {l:List Se} {n:Int} {u:ByteArray} (h:eW l n u=0):∃ pre e post,l=pre++e::post∧e.1=(n,u)∧xJ l n=e∧(∀ st t,tY l n st t=pre++(e.1,(st,t))::post)∧tX l n=pre++post:=by
  obtain ⟨k,hk,ek,h1,h2,h3⟩:=zB h
  refine⟨l.take k,l[k],l.drop (k+1),?_,?_,?_,fun st t=>?_,?_⟩
  · rw[← List.drop_eq_getElem_cons hk,List.take_append_drop]
  · exact Prod.ext (by simpa [isN] using h1) h2
  · exact(mT n u 0 0 l k hk h3 h1).2.1
  · rw[(mT n u st t l k hk h3 h1).2.2.2.1,List.set_eq_take_append_cons_drop,if_pos hk]
  · exact(mT n u 0 0 l k hk h3 h1).2.2.2.2
theorem aQr {pre post:List Se} {e:Se} (h:kW (pre++e::post)=true):kW (pre++post)=true∧∀ x∈pre++post,x∈pre++e::post∧x.1.1≠e.1.1:=by
  obtain ⟨⟨h1,h2⟩,h3⟩:=(kG _).1 h
  have hm:∀ x∈pre++post,x∈pre++e::post:=fun x hx=>by
    rcases List.mem_append.1 hx with hx | hx
    · exact List.mem_append_left _ hx
    · exact List.mem_append_right _ (List.mem_cons_of_mem _ hx)
  obtain ⟨p1,p2,p3⟩:=List.pairwise_append.1 h2
  obtain ⟨p4,p5⟩:=List.pairwise_cons.1 p2
  refine⟨(kG _).2 ⟨⟨fun x hx=>h1 x (hm x hx),List.pairwise_append.2 ⟨p1,p5,fun a ha b hb=>p3 a ha b (List.mem_cons_of_mem _ hb)⟩⟩,by simp only[List.length_append,List.length_cons] at h3 ⊢; omega⟩,fun x hx=>⟨hm x hx,?_⟩⟩
  rcases List.mem_append.1 hx with hx | hx
  · have:=p3 x hx e (by simp); omega
  · have:=p4 x hx; omega
theorem chg_ris {pre post:List Se} {e e':Se} (h:kW (pre++e::post)=true) (he:jM e'=true) (hn:e'.1.1=e.1.1):kW (pre++e'::post)=true:=by
  obtain ⟨⟨h1,h2⟩,h3⟩:=(kG _).1 h
  obtain ⟨p1,p2,p3⟩:=List.pairwise_append.1 h2
  obtain ⟨p4,p5⟩:=List.pairwise_cons.1 p2
  refine(kG _).2 ⟨⟨fun x hx=>?_,List.pairwise_append.2 ⟨p1,List.pairwise_cons.2 ⟨fun b hb=>by rw[hn]; exact p4 b hb,p5⟩,fun a ha b hb=>?_⟩⟩,by simp only[List.length_append,List.length_cons] at h3 ⊢; omega⟩
  · rcases List.mem_append.1 hx with hx | hx
    · exact h1 x (List.mem_append_left _ hx)
    · rcases List.mem_cons.1 hx with rfl | hx
      · exact he
      · exact h1 x (List.mem_append_right _ (List.mem_cons_of_mem _ hx))
  · rcases List.mem_cons.1 hb with rfl | hb
    · rw[hn]; exact p3 a ha e (by simp)
    · exact p3 a ha b (List.mem_cons_of_mem _ hb)
theorem aJt {l:List Se} (q:Se→Bool) (h:kW l=true):kW (l.filter q)=true:=by
  obtain ⟨⟨h1,h2⟩,h3⟩:=(kG _).1 h
  exact(kG _).2 ⟨⟨fun x hx=>h1 x (List.mem_filter.1 hx).1,h2.filter q⟩,Nat.le_trans (List.length_filter_le _ _) h3⟩
theorem sD {l:List Tm} {u:ByteArray} {t:Int} (h:cX dR l):cX dR (mC l u t):=vS h (by simp) (by simp)
theorem aOy {s:Sta} {e:Ev} (h:RightP s) (he:bU e=true) (ht:s.now≤e.at') (h0:(bO s e).2=0):RightP { (bO s e).1 with now:=e.at' }:=by
  obtain ⟨t0,t1⟩:=ev_at he
  rcases sS he with ⟨hk,hs,s1,s2⟩ | ⟨hk,hs,s1,s2⟩ | ⟨hk,hs,s1⟩ | ⟨hk,r1,r2,n0,s0⟩ | ⟨hk,r1,r2,n0,s0⟩ | ⟨hk,r1,r2,s0,n0,n1⟩ | ⟨hk,r1,r2,n0,s0⟩
  · obtain ⟨m1,m2,m3,m4⟩:=uF.1 hs
    rw[bO,if_pos hk] at h0 ⊢
    simp only at h0 ⊢
    rw[show mG s.opn ((e.n,e.user),(e.st,e.at'))=wH s.opn ((e.n,e.user),(e.st,e.at')) from if_pos h0]
    have hm:∀ x∈wH s.opn ((e.n,e.user),(e.st,e.at')),x=((e.n,e.user),(e.st,e.at'))∨x∈s.opn:=fun x hx=>yT.1 hx
    have h1:kW [((e.n,e.user),(e.st,e.at'))]=true:=(kG _).2 ⟨⟨fun x hx=>by rw[List.mem_singleton.1 hx]; exact aAc.2 ⟨m3,m1,m2,s1,s2,t0,by show e.at'≤_; omega⟩,List.pairwise_singleton _ _⟩,by simp⟩
    refine qD h ht t1 h.h0 h.h1 (opn_ris h.opn h1 h0) (fun x hx=>?_) (fun x hx=>?_) (fun _ hx=>hx) h.usr h.sub (zW h ht) h.tmb (fun _ hx=>.inl hx)
    · rcases hm x hx with rfl | hx
      · exact Int.le_refl _
      · exact Int.le_trans (h.late x hx) ht
    · rcases hm x hx with rfl | hx
      · exact .inr ht
      · exact .inl hx
  · obtain ⟨m1,m2,m3,m4⟩:=uF.1 hs
    rw[bO,if_neg (by omega),if_pos hk] at h0 ⊢
    simp only at h0 ⊢
    obtain ⟨pre,x,post,e1,e2,e3,e4,e5⟩:=aEx h0
    have hx:x∈s.opn:=by rw[e1]; simp
    have hn:x.1.1=e.n∧x.1.2=e.user:=by rw[e2]; exact⟨rfl,rfl⟩
    have hr:=h.opn
    rw[e1] at hr
    obtain ⟨q1,q2⟩:=aQr hr
    rw[show mM s.opn e.n e.user e.st e.at'=pre++(x.1,(e.st,e.at'))::post from by rw[mM,if_pos h0,e4],show stR s.opn e.n e.user e.at'=gG x e.at' from by rw[stR,if_pos h0,e3],← hn.2]
    have hm:∀ y∈pre++(x.1,(e.st,e.at'))::post,y=(x.1,(e.st,e.at'))∨y∈pre++post:=fun y hy=>by
      rcases List.mem_append.1 hy with hy | hy
      · exact .inr (List.mem_append_left _ hy)
      · rcases List.mem_cons.1 hy with hy | hy
        · exact .inl hy
        · exact .inr (List.mem_append_right _ hy)
    refine aDb h ht t1 hx (chg_ris hr (aAc.2 ⟨by show dA x.1.2=true; rw[hn.2]; exact m3,by show 1≤x.1.1; omega,by show x.1.1≤999; omega,s1,s2,t0,by show e.at'≤_; omega⟩) rfl) (fun y hy=>?_) (fun y hy=>?_)
    · rcases hm y hy with rfl | hy
      · exact Int.le_refl _
      · exact Int.le_trans (h.late y (by rw[e1]; exact(q2 y hy).1)) ht
    · rcases hm y hy with rfl | hy
      · exact .inr (Int.le_refl _)
      · exact .inl ⟨by rw[e1]; exact(q2 y hy).1,(q2 y hy).2⟩
  · rw[bO,if_neg (by omega),if_neg (by omega),if_pos hk] at h0 ⊢
    simp only at h0 ⊢
    obtain ⟨pre,x,post,e1,e2,e3,e4,e5⟩:=aEx h0
    have hx:x∈s.opn:=by rw[e1]; simp
    have hn:x.1.2=e.user:=by rw[e2]
    have hr:=h.opn
    rw[e1] at hr
    obtain ⟨q1,q2⟩:=aQr hr
    rw[show mL s.opn e.n e.user=pre++post from by rw[mL,if_pos h0,e5],show stR s.opn e.n e.user e.at'=gG x e.at' from by rw[stR,if_pos h0,e3],← hn]
    exact aDb h ht t1 hx q1 (fun y hy=>Int.le_trans (h.late y (by rw[e1]; exact(q2 y hy).1)) ht) (fun y hy=>.inl ⟨by rw[e1]; exact(q2 y hy).1,(q2 y hy).2⟩)
  · rw[bO,if_neg (by omega),if_neg (by omega),if_neg (by omega),if_pos hk] at h0 ⊢
    simp only at h0 ⊢
    have hon:¬ onB s.sub (e.user,e.other)=true:=fun hh=>by rw[if_pos hh] at h0; omega
    rw[if_neg hon]
    have hg:=aHc (p:=(e.user,e.other)) (aDs h) ht t1 r1 r2 (kR r1) (kR r2)
    rw[aQd,if_neg hon] at hg
    refine qD h ht t1 h.h0 h.h1 h.opn (fun x hx=>Int.le_trans (h.late x hx) ht) (fun _ hx=>.inl hx) (fun _ hx=>hx) h.usr hg.1 (fun y hy=>gH.2 ⟨?_,(hg.2 y hy).1,(hg.2 y hy).2.1.symm⟩) h.tmb (fun _ hx=>.inl hx)
    rcases uT.1 hy with rfl | hy
    · exact t0
    · exact(gH.1 (h.sok y hy)).1
  · rw[bO,if_neg (by omega),if_neg (by omega),if_neg (by omega),if_neg (by omega),if_pos hk] at h0 ⊢
    simp only at h0 ⊢
    have hon:onB s.sub (e.user,e.other)=true:=by
      by_cases hh:onB s.sub (e.user,e.other)=true
      · exact hh
      · rw[if_neg hh] at h0; omega
    rw[if_pos hon]
    have hg:=aHc (p:=(e.user,e.other)) (aDs h) ht t1 r1 r2 (kR r1) (kR r2)
    rw[aQd,if_pos hon] at hg
    refine qD h ht t1 h.h0 h.h1 h.opn (fun x hx=>Int.le_trans (h.late x hx) ht) (fun _ hx=>.inl hx) (fun _ hx=>hx) h.usr hg.1 (fun y hy=>gH.2 ⟨?_,(hg.2 y hy).1,(hg.2 y hy).2.1.symm⟩) h.tmb (fun _ hx=>.inl hx)
    rcases yH hy with hy | ⟨z,hz,_,_,rfl⟩
    · exact(gH.1 (h.sok y hy)).1
    · exact(gH.1 (h.sok z hz)).1
  · rw[bO,if_neg (by omega),if_neg (by omega),if_neg (by omega),if_neg (by omega),if_neg (by omega),if_pos hk] at h0 ⊢
    have:=h.h0
    have:=h.h1
    exact qD h ht t1 (by show 0≤max s.hor e.n; omega) (by show max s.hor e.n<_; omega) h.opn (fun x hx=>Int.le_trans (h.late x hx) ht) (fun _ hx=>.inl hx) (fun _ hx=>hx) h.usr h.sub (zW h ht) h.tmb (fun _ hx=>.inl hx)
  · rw[bO,if_neg (by omega),if_neg (by omega),if_neg (by omega),if_neg (by omega),if_neg (by omega),if_neg (by omega)] at h0 ⊢
    refine qD h ht t1 h.h0 h.h1 (aJt _ h.opn) (fun x hx=>Int.le_trans (h.late x (List.mem_filter.1 hx).1) ht) (fun x hx=>.inl (List.mem_filter.1 hx).1) (fun x hx=>?_) (sF h.usr) (aJu _ h.sub) (fun y hy=>zW (o:=[]) (u:=[]) (hr:=0) (tm:=[]) h ht y (List.mem_filter.1 hy).1) (sD h.tmb) (fun x hx=>?_)
    · rcases jW.1 hx with hx | hx
      · exact hx.1
      · unfold tU at hx; rw[if_pos rfl] at hx; cases hx
    · rcases jW.1 hx with hx | hx
      · exact .inl hx.1
      · rw[List.mem_singleton.1 hx]; exact .inr ⟨r1,t0,Int.le_refl _⟩
theorem rR {s:Sta} {e:Ev} (h:RightP s) (h0:(bT s e).2=0):RightP (bT s e).1:=by
  unfold bT at h0 ⊢
  split at h0
  · rename_i he
    rw[if_pos he]
    split at h0
    · simp at h0
    · rename_i ht
      rw[if_neg ht]
      split at h0
      · rename_i h2
        rw[if_pos h2]
        exact aOy h he (Int.not_lt.1 ht) h2
      · rename_i h2; exact absurd h0 h2
  · simp at h0
theorem fP:RightP aJ:=pV.1 (by decide)
theorem aUv (l:List Us) (u:ByteArray) (x:cB) (h:cX cZ l):(mN l u x).length≤l.length+1:=by
  unfold mN; split
  · omega
  · have e:=(sH (u:=u) h).1
    have e2:=congrArg List.length e
    have:=@aJs u (iU (ofU l u) x)
    simp only[kE,yF,List.length_append] at *
    omega
end Go.Abs
set_option linter.unusedVariables false
set_option linter.unusedSimpArgs false
namespace Go.Abs
open Go
theorem aS2 (a b:Int):IntKind.i64.wrap (IntKind.i64.wrap a+b)=IntKind.i64.wrap (a+b):=by
  rw[IntKind.wrap_i64,IntKind.wrap_i64,IntKind.wrap_i64]; omega
theorem aLg {l:List Us} {k:Nat} (hk:k<l.length):xL (l.take (k+1))=xL (l.take k)+l[k].2.length:=by
  rw[xL,xL,jK l _ k hk,List.sum_append]; simp
theorem nR {a b:Sta}:a=b↔a.now=b.now∧a.hor=b.hor∧a.opn=b.opn∧a.usr=b.usr∧a.sub=b.sub∧a.tmb=b.tmb:=by
  cases a; cases b; simp only[Sta.mk.injEq]
theorem bK {a:ByteArray}:a.toList=[]↔a=bs0:=by
  have:bs0.toList=[]:=by rw[oX]
  rw[← this,toList_inj]
theorem has_not {α:Type} {key:α→ByteArray} {l:List α} {u:ByteArray}:mI key (l.filter fun x=>!isK key u x) u=false:=by
  rw[mI,List.any_eq_false]
  intro x hx
  have:=(List.mem_filter.1 hx).2
  simpa using this
theorem aJe {l:List Tm} {u:ByteArray} {t:Int} (h:cX dR l):(l.filter fun x=>!isK dR u x).take (dS dR (l.filter fun x=>!isK dR u x) u)++(u,t)::(l.filter fun x=>!isK dR u x).drop (dS dR (l.filter fun x=>!isK dR u x) u)=mC l u t:=by
  rw[aQe (key:=dR) (gU h _) has_not,mC]
  refine kU (key:=dR) (vS (gU h _) (by simp) (by simp)) (vS h (by simp) (by simp)) fun x=>?_
  rw[jW,jW,List.mem_filter]
  simp only[isK,Bool.not_eq_true',decide_eq_false_iff_not]
  constructor
  · rintro (⟨⟨a,_⟩,b⟩ | a)
    · exact .inl ⟨a,b⟩
    · exact .inr a
  · rintro (⟨a,b⟩ | a)
    · exact .inl ⟨⟨a,b⟩,b⟩
    · exact .inr a
theorem aQ5 {l:List Tm} {u:ByteArray} {t:Int} (h:cX dR l):((l.filter fun x=>!isK dR u x).map tmC).take (dS dR (l.filter fun x=>!isK dR u x) u)++[.s (.string u),.s (.int .i64 t)]::((l.filter fun x=>!isK dR u x).map tmC).drop (dS dR (l.filter fun x=>!isK dR u x) u)=(mC l u t).map tmC:=by
  rw[← aJe h]
  simp only[List.map_append,List.map_cons,List.map_take,List.map_drop]; rfl
theorem aS5 {l:List Tm} {u:ByteArray} {t:Int}:(mC l u t).length≤l.length+1:=by
  have:(mC l u t).length=(l.filter (loK dR u)).length+((l.filter (hiK dR u)).length+1):=by simp [mC,yF]
  have h2:(l.filter (loK dR u)).length+(l.filter (hiK dR u)).length≤l.length:=by
    induction l with
    | nil=>simp
    | cons x l ih =>
      simp only[List.filter_cons]
      have:¬ (loK dR u x=true∧hiK dR u x=true):=by
        rintro ⟨a,b⟩
        simp only[loK,hiK,decide_eq_true_eq] at a b
        omega
      have ih:=ih (by simp [mC,yF])
      by_cases a:loK dR u x=true <;> by_cases b:hiK dR u x=true <;> simp [a,b] <;> first | omega | exact absurd ⟨a,b⟩ this
  omega
theorem erU {s:Sta} {u:ByteArray} {t:Int} (hr:cX cZ s.usr):(s.usr.filter fun x=>!isK cZ u x)=(fX s u t).usr:=by
  show _=kE s.usr u []
  rw[kE,tU,if_pos rfl]
  exact aDj hr u
theorem erUl {s:Sta} {u:ByteArray} {t:Int} (hr:cX cZ s.usr):(s.usr.filter fun x=>!isK cZ u x).length=((fX s u t).usr.map usC).length:=by rw[List.length_map,erU hr]
theorem erTl {l:List Tm} {u:ByteArray} {t:Int} (h:cX dR l):(l.filter fun x=>!isK dR u x).length+1=((mC l u t).map tmC).length:=by
  have hp:=yN (key:=dR) (l.filter fun x=>!isK dR u x) u
  rw[← aJe h,List.length_map,List.length_append,List.length_cons,List.length_take,List.length_drop]
  omega
theorem dF {P:Program} {t:TypeId} {k:IntKind} {a b:Int} (h:a≠b):qZ P .eql t (.int k a) (.int k b)=some (.bool false):=by
  simp [qZ,xP,h]
theorem aTc {l:List Us} {u:ByteArray} (h:cX cZ l):(kE l u []).length≤l.length:=by
  have e:kE l u []=l.filter fun x=>!isK cZ u x:=by rw[kE,tU,if_pos rfl]; exact(aDj h u).symm
  rw[e]; exact List.length_filter_le _ _
theorem erSz {n m:Nat} {s:Sta} {u:ByteArray} {t:Int} (hz:SzS n s) (hr:cX cZ s.usr) (hm:n+24≤m):SzS m (fX s u t):=by
  have h1:=List.length_filter_le (fun e=>!pS u e) s.opn
  have h2:=List.length_filter_le (fun e=>!nG u e) s.sub
  have h3:=aTc (u:=u) hr
  have h4:=aS5 (l:=s.tmb) (u:=u) (t:=t)
  have z1:=hz.o
  have z2:=hz.u
  have z3:=hz.b
  have z4:=hz.t
  refine⟨?_,?_,?_,?_,fun x hx=>?_⟩
  · show (s.opn.filter fun e=>!pS u e).length*40≤m
    omega
  · show (kE s.usr u []).length*40≤m
    omega
  · show (s.sub.filter fun e=>!nG u e).length*48≤m
    omega
  · show (mC s.tmb u t).length*24≤m
    omega
  · have hx':x∈kE s.usr u []:=hx
    rcases jW.1 hx' with ⟨hx',_⟩ | hx'
    · have:=hz.y x hx'; omega
    · unfold tU at hx'; rw[if_pos rfl] at hx'; cases hx'
theorem addSz {n m:Nat} {s:Sta} {u:ByteArray} {x:cB} (hz:SzS n s) (hr:cX cZ s.usr) (hm:n+40≤m):SzS m (eC s u x):=by
  have z1:=hz.o
  have z2:=hz.u
  have z3:=hz.b
  have z4:=hz.t
  have q:=aUv s.usr u x hr
  refine⟨by show s.opn.length*40≤m; omega,by show (mN s.usr u x).length*40≤m; omega,by show s.sub.length*48≤m; omega,by show s.tmb.length*24≤m; omega,fun y hy=>?_⟩
  have hy':y∈mN s.usr u x:=hy
  unfold mN at hy'
  split at hy'
  · have:=hz.y y hy'; omega
  · rcases jW.1 hy' with ⟨hy',_⟩ | hy'
    · have:=hz.y y hy'; omega
    · unfold tU at hy'
      split at hy'
      · cases hy'
      · rw[List.mem_singleton.1 hy']
        have h1:(ofU s.usr u).length*32≤n:=aCr (p:=fun x=>x.2.length*32≤n) hr hz.y (by simp)
        have h2:=aFa (ofU s.usr u) x
        show (iU (ofU s.usr u) x).length*32≤m
        omega
theorem aUt {l:List Us} {u:ByteArray} {x:cB} (h:cX cZ l):cX cZ (mN l u x):=by
  unfold mN; split
  · exact h
  · exact sF h
end Go.Abs
set_option linter.unusedVariables false
set_option linter.unusedSimpArgs false
namespace Go.Proofs.YtijnkglkchhomaaGreat
open Go Go.Abs
theorem aJl (s:Sta) (u:ByteArray) (t:Int) (hz:SzS 140737488353280 s) (ho:s.opn.length≤50) (hr:cX cZ s.usr) :Den Tryz.prog 30 [.agg (aL s),.s (.string u),.s (.int .i64 t)]  (·=.sl 4 ((aJk s u t).map stC)):=by
 have z1:=hz.o
 have z2:=hz.u
 have hlm:(s.usr.map usC).length=s.usr.length:=List.length_map _
 have hpl:=yN (key:=cZ) s.usr u
 have hsl:=aQ8 s.opn u t
 have hou:(ofU s.usr u).length*32≤140737488353280:=aCr (p:=fun x=>x.2.length*32≤140737488353280) hr hz.y (by simp)
 refine aY Tryz.func30 rfl (Nat.le_of_ble_eq_true rfl) (fun w0 A hf=>(aC (fun K1 hK1=>(aB (aM hf rfl (cT rfl rfl (lf rfl)) (aH rfl (bR) (aD (hK1 _ (aC (fun K2 hK2=>(aB (aH rfl (rM (k:=4)) (aD (hK2 _ (aC (fun K3 hK3=>?_))))))))))))))))
 refine aC (fun K4 hK4=>(aB (aE aA 3 rfl (aM hf rfl (aQ rfl rfl aFj rfl (aC4 s.usr u (by omega) hr)) (aE aA 5 rfl (aD (hK4 _ (aC (fun K5 hK5=>(aB (aE aA 1 rfl (aD (hK5 _ (aO rfl (fun hc1=>?_) (fun hc1=>?_)))))))))))))))
 ·
  obtain ⟨hk0,he⟩:=aAd hr (show mI cZ s.usr u=true by assumption)
  refine aB (aE aA 3 rfl (aH rfl (bA rfl rfl fB dX (mS (k:=dS cZ s.usr u) (by omega) hk0)) (aE aA 2 rfl (aM hf rfl (aQ rfl rfl xR rfl (dI (xD s.usr[dS cZ s.usr u].2 (by rw[he]; show (ofU s.usr u).length*32≤_; omega)))) ?_))))
  refine aE aA 1 rfl (aD (hK3 _ (aC (fun K6 hK6=>(aC (fun K7 hK7=>(aB (aE aA 4 rfl (aM hf rfl (aQ rfl rfl aFi rfl (aAx s.opn u t (by omega))) (aE aA 2 rfl (aD (hK7 _ (aR (bY (ι:=Nat×List cB) (fun(⟨k,out⟩:Nat×List cB)=>⟨42,[(7,.sl 4 (out.map stC)),(31,.sl 4 ((hY s.opn u t).map stC)),(32,.s (.int .i64 (((hY s.opn u t).map stC).length:Nat))),(33,.s (.int .i64 (k:Nat)))],[]⟩) (fun(⟨k,out⟩:Nat×List cB)=>k≤(hY s.opn u t).length∧out=((hY s.opn u t).take k).foldl iU (ofU s.usr u)∧out.length≤(ofU s.usr u).length+k) (fun(⟨k,out⟩:Nat×List cB)=>(hY s.opn u t).length - k) (0,ofU s.usr u) ?_ ?_ ?_))))))))))))))
  · exact⟨Nat.zero_le _,rfl,Nat.le_refl _⟩
  · first | exact lE ⟨(by rw[show (ofU s.usr u)=(s.usr[dS cZ s.usr u]).2 from by rw[he]]; rfl),rfl,rfl,rfl,trivial⟩ | exact lE ⟨(by rw[qN hno]; rfl),rfl,rfl,rfl,trivial⟩
  ·
   rintro ⟨k,out⟩ hC
   obtain ⟨h1,h2,h3⟩:=hC
   refine aC (fun K8 hK8=>(aB (aE aA 1 rfl (aD (hK8 _ (aC (fun K9 hK9=>(aO rfl (fun hc2=>?_) (fun hc2=>?_)))))))))
   ·
    simp only[bs] at hc2
    refine aP (hK9 _ (aC (fun K10 hK10=>(aR (aC (fun K11 hK11=>(aB ?_)))))))
    refine aH rfl (bA rfl rfl cS bH (by first | exact ixm (by omega) | assumption | exact⟨by decide,rfl⟩)) ?_
    refine aE aA 1 rfl (cF hf rfl eY rfl bH rfl rfl rfl rfl (lf rfl) (aD (hK11 _ (aB (aE aA 2 rfl (aM hf rfl (aQ rfl rfl xQ rfl (aFb out (hY s.opn u t)[k] (by omega))) (aE aA 1 rfl ?_)))))))
    refine bL ?_
    refine hK10 _ (aB ?_)
    refine aH rfl (bS rfl rfl (by omega) (by omega)) ?_
    refine aE aA 1 rfl (aD ?_)
    exact⟨(k+1,iU out (hY s.opn u t)[k]),⟨by omega,by rw[aC8 (hY s.opn u t) iU _ k (by omega),← h2],by have:=aFa out (hY s.opn u t)[k]; omega⟩,by simp only; omega,cW rfl⟩
   ·
    simp only[bs] at hc2
    refine bF (hK6 _ (aC (fun K12 hK12=>(aB (aE aA 2 rfl (aD (hK12 _ (aN ?_))))))))
    refine⟨_,rfl,?_⟩
    show AV.sl 4 (out.map stC)=_
    rw[h2,List.take_of_length_le (by omega)]; rfl
 ·
  have hno:mI cZ s.usr u=false:=by simp_all
  refine aP (hK3 _ (aC (fun K13 hK13=>(aC (fun K14 hK14=>(aB (aE aA 4 rfl (aM hf rfl (aQ rfl rfl aFi rfl (aAx s.opn u t (by omega))) (aE aA 2 rfl (aD (hK14 _ (aR (bY (ι:=Nat×List cB) (fun(⟨k,out⟩:Nat×List cB)=>⟨42,[(7,.sl 4 (out.map stC)),(31,.sl 4 ((hY s.opn u t).map stC)),(32,.s (.int .i64 (((hY s.opn u t).map stC).length:Nat))),(33,.s (.int .i64 (k:Nat)))],[]⟩) (fun(⟨k,out⟩:Nat×List cB)=>k≤(hY s.opn u t).length∧out=((hY s.opn u t).take k).foldl iU (ofU s.usr u)∧out.length≤(ofU s.usr u).length+k) (fun(⟨k,out⟩:Nat×List cB)=>(hY s.opn u t).length - k) (0,ofU s.usr u) ?_ ?_ ?_)))))))))))))
  · exact⟨Nat.zero_le _,rfl,Nat.le_refl _⟩
  · first | exact lE ⟨(by rw[show (ofU s.usr u)=(s.usr[dS cZ s.usr u]).2 from by rw[he]]; rfl),rfl,rfl,rfl,trivial⟩ | exact lE ⟨(by rw[qN hno]; rfl),rfl,rfl,rfl,trivial⟩
  ·
   rintro ⟨k,out⟩ hC
   obtain ⟨h1,h2,h3⟩:=hC
   refine aC (fun K15 hK15=>(aB (aE aA 1 rfl (aD (hK15 _ (aC (fun K16 hK16=>(aO rfl (fun hc3=>?_) (fun hc3=>?_)))))))))
   ·
    simp only[bs] at hc3
    refine aP (hK16 _ (aC (fun K17 hK17=>(aR (aC (fun K18 hK18=>(aB ?_)))))))
    refine aH rfl (bA rfl rfl cS bH (by first | exact ixm (by omega) | assumption | exact⟨by decide,rfl⟩)) ?_
    refine aE aA 1 rfl (cF hf rfl eY rfl bH rfl rfl rfl rfl (lf rfl) (aD (hK18 _ (aB (aE aA 2 rfl (aM hf rfl (aQ rfl rfl xQ rfl (aFb out (hY s.opn u t)[k] (by omega))) (aE aA 1 rfl ?_)))))))
    refine bL ?_
    refine hK17 _ (aB ?_)
    refine aH rfl (bS rfl rfl (by omega) (by omega)) ?_
    refine aE aA 1 rfl (aD ?_)
    exact⟨(k+1,iU out (hY s.opn u t)[k]),⟨by omega,by rw[aC8 (hY s.opn u t) iU _ k (by omega),← h2],by have:=aFa out (hY s.opn u t)[k]; omega⟩,by simp only; omega,cW rfl⟩
   ·
    simp only[bs] at hc3
    refine bF (hK13 _ (aC (fun K19 hK19=>(aB (aE aA 2 rfl (aD (hK19 _ (aN ?_))))))))
    refine⟨_,rfl,?_⟩
    show AV.sl 4 (out.map stC)=_
    rw[h2,List.take_of_length_le (by omega)]; rfl
theorem aDz (s:Sta) (hz:SzS 140737488353280 s) :Den Tryz.prog 45 [.agg (aL s)]  (·=.s (.int .i64 (IntKind.i64.wrap ((aEw s:Nat):Int)))):=by
 have z1:=hz.o
 have z2:=hz.u
 have z3:=hz.b
 have z4:=hz.t
 have y1:(s.opn.map seC).length=s.opn.length:=List.length_map _
 have y2:(s.sub.map enC).length=s.sub.length:=List.length_map _
 have y3:(s.tmb.map tmC).length=s.tmb.length:=List.length_map _
 refine aY Tryz.func45 rfl (Nat.le_of_ble_eq_true rfl) (fun w0 A hf=>(aC (fun K1 hK1=>(aB (aM hf rfl (cT rfl rfl (lf rfl)) (aE aA 1 rfl (aD (hK1 _ (aC (fun K2 hK2=>(aB (aE aA 6 rfl ?_))))))))))))
 refine aH rfl (bS rfl rfl (by omega) (by omega)) ?_
 refine aE aA 3 rfl ?_
 refine aH rfl (bS rfl rfl (by omega) (by omega)) ?_
 refine aE aA 1 rfl (aD (hK2 _ (aC (fun K3 hK3=>(aC (fun K4 hK4=>(aB (aE aA 1 rfl (aD (hK4 _ (aR (bY (ι:=Nat) (fun k=>⟨33,[(1,.adr (aL s)),(3,.s (.int .i64 (IntKind.i64.wrap ((s.opn.length+s.sub.length+s.tmb.length+xL (s.usr.take k):Nat):Int)))),(4,.s (.int .i64 (k:Nat)))],[]⟩) (fun k=>k≤s.usr.length) (fun k=>s.usr.length - k) 0 ?_ ?_ ?_))))))))))))
 · exact Nat.zero_le _
 · exact lE ⟨rfl,(aU (by rw[List.take_zero,show xL []=0 from rfl,wrap_i64 (by omega) (by omega)]; simp only[List.length_map]; omega)),rfl,trivial⟩
 ·
  rintro k hC
  refine aC (fun K5 hK5=>(aC (fun K6 hK6=>(aB (aE aA 5 rfl (aD (hK6 _ (aO rfl (fun hc1=>?_) (fun hc1=>?_)))))))))
  ·
   simp only[bs] at hc1
   refine aP (hK5 _ (aC (fun K7 hK7=>(aR (aB (aE aA 4 rfl ?_))))))
   refine aH rfl (bA rfl rfl eJ eG (by first | exact ixm (by omega) | assumption | exact⟨by decide,rfl⟩)) ?_
   refine aE aA 3 rfl (aH rfl (dD rfl rfl rfl) (aE aA 1 rfl ?_))
   refine bL ?_
   refine hK7 _ (aB (aE aA 1 rfl ?_))
   refine aH rfl (bS rfl rfl (by omega) (by omega)) ?_
   refine aE aA 1 rfl (aD ?_)
   exact⟨k+1,by omega,by omega,lE ⟨rfl,(aU (by rw[aS2,aLg (by omega)]; congr 1; simp only[List.length_map]; omega)),rfl,trivial⟩⟩
  ·
   simp only[bs] at hc1
   refine bF (hK3 _ (aC (fun K8 hK8=>(aB (aE aA 2 rfl (aD (hK8 _ (aN ?_))))))))
   refine⟨_,rfl,?_⟩
   unfold aEw
   rw[List.take_of_length_le (by omega)]; rfl
theorem aC6 (a b:List Us) (ha:a.length≤9223372036854775807) (hb:b.length≤9223372036854775807) (hx:∀ x∈a,x.2.length≤9223372036854775807) (hy:∀ x∈b,x.2.length≤9223372036854775807) :Den Tryz.prog 77 [.sl 2 (a.map usC),.sl 2 (b.map usC),.fn 78 []]  (·=.s (.bool (decide (a=b)))):=by
 refine aY Tryz.func77 rfl (Nat.le_of_ble_eq_true rfl) (fun w0 A hf=>(aC (fun K1 hK1=>(aB (aE aA 1 rfl (aD (hK1 _ (aC (fun K2 hK2=>(aC (fun K3 hK3=>(aB (aE aA 5 rfl (aD (hK3 _ (aO rfl (fun hc1=>?_) (fun hc1=>?_)))))))))))))))))
 ·
  simp only[bs] at hc1
  refine aC (fun K4 hK4=>(aB (aE aA 1 rfl (aD (hK4 _ (aN ?_))))))
  refine⟨_,rfl,?_⟩
  refine aS ?_
  rw[nH (by omega)]
 ·
  simp only[bs] at hc1
  refine aP (hK2 _ (aC (fun K5 hK5=>(aC (fun K6 hK6=>(aB (aE aA 3 rfl (aD (hK6 _ (aR (bY (ι:=Nat) (fun k=>⟨32,[(1,.sl 2 (b.map usC)),(2,.fn 78 []),(15,.sl 2 (a.map usC)),(16,.s (.int .i64 ((a.map usC).length:Nat))),(17,.s (.int .i64 (k:Nat)))],[]⟩) (fun k=>k≤a.length∧a.take k=b.take k) (fun k=>a.length - k) 0 ?_ ?_ ?_)))))))))))
  · exact⟨Nat.zero_le _,rfl⟩
  · exact cW rfl
  ·
   rintro k hC
   obtain ⟨h1,h2⟩:=hC
   refine aC (fun K7 hK7=>(aB (aE aA 1 rfl (aD (hK7 _ (aC (fun K8 hK8=>(aO rfl (fun hc2=>?_) (fun hc2=>?_)))))))))
   ·
    simp only[bs] at hc2
    refine aP (hK8 _ (aC (fun K9 hK9=>(aR (aC (fun K10 hK10=>(aB (aE aA 1 rfl ?_))))))))
    refine aH rfl (bA rfl rfl fB dX (by first | exact ixm (by omega) | assumption | exact⟨by decide,rfl⟩)) ?_
    refine aE aA 1 rfl (aX hf rfl rfl rfl oN (aE aA 1 rfl (aZ hf rfl rfl dX rfl rfl (l1 rfl) (l4 rfl) rfl (bM (lU (nee 8) (sl':=[(1,_),(2,_),(7,_),(8,_),(15,_),(16,_),(17,_)]) (m':=[]) ⟨⟨_,rfl,rfl⟩,⟨_,rfl,rfl⟩,⟨_,rfl,rfl⟩,⟨_,rfl,rfl⟩,⟨_,rfl,rfl⟩,⟨_,rfl,rfl⟩,⟨_,rfl,rfl⟩,trivial⟩ rfl) (aD (hK10 _ (aC (fun K11 hK11=>(aB (aE aA 2 rfl ?_))))))))))
    refine aH rfl (bA rfl rfl fB dX (by first | exact ixm (by omega) | assumption | exact⟨by decide,rfl⟩)) ?_
    refine aE aA 1 rfl (cF hf rfl oN rfl dX rfl rfl rfl rfl (lf rfl) (aD (hK11 _ (aC (fun K12 hK12=>(aB (aE aA 3 rfl (aM hf rfl (aQ rfl rfl aPh rfl (aN2 a[k] b[k] (hx _ (List.getElem_mem _)) (hy _ (List.getElem_mem _)))) (aE aA 1 rfl (aD (hK12 _ (aO rfl (fun hc3=>?_) (fun hc3=>?_)))))))))))))
    ·
     simp only[bs] at hc3
     refine aC (fun K13 hK13=>(aB (aE aA 1 rfl (aD (hK13 _ (aN ?_))))))
     refine⟨_,rfl,?_⟩
     refine aS ?_
     rw[lG (k:=k) (by omega) (by omega) (by simp_all)]
    ·
     simp only[bs] at hc3
     refine aP (hK9 _ (aB ?_))
     refine aH rfl (bS rfl rfl (by omega) (by omega)) ?_
     refine aE aA 1 rfl (aD ?_)
     exact⟨k+1,⟨by omega,jC (by omega) (by omega) h2 (by simp_all)⟩,by omega,cW rfl⟩
   ·
    simp only[bs] at hc2
    refine bF (hK5 _ (aC (fun K14 hK14=>(aB (aE aA 1 rfl (aD (hK14 _ (aN ?_))))))))
    refine⟨_,rfl,?_⟩
    refine aS ?_
    rw[kK (by omega) (by omega) h2]
end Go.Proofs.YtijnkglkchhomaaGreat
set_option linter.unusedVariables false
set_option linter.unusedSimpArgs false
namespace Go.Proofs.YtijnkglkchhomaaGreat
open Go Go.Abs
theorem aLa (x:Us) (u:ByteArray) :Den Tryz.prog 206 [.agg (usC x),.adr [.s (.string u)]]  (·=.s (.bool (isK cZ u x))):=by
 refine aY Tryz.func206 rfl (Nat.le_of_ble_eq_true rfl) (fun w0 A hf=>(aC (fun K1 hK1=>(aB (aM hf rfl (cT rfl rfl (lf rfl)) (aE aA 1 rfl (aD (hK1 _ (aC (fun K2 hK2=>(aB (aE aA 5 rfl (aD (hK2 _ (aN ?_)))))))))))))))
 refine⟨_,rfl,?_⟩
 refine aS ?_
 rw[Bool.eq_iff_iff]
 simp [isK,toList_inj]
theorem aK9 (x:Tm) (u:ByteArray) :Den Tryz.prog 208 [.agg (tmC x),.adr [.s (.string u)]]  (·=.s (.bool (isK dR u x))):=by
 refine aY Tryz.func208 rfl (Nat.le_of_ble_eq_true rfl) (fun w0 A hf=>(aC (fun K1 hK1=>(aB (aM hf rfl (cT rfl rfl (lf rfl)) (aE aA 1 rfl (aD (hK1 _ (aC (fun K2 hK2=>(aB (aE aA 5 rfl (aD (hK2 _ (aN ?_)))))))))))))))
 refine⟨_,rfl,?_⟩
 refine aS ?_
 rw[Bool.eq_iff_iff]
 simp [isK,toList_inj]
theorem aHd (g k off n:Nat):AV.fromE g (.own E0 k off n)=.own g k off n:=by simp [AV.fromE]
theorem nC (s:Sta):(AV.agg (eX s E0 E1)).ren [(E0,G0),(E1,G1)]=.agg (eX s G0 G1):=rfl
theorem aOw (s:Sta) (u:ByteArray) (t:Int) (hz:SzS 140737488355200 s) (hr:cX cZ s.usr) (hr2:cX dR s.tmb) :DenX Tryz.prog 159 [.agg (eX s E0 E1),.s (.string u),.s (.int .i64 t)] [(E0,.buf 2 (s.usr.map usC)),(E1,.buf 2 (s.tmb.map tmC))] (fun r m=>r=.agg (eX (fX s u t) E0 E1)∧m=[(E0,.buf 2 ((fX s u t).usr.map usC)),(E1,.buf 2 ((fX s u t).tmb.map tmC))]):=by
 have z1:=hz.o
 have z2:=hz.u
 have z3:=hz.b
 have z4:=hz.t
 have tf:=List.length_filter_le (fun x=>!isK dR u x) s.tmb
 have hpl:=yN (key:=dR) (s.tmb.filter fun x=>!isK dR u x) u
 refine jD [(E0,G0),(E1,G1)] Tryz.func159 rfl (Nat.le_of_ble_eq_true rfl) (args':=[.agg (eX s G0 G1),.s (.string u),.s (.int .i64 t)]) (m':=[(G0,.buf 2 (s.usr.map usC)),(G1,.buf 2 (s.tmb.map tmC))]) rfl rfl (by decide) (by decide) rfl (fun w0 o0 A hf=>?_)
 refine aC (fun K1 hK1=>(aB (kD hf rfl rfl rfl rfl (l1 rfl) ?_)))
 refine aM hf rfl (cT rfl rfl (lf rfl)) (aX hf rfl rfl rfl bB (aD (hK1 _ (aC (fun K2 hK2=>(iS hf (L:=#[true,true,true,true,true,true,true,true,true,false,false,false]) 9 3 bN (by kernel_rfl) rfl (by kernel_rfl) rfl ?_))))))
 refine bG aA 3 rfl (cC [(10,_),(11,_)] rfl rfl ⟨⟨rfl,rfl⟩,⟨rfl,rfl⟩,trivial⟩ rfl (aQ rfl rfl aNc rfl (aFt s.opn u (by omega))) (bG aA 3 rfl (cC [(14,_),(15,_)] rfl rfl ⟨⟨rfl,rfl⟩,⟨rfl,rfl⟩,trivial⟩ rfl (aQ rfl rfl aNb rfl (aI9 s.sub u (by omega))) (bG aA 1 rfl (uR [2,3,4,6,12,16,17] rfl rfl rfl ?_)))))
 refine aG 9 [] (by kernel_rfl) ⟨?_,trivial⟩
 ·
  refine⟨_,rfl,rfl,(ao rfl (aZ hf rfl rfl mQ rfl rfl (l1 rfl) (l4 rfl) rfl (aF (aG 10 [] (by kernel_rfl) ⟨?_,trivial⟩))))⟩
  ·
   refine⟨_,rfl,rfl,(ao rfl (aE aA 1 rfl (aF (aG 11 [] (by kernel_rfl) ⟨?_,trivial⟩))))⟩
   ·
    refine⟨_,rfl,rfl,(ao rfl (aZ hf rfl rfl oD rfl rfl (l1 rfl) (l4 rfl) rfl (aF (dB (by kernel_rfl) ?_))))⟩
    refine hK2 _ (aC (fun K3 hK3=>(aB (aE aA 2 rfl (aH rfl (jB rfl) (iD hf G0 rfl rfl rfl rfl rfl aMh (aB6 aMg rfl (fun _=>rfl) (isK cZ u) s.usr _ (by rw[List.length_map]) (by omega) (fun x _=>aLa x u)) ?_))))))
    rintro r zs ⟨rfl,rfl⟩
    rw[aHd]
    refine aE aA 1 rfl (aZ hf rfl rfl rG rfl rfl (l1 rfl) (l4 rfl) rfl (aD (hK3 _ (aC (fun K4 hK4=>(aB (aE aA 2 rfl (aH rfl (jB rfl) (iD hf G1 rfl rfl rfl rfl rfl aMf (aB7 aMe rfl (fun _=>rfl) (isK dR u) s.tmb _ (by rw[List.length_map]) (by omega) (fun x _=>aK9 x u)) ?_)))))))))
    rintro r zs ⟨rfl,rfl⟩
    rw[aHd]
    refine aE aA 1 rfl (aZ hf rfl rfl sY rfl rfl (l1 rfl) (l4 rfl) rfl (aD (hK4 _ (aC (fun K5 hK5=>(aB (aE aA 3 rfl (aM hf rfl (tI rfl rfl (by show [AV.conv _ _,_,_]=_; rw[cE (g:=G1) rfl (by rw[List.length_map])]; rfl) aNe (aNz (s.tmb.filter fun x=>!isK dR u x) u (by omega) (gU hr2 _)) rfl) ?_))))))))
    refine aE aA 5 rfl (aD (hK5 _ (aC (fun K6 hK6=>(aB (aE aA 5 rfl (aH rfl (cK rfl wB aO8 (l3 rfl) rfl) (cP hf rfl rfl rfl mA rfl rfl rfl rfl (l2 rfl) ?_))))))))
    refine jI hf [(E0,G1),(E1,42)] [(E0,43)] rfl rfl rfl rfl rfl rfl (by decide) (by decide) (by decide) rfl aMd (aKq ((s.tmb.filter fun x=>!isK dR u x).map tmC) [.s (.string u),.s (.int .i64 t)] _ (dS dR (s.tmb.filter fun x=>!isK dR u x) u) (by rw[List.length_map]) hpl (by omega)) ?_
    rintro r m1 ⟨rfl,rfl⟩
    refine bM (cJ (sl':=[(3,.ref 3 0 0 0),(6,.ref 6 0 0 0),(43,.own 43 2 0 ((s.tmb.filter fun x=>!isK dR u x).length+1))]) (m':=[(43,.buf 2 (((s.tmb.filter fun x=>!isK dR u x).map tmC).take (dS dR (s.tmb.filter fun x=>!isK dR u x) u)++[.s (.string u),.s (.int .i64 t)]::((s.tmb.filter fun x=>!isK dR u x).map tmC).drop (dS dR (s.tmb.filter fun x=>!isK dR u x) u))),(6,.box [.s (.int .i64 0),.s (.int .i64 0),.s (.slice none 0 0),.s (.slice none 0 0),.s (.slice none 0 0),.s (.slice none 0 0)]),(3,.box [.s (.int .i64 s.now),.s (.int .i64 s.hor),.sl 4 ((s.opn.filter fun e=>!pS u e).map seC),.own G0 2 0 (s.usr.filter fun x=>!isK cZ u x).length,.sl 4 ((s.sub.filter fun e=>!nG u e).map enC),.bad]),(G0,.buf 2 ((s.usr.filter fun x=>!isK cZ u x).map usC))]) ⟨rfl,rfl,rfl,trivial⟩ rfl) ?_
    refine aE aA 1 rfl (aZ hf rfl rfl sY rfl rfl (l1 rfl) (l4 rfl) rfl (aD (hK6 _ (aC (fun K7 hK7=>(aB ?_))))))
    rw[aQ5 hr2,erTl (t:=t) hr2,erUl (t:=t) hr,erU (t:=t) hr]
    refine aH rfl (cD (cs':=eX (fX s u t) G0 43) rfl pH cM rfl rfl rfl) (aZ hf rfl rfl cM rfl rfl (l1 rfl) (l4 rfl) rfl (aD (hK7 _ (aN ?_))))
    exact⟨_,[(E0,G0),(E1,43)],_,Le.refl _,by decide,rfl,rfl,⟨rfl,rfl⟩⟩
end Go.Proofs.YtijnkglkchhomaaGreat
set_option linter.unusedVariables false
set_option linter.unusedSimpArgs false
namespace Go.Proofs.YtijnkglkchhomaaGreat
open Go Go.Abs
theorem wO (l:List Se) (n:Int) (u:ByteArray) (hl:l.length≤9223372036854775807) :Den Tryz.prog 213 [.sl 4 (l.map seC),.s (.int .i64 n),.s (.string u)]  (·=.tup [.agg (seC (aIp l n u)),.s (.int .i64 (eW l n u))]):=by
 refine aY Tryz.func213 rfl (Nat.le_of_ble_eq_true rfl) (fun w0 A hf=>(aC (fun K1 hK1=>(aB (aX hf rfl rfl rfl oB (aE aA 1 rfl (aD (hK1 _ (aC (fun K2 hK2=>(aB (aE aA 2 rfl (aM hf rfl (aQ rfl rfl rX rfl (rK _ _ (by omega))) (aE aA 1 rfl (aD ?_)))))))))))))))
 refine hK2 _ (aC (fun K3 hK3=>(aC (fun K4 hK4=>(aB (aE aA 2 rfl (aD (hK4 _ (aO rfl (fun hc1=>?_) (fun hc1=>?_))))))))))
 ·
  simp only[bs] at hc1
  refine aC (fun K5 hK5=>(aB (aH rfl (cK rfl oB wD (l3 rfl) rfl) (aZ hf rfl rfl eH rfl rfl (l1 rfl) (l4 rfl) rfl (aE aA 1 rfl (aD (hK5 _ (aN ?_))))))))
  refine⟨_,rfl,?_⟩
  have hc:eW l n u=101:=by
   rcases dW (isN n) l with ⟨_,h⟩ | ⟨k',h1,e,h2,h3⟩
   · exact(zE n u l (fun j hj=>h _ (List.getElem_mem hj))).2.1
   · exfalso; omega
  rw[aIp,if_neg (by omega),hc]; rfl
 ·
  simp only[bs] at hc1
  obtain ⟨k,hk,ek,hk1,hk2⟩:∃ k:Nat,∃ h:k<l.length,nQ (isN n) l=(k:Nat)∧isN n l[k]=true∧∀ (j:Nat) (hj:j<l.length),j<k→isN n l[j]=false:=by
   rcases dW (isN n) l with ⟨e,_⟩ | ⟨k',h1,e,h2,h3⟩
   · exfalso; omega
   · exact⟨k',h1,e,h2,h3⟩
  obtain ⟨e1,e2,e3,_⟩:=mT n u 0 0 l k hk hk2 hk1
  rw[ek]
  refine aP (hK3 _ (aC (fun K6 hK6=>(aC (fun K7 hK7=>(aB (aE aA 2 rfl ?_)))))))
  refine aH rfl (bA rfl rfl fS eH (by first | exact ixm (by omega) | assumption | exact⟨by decide,rfl⟩)) ?_
  refine aE aA 4 rfl (aD (hK7 _ (aO rfl (fun hc2=>?_) (fun hc2=>?_))))
  ·
   simp only[bs] at hc2
   refine aC (fun K8 hK8=>(aB (aH rfl (cK rfl oB wD (l3 rfl) rfl) (aZ hf rfl rfl eH rfl rfl (l1 rfl) (l4 rfl) rfl (aE aA 1 rfl (aD (hK8 _ (aN ?_))))))))
   refine⟨_,rfl,?_⟩
   have hc:eW l n u=102:=by rw[e3,if_neg (by simp_all[toList_inj])]
   rw[aIp,if_neg (by omega),hc]; rfl
  ·
   simp only[bs] at hc2
   refine aP (hK6 _ (aC (fun K9 hK9=>(aB (aE aA 2 rfl ?_)))))
   refine aH rfl (bA rfl rfl fS eH (by first | exact ixm (by omega) | assumption | exact⟨by decide,rfl⟩)) ?_
   refine aE aA 1 rfl (aZ hf rfl rfl eH rfl rfl (l1 rfl) (l4 rfl) rfl (aE aA 1 rfl (aD (hK9 _ (aN ?_)))))
   refine⟨_,rfl,?_⟩
   have hc:eW l n u=0:=by rw[e3,if_pos (by simp_all[toList_inj])]
   rw[aIp,if_pos hc,hc,e2]; rfl
theorem aIw (l:List Se) (n:Int) (u:ByteArray) (st t:Int) (hl:l.length*40+40≤140737488355328) :Den Tryz.prog 156 [.sl 4 (l.map seC),.s (.int .i64 n),.s (.string u),.s (.int .i64 st),.s (.int .i64 t)]  (·=.tup [.sl 4 ((mM l n u st t).map seC),.agg (stC (stR l n u t)),.s (.int .i64 (eW l n u))]):=by
 refine aY Tryz.func156 rfl (Nat.le_of_ble_eq_true rfl) (fun w0 A hf=>(aC (fun K1 hK1=>(aB (aH rfl (bR) (aX hf rfl rfl rfl eY (aE aA 1 rfl (aD (hK1 _ (aC (fun K2 hK2=>(aB (aE aA 3 rfl (aM hf rfl (aQ rfl rfl vI rfl (aE3 _ _ _ (by omega))) (aE aA 5 rfl ?_)))))))))))))))
 refine aD (hK2 _ (aC (fun K3 hK3=>(aC (fun K4 hK4=>(aB (aE aA 2 rfl (aD (hK4 _ (aO rfl (fun hc1=>?_) (fun hc1=>?_)))))))))))
 ·
  simp only[bs] at hc1
  refine aC (fun K5 hK5=>(aB (aH rfl (cK rfl eY tP (l3 rfl) rfl) (aE aA 1 rfl (aH rfl (rM (k:=4)) (aZ hf rfl rfl bH rfl rfl (l1 rfl) (l4 rfl) rfl (aE aA 1 rfl (aD (hK5 _ (aN ?_))))))))))
  refine⟨_,rfl,?_⟩
  rw[mM,stR,if_neg (by assumption),if_neg (by assumption)]; rfl
 ·
  simp only[bs] at hc1
  obtain ⟨k,hk,ek,hk1,hk2,hk3⟩:=zB (show eW l n u=0 by assumption)
  obtain ⟨c1,c2,c3⟩:=aIo hk hk1 hk2 hk3
  obtain ⟨_,_,_,c4,c5⟩:=mT n u st t l k hk hk3 hk1
  rw[ek]
  refine aP (hK3 _ (aC (fun K6 hK6=>(aB (aE aA 1 rfl (iP hf rfl rfl rfl rfl rfl jF rfl (jA _ (by omega)) ?_))))))
  rintro _ rfl
  refine aE aA 1 rfl (aD (hK6 _ (aC (fun K7 hK7=>(aB ?_)))))
  have hml:(l.map seC).length=l.length:=List.length_map _
  refine aE aA 6 rfl ?_
  refine aH rfl (cN rfl rfl eP dO (by omega)) ?_
  refine aE aA 1 rfl (aZ hf rfl rfl cI rfl rfl (by simp [AV.cells,AV.one,Value.oneCell']) (by simp [AV.cells,AV.leaf,Value.oneCell']) (iK (c:=4) (k:=k) (f:=2) (enc:=seC) (v:=(l[k].1,(st,l[k].2.2))) (by omega) (by first | omega | (rw[List.length_set]; omega)) (by first | rfl | (simp only[List.getElem_set_self]; rfl)) (Nat.le_of_ble_eq_true rfl)) ?_)
  refine aH rfl (cN rfl rfl eP dO (by omega)) ?_
  refine aE aA 1 rfl (aZ hf rfl rfl cI rfl rfl (by simp [AV.cells,AV.one,Value.oneCell']) (by simp [AV.cells,AV.leaf,Value.oneCell']) (iK (c:=4) (k:=k) (f:=3) (enc:=seC) (v:=(l[k].1,(st,t))) (by omega) (by first | omega | (rw[List.length_set]; omega)) (by first | rfl | (simp only[List.getElem_set_self]; rfl)) (Nat.le_of_ble_eq_true rfl)) ?_)
  refine aD (hK7 _ (aC (fun K8 hK8=>(aB (aE aA 3 rfl ?_)))))
  refine aH rfl (bA rfl rfl eP dO (by first | exact ixm (by omega) | assumption | exact⟨by decide,rfl⟩)) ?_
  refine aE aA 2 rfl (aM hf rfl (aQ rfl rfl vJ rfl (wY _ _)) (aE aA 1 rfl (aZ hf rfl rfl bH rfl rfl (l1 rfl) (l4 rfl) rfl (aE aA 1 rfl (aD (hK8 _ (aN ?_)))))))
  refine⟨_,rfl,?_⟩
  refine(congrArg (fun z=>AV.tup [z,.agg (stC (gG l[k] t)),.s (.int .i64 0)]) (cE (g:=28) rfl (by simp only[List.length_map,List.length_set]))).trans ?_
  rw[mM,stR,if_pos c1,if_pos c1,c1,c2,c4,List.set_set]
theorem aCd (l:List Se) (n:Int) (u:ByteArray) (st t:Int) (hl:l.length*40+40≤140737488355328) :Den Tryz.prog 171 [.sl 4 (l.map seC),.s (.int .i64 n),.s (.string u),.s (.int .i64 st),.s (.int .i64 t)]  (·=.tup [.sl 4 ((mM l n u st t).map seC),.agg (stC (stR l n u t)),.s (.int .i64 (eW l n u))]):=by
 refine aY Tryz.func171 rfl (Nat.le_of_ble_eq_true rfl) (fun w0 A hf=>(aC (fun K1 hK1=>(aB (aH rfl (bR) (aX hf rfl rfl rfl iN (aE aA 1 rfl (aD (hK1 _ (aC (fun K2 hK2=>(aB (aE aA 3 rfl (aM hf rfl (aQ rfl rfl aBq rfl (wO _ _ _ (by omega))) (aE aA 3 rfl ?_)))))))))))))))
 refine cF hf rfl oB rfl eH rfl rfl rfl rfl (lf rfl) (aE aA 1 rfl (aD (hK2 _ (aC (fun K3 hK3=>(aC (fun K4 hK4=>(aB (aE aA 2 rfl (aD (hK4 _ (aO rfl (fun hc1=>?_) (fun hc1=>?_)))))))))))))
 ·
  simp only[bs] at hc1
  refine aC (fun K5 hK5=>(aB (aH rfl (cK rfl iN tR (l3 rfl) rfl) (aE aA 1 rfl (aH rfl (rM (k:=4)) (aZ hf rfl rfl eL rfl rfl (l1 rfl) (l4 rfl) rfl (aE aA 1 rfl (aD (hK5 _ (aN ?_))))))))))
  refine⟨_,rfl,?_⟩
  rw[mM,stR,if_neg (by assumption),if_neg (by assumption)]; rfl
 ·
  simp only[bs] at hc1
  obtain ⟨k,hk,ek,hk1,hk2,hk3⟩:=zB (show eW l n u=0 by assumption)
  obtain ⟨c1,c2,c3⟩:=aIo hk hk1 hk2 hk3
  obtain ⟨_,_,_,c4,c5⟩:=mT n u st t l k hk hk3 hk1
  refine aP (hK3 _ (aC (fun K6 hK6=>(aB (cP hf rfl rfl rfl fO rfl rfl rfl rfl (l2 rfl) ?_)))))
  refine aE aA 1 rfl (bZ hf rfl fO rfl rfl rfl (.inl rfl) (by first | rfl | (simp only[List.length_append,List.length_map,List.length_cons,List.length_nil,List.length_take] <;> omega)) rfl (by first | rfl | simp [eB,bV]) (by first | (simp only[maxLen,List.length_map,List.length_append,List.length_cons,List.length_nil]; omega) | (simp [maxLen] <;> omega)) (by first | (simp only[List.length_map,List.length_append,List.length_cons,List.length_nil]; omega) | (simp <;> omega)) ?_)
  refine bM (dY [0,1,2,3,4,11,13,29] rfl) (aE aA 1 rfl (aD (hK6 _ (aC (fun K7 hK7=>(aB ?_))))))
  have hml:(l.map seC).length=l.length:=List.length_map _
  have hix:nQ (isN n) l=(k:Nat):=jZ hk hk3 hk1
  refine aE aA 3 rfl (aM hf rfl (aQ rfl rfl rX rfl (rK _ _ (by omega))) (aE aA 4 rfl (aH rfl (cK rfl oB wD (l3 rfl) rfl) ?_)))
  rw[hix]
  refine aH rfl (cN rfl rfl fS eH (by omega)) ?_
  refine aZ hf rfl rfl eH rfl rfl (by simp [seC,AV.cells,AV.one,Value.oneCell',splice,AV.kill,AV.clean,cleanL,AV.only]) (by simp [seC,AV.cells,AV.leaf,Value.oneCell',splice,AV.kill,AV.clean,cleanL,AV.only]) (iK (c:=4) (k:=k) (enc:=seC) (v:=((n,u),(st,t))) (by omega) (by omega) rfl (Nat.le_refl _)) ?_
  refine aD (hK7 _ (aC (fun K8 hK8=>(aB (aE aA 3 rfl (aM hf rfl (aQ rfl rfl aBx rfl (wM _ _)) (aE aA 1 rfl (aZ hf rfl rfl eL rfl rfl (l1 rfl) (l4 rfl) rfl (aE aA 1 rfl (aD (hK8 _ (aN ?_))))))))))))
  refine⟨_,rfl,?_⟩
  refine(congrArg (fun z=>AV.tup [z,.agg (stC (gG (aIp l n u) t)),.s (.int .i64 0)]) (cE (g:=27) rfl (by simp only[List.length_map,List.length_set,Nat.zero_add]))).trans ?_
  rw[mM,stR,aIp,if_pos c1,if_pos c1,if_pos c1,c1,c4,c3]
end Go.Proofs.YtijnkglkchhomaaGreat
set_option linter.unusedVariables false
set_option linter.unusedSimpArgs false
namespace Go.Proofs.YtijnkglkchhomaaGreat
open Go Go.Abs
theorem aLm (l:List Se) (n:Int) (u:ByteArray) (t:Int) (hl:l.length*40+40≤140737488355328) :Den Tryz.prog 89 [.sl 4 (l.map seC),.s (.int .i64 n),.s (.string u),.s (.int .i64 t)]  (·=.tup [.sl 4 ((mL l n u).map seC),.agg (stC (stR l n u t)),.s (.int .i64 (eW l n u))]):=by
 refine aY Tryz.func89 rfl (Nat.le_of_ble_eq_true rfl) (fun w0 A hf=>(aC (fun K1 hK1=>(aB (aH rfl (bR) (aX hf rfl rfl rfl eY (aE aA 1 rfl (aD (hK1 _ (aC (fun K2 hK2=>(aB (aE aA 3 rfl (aM hf rfl (aQ rfl rfl vI rfl (aE3 _ _ _ (by omega))) (aE aA 5 rfl ?_)))))))))))))))
 refine aD (hK2 _ (aC (fun K3 hK3=>(aC (fun K4 hK4=>(aB (aE aA 2 rfl (aD (hK4 _ (aO rfl (fun hc1=>?_) (fun hc1=>?_)))))))))))
 ·
  simp only[bs] at hc1
  refine aC (fun K5 hK5=>(aB (aH rfl (cK rfl eY tP (l3 rfl) rfl) (aE aA 1 rfl (aH rfl (rM (k:=4)) (aZ hf rfl rfl bH rfl rfl (l1 rfl) (l4 rfl) rfl (aE aA 1 rfl (aD (hK5 _ (aN ?_))))))))))
  refine⟨_,rfl,?_⟩
  rw[mL,stR,if_neg (by assumption),if_neg (by assumption)]; rfl
 ·
  simp only[bs] at hc1
  obtain ⟨k,hk,ek,hk1,hk2,hk3⟩:=zB (show eW l n u=0 by assumption)
  obtain ⟨c1,c2,c3⟩:=aIo hk hk1 hk2 hk3
  obtain ⟨_,_,_,c4,c5⟩:=mT n u 0 t l k hk hk3 hk1
  rw[ek]
  refine aP (hK3 _ (aC (fun K6 hK6=>(iS hf (L:=#[true,true,true,true,true,true,true,true,true,true,true,true,true,true,true,true,false,false]) 16 2 bN (by kernel_rfl) rfl (by kernel_rfl) rfl ?_))))
  refine bG aA 2 rfl (bX [(24,_),(25,_)] rfl rfl ⟨⟨rfl,rfl⟩,⟨rfl,rfl⟩,trivial⟩ rfl (dL rfl eP dO rfl (iR rfl (by omega)) (by omega) (by simp only[List.length_map,Int.toNat_natCast] <;> omega) (iQ (k:=k) (by omega))) ?_)
  refine bG aA 2 rfl ?_
  refine bX [(28,_)] rfl rfl ⟨⟨rfl,rfl⟩,trivial⟩ rfl (bS rfl rfl (by omega) (by omega)) ?_
  refine bX [(27,_),(29,_)] rfl rfl ⟨⟨rfl,rfl⟩,⟨rfl,rfl⟩,trivial⟩ rfl (dL rfl eP dO (iR rfl (by omega)) rfl (by simp only[List.length_map,Int.toNat_natCast] <;> omega) (by omega) (fU (k:=k+1) (by omega))) ?_
  refine cC [(26,_),(30,_)] rfl rfl ⟨⟨rfl,rfl⟩,⟨rfl,rfl⟩,trivial⟩ rfl (bD xX rfl rfl rfl rfl (l2 rfl)) (cC [(31,_)] rfl rfl ⟨⟨rfl,rfl⟩,trivial⟩ rfl (aQ rfl rfl vH rfl ((show Den Tryz.prog _ _ (·=.sl 4 ((l.take k++l.drop (k+1)).map seC)) from (dI (uB [l.take k,l.drop (k+1)] (by simp) (by simp only[List.flatten_cons,List.flatten_nil,List.length_append,List.length_take,List.length_drop,List.length_nil]; omega))).mono fun r h=>h.trans (by simp)))) ?_)
  refine bG aA 2 rfl ?_
  refine bX [(33,_),(34,_)] rfl rfl ⟨⟨rfl,rfl⟩,⟨rfl,rfl⟩,trivial⟩ rfl (bA rfl rfl eP dO (by first | exact ixm (by omega) | assumption | exact⟨by decide,rfl⟩)) ?_
  refine bG aA 2 rfl (cC [(36,_),(37,_)] rfl rfl ⟨⟨rfl,rfl⟩,⟨rfl,rfl⟩,trivial⟩ rfl (aQ rfl rfl vJ rfl (wY l[k] t)) (bG aA 1 rfl (uR [8,9,38] rfl rfl rfl ?_)))
  refine aG 16 [] (by kernel_rfl) ⟨?_,trivial⟩
  ·
   refine⟨_,rfl,rfl,(ao rfl (aZ hf rfl rfl bH rfl rfl (l1 rfl) (l4 rfl) rfl (aF (aG 17 [] (by kernel_rfl) ⟨?_,trivial⟩))))⟩
   ·
    refine⟨_,rfl,rfl,(ao rfl (aE aA 1 rfl (aF (dB (by kernel_rfl) ?_))))⟩
    refine hK6 _ (aN ?_)
    refine⟨_,rfl,?_⟩
    rw[mL,stR,if_pos c1,if_pos c1,c1,c2,c5]; rfl
theorem uJ (l:List Se) (n:Int) (u:ByteArray) (t:Int) (hl:l.length*40+40≤140737488355328) :Den Tryz.prog 170 [.sl 4 (l.map seC),.s (.int .i64 n),.s (.string u),.s (.int .i64 t)]  (·=.tup [.sl 4 ((mL l n u).map seC),.agg (stC (stR l n u t)),.s (.int .i64 (eW l n u))]):=by
 refine aY Tryz.func170 rfl (Nat.le_of_ble_eq_true rfl) (fun w0 A hf=>(aC (fun K1 hK1=>(aB (aH rfl (bR) (aX hf rfl rfl rfl iN (aE aA 1 rfl (aD (hK1 _ (aC (fun K2 hK2=>(aB (aE aA 3 rfl (aM hf rfl (aQ rfl rfl aBq rfl (wO _ _ _ (by omega))) (aE aA 3 rfl ?_)))))))))))))))
 refine cF hf rfl oB rfl eH rfl rfl rfl rfl (lf rfl) (aE aA 1 rfl (aD (hK2 _ (aC (fun K3 hK3=>(aC (fun K4 hK4=>(aB (aE aA 2 rfl (aD (hK4 _ (aO rfl (fun hc1=>?_) (fun hc1=>?_)))))))))))))
 ·
  simp only[bs] at hc1
  refine aC (fun K5 hK5=>(aB (aH rfl (cK rfl iN tR (l3 rfl) rfl) (aE aA 1 rfl (aH rfl (rM (k:=4)) (aZ hf rfl rfl eL rfl rfl (l1 rfl) (l4 rfl) rfl (aE aA 1 rfl (aD (hK5 _ (aN ?_))))))))))
  refine⟨_,rfl,?_⟩
  rw[mL,stR,if_neg (by assumption),if_neg (by assumption)]; rfl
 ·
  simp only[bs] at hc1
  obtain ⟨k,hk,ek,hk1,hk2,hk3⟩:=zB (show eW l n u=0 by assumption)
  obtain ⟨c1,c2,c3⟩:=aIo hk hk1 hk2 hk3
  obtain ⟨_,_,_,c4,c5⟩:=mT n u 0 t l k hk hk3 hk1
  have hix:nQ (isN n) l=(k:Nat):=jZ hk hk3 hk1
  refine aP (hK3 _ (aC (fun K6 hK6=>(aB (jT hf 4 rfl rfl rfl (aD (hK6 _ (aC (fun K7 hK7=>(aC (fun K8 hK8=>(aB (aE aA 1 rfl (aD (hK8 _ ?_)))))))))))))))
  refine aR (bY (ι:=Nat×List Se) (fun(⟨j,out⟩:Nat×List Se)=>⟨48,[(0,.sl 4 (l.map seC)),(1,.s (.int .i64 n)),(3,.s (.int .i64 t)),(9,.ref 9 0 0 0),(11,.adr (seC (aIp l n u))),(13,.own 13 4 0 out.length),(14,.s (.int .i64 (j:Nat)))],[(13,.buf 4 (out.map seC)),(9,.box [.s (.int .i64 0),.s (.int .i64 0),.s (.int .i64 0),.s (.int .i64 0)])]⟩) (fun(⟨j,out⟩:Nat×List Se)=>j≤l.length∧out=(l.take j).eraseIdx k∧out.length≤j) (fun(⟨j,out⟩:Nat×List Se)=>l.length - j) (0,[]) ?_ ?_ ?_)
  · exact⟨Nat.zero_le _,rfl,Nat.le_refl _⟩
  · exact cW rfl
  ·
   rintro ⟨j,out⟩ hC
   obtain ⟨h1,h2,h3⟩:=hC
   refine aC (fun K9 hK9=>(aC (fun K10 hK10=>(aB (aE aA 4 rfl (aD (hK10 _ (aO rfl (fun hc2=>?_) (fun hc2=>?_)))))))))
   ·
    simp only[bs] at hc2
    refine aP (hK9 _ (aC (fun K11 hK11=>(aR (aC (fun K12 hK12=>(aB (aE aA 3 rfl (aM hf rfl (aQ rfl rfl rX rfl (rK _ _ (by omega))) ?_)))))))))
    rw[hix]
    refine aE aA 1 rfl (aD (hK12 _ (aO rfl (fun hc3=>?_) (fun hc3=>?_))))
    ·
     simp only[bs] at hc3
     refine aB (aE aA 3 rfl ?_)
     refine aH rfl (bA rfl rfl fS eH (by first | exact ixm (by omega) | assumption | exact⟨by decide,rfl⟩)) ?_
     refine aE aA 1 rfl (aM hf rfl (bD fO rfl rfl rfl rfl (l2 rfl)) (bZ hf rfl fO rfl rfl rfl (.inl rfl) (by first | rfl | (simp only[List.length_append,List.length_map,List.length_cons,List.length_nil,List.length_take] <;> omega)) rfl (by first | rfl | simp [eB,bV]) (by first | (simp only[maxLen,List.length_map,List.length_append,List.length_cons,List.length_nil]; omega) | (simp [maxLen] <;> omega)) (by first | (simp only[List.length_map,List.length_append,List.length_cons,List.length_nil]; omega) | (simp <;> omega)) ?_))
     refine bM (dY [0,1,3,9,11,14,43] rfl) (aE aA 1 rfl ?_)
     refine bL ?_
     refine hK11 _ (aB (aE aA 1 rfl ?_))
     refine aH rfl (bS rfl rfl (by omega) (by omega)) ?_
     refine aE aA 1 rfl (aD ?_)
     exact⟨(j+1,out++[l[j]]),⟨by omega,by rw[h2,er_ne (by omega) (by omega)],by rw[List.length_append]; simp only[List.length_cons,List.length_nil]; omega⟩,by simp only; omega,cJ ⟨rfl,rfl,rfl,rfl,rfl,(by first | rfl | (rw[List.length_append]; rfl)),rfl,trivial⟩ (by rw[List.map_append]; rfl)⟩
    ·
     simp only[bs] at hc3
     refine aP (hK11 _ (aB (aE aA 1 rfl ?_)))
     refine aH rfl (bS rfl rfl (by omega) (by omega)) ?_
     refine aE aA 1 rfl (aD ?_)
     exact⟨(j+1,out),⟨by omega,by rw[h2,show j=k by omega,er_eq hk],by omega⟩,by simp only; omega,cJ ⟨rfl,rfl,rfl,rfl,rfl,(by first | rfl | (rw[List.length_append]; rfl)),rfl,trivial⟩ rfl⟩
   ·
    simp only[bs] at hc2
    refine bF (hK7 _ (aC (fun K13 hK13=>(aB (aE aA 3 rfl (aM hf rfl (aQ rfl rfl aBx rfl (wM _ _)) (aE aA 1 rfl (aZ hf rfl rfl eL rfl rfl (l1 rfl) (l4 rfl) rfl (aE aA 1 rfl (aD (hK13 _ (aN ?_))))))))))))
    refine⟨_,rfl,?_⟩
    refine(congrArg (fun z=>AV.tup [z,.agg (stC (gG (aIp l n u) t)),.s (.int .i64 0)]) (cE (g:=13) rfl (by rw[List.length_map]))).trans ?_
    rw[mL,stR,aIp,if_pos c1,if_pos c1,if_pos c1,c1,c5,h2,List.take_of_length_le (by omega),er_end]
end Go.Proofs.YtijnkglkchhomaaGreat
set_option linter.unusedVariables false
set_option linter.unusedSimpArgs false
namespace Go.Proofs.YtijnkglkchhomaaGreat
open Go Go.Abs
theorem aOc (l:List Se) (e:Se) (hl:l.length*40+40≤140737488355328) :Den Tryz.prog 155 [.sl 4 (l.map seC),.agg (seC e)]  (·=.tup [.sl 4 ((mG l e).map seC),.s (.int .i64 (nT l e))]):=by
 refine aY Tryz.func155 rfl (Nat.le_of_ble_eq_true rfl) (fun w0 A hf=>(aC (fun K1 hK1=>(aB (aM hf rfl (cT rfl rfl (lf rfl)) (aH rfl (bR) (aE aA 1 rfl (aD (hK1 _ (aC (fun K2 hK2=>(aB (aE aA 5 rfl (aM hf rfl (aQ rfl rfl vI rfl (aE3 _ _ _ (by omega))) (aE aA 5 rfl ?_)))))))))))))))
 refine aD (hK2 _ (aC (fun K3 hK3=>(aR (aC (fun K4 hK4=>(aB (aE aA 3 rfl (aD (hK4 _ (aO rfl (fun hc1=>?_) (fun hc1=>?_))))))))))))
 ·
  simp only[bs] at hc1
  refine aC (fun K5 hK5=>(aB (aH rfl (rM (k:=4)) (aE aA 1 rfl (aD (hK5 _ (aN ?_)))))))
  refine⟨_,rfl,?_⟩
  have ho:nT l e=100:=by
   unfold nT
   rw[if_pos (by have:=(aLh (l:=l) (n:=e.1.1) (u:=e.1.2)); cases hh:aAj l e.1.1 <;> simp_all)]
  rw[mG,if_neg (by omega),ho]; rfl
 ·
  simp only[bs] at hc1
  have hno:aAj l e.1.1=false:=(aLh (u:=e.1.2)).1 (by assumption)
  refine aC (fun K6 hK6=>(aB (aE aA 4 rfl (aD (hK6 _ (aO rfl (fun hc2=>?_) (fun hc2=>?_)))))))
  ·
   simp only[bs] at hc2
   refine aC (fun K7 hK7=>(aB (aH rfl (rM (k:=4)) (aE aA 1 rfl (aD (hK7 _ (aN ?_)))))))
   refine⟨_,rfl,?_⟩
   have ho:nT l e=103:=by
    unfold nT
    rw[if_neg (by simp [hno]),if_pos (by omega)]
   rw[mG,if_neg (by omega),ho]; rfl
  ·
   simp only[bs] at hc2
   refine aP (hK3 _ (aC (fun K8 hK8=>(aB (aE aA 1 rfl (aH rfl (jB rfl) (aM hf rfl (aQ rfl rfl aBt rfl (uA aMl rfl (iB e.1.1) l (by omega) (fun x _=>aRn x e))) (aE aA 1 rfl (aD (hK8 _ (aC (fun K9 hK9=>(aC (fun K10 hK10=>(aB ?_)))))))))))))))
   refine aE aA 2 rfl (aD (hK10 _ (aO rfl (fun hc3=>?_) (fun hc3=>?_))))
   ·
    simp only[bs] at hc3
    obtain ⟨k,hk⟩:∃ k:Nat,k=l.length:=⟨_,rfl⟩
    have hnA:∀ x∈l,iB e.1.1 x=false:=by
     rcases dW (iB e.1.1) l with ⟨_,h⟩ | ⟨k',_,e0,_⟩
     · exact h
     · exfalso; omega
    have hins:=yU (iB e.1.1) e l k (by omega) (fun j hj _=>hnA _ (List.getElem_mem hj)) (fun h=>by omega)
    refine aB (aE aA 2 rfl ?_)
    rw[List.length_map,← hk]
    refine aE aA 1 rfl (aD (hK9 _ (aC (fun K11 hK11=>(dM hf bN (by kernel_rfl) rfl (bG aA 2 rfl (bX [(32,_),(33,_)] rfl rfl ⟨⟨rfl,rfl⟩,⟨rfl,rfl⟩,trivial⟩ rfl (dL rfl eP dO rfl (iR rfl (by omega)) (by omega) (by simp only[List.length_map,Int.toNat_natCast] <;> omega) (iQ (k:=k) (by omega))) ?_)))))))
    refine bG aA 1 rfl (cC [(35,_)] rfl rfl ⟨⟨rfl,rfl⟩,trivial⟩ rfl (bD mB rfl rfl rfl rfl (l2 rfl)) (bG aA 2 rfl (bX [(37,_),(38,_)] rfl rfl ⟨⟨rfl,rfl⟩,⟨rfl,rfl⟩,trivial⟩ rfl (dL rfl eP dO (iR rfl (by omega)) rfl (by simp only[List.length_map,Int.toNat_natCast] <;> omega) (by omega) (fU (k:=k) (by omega))) ?_)))
    refine cC [(34,_),(36,_),(39,_)] rfl rfl ⟨⟨rfl,rfl⟩,⟨rfl,rfl⟩,⟨rfl,rfl⟩,trivial⟩ rfl (bD xX rfl rfl rfl rfl (l2 rfl)) (cC [(40,_)] rfl rfl ⟨⟨rfl,rfl⟩,trivial⟩ rfl (aQ rfl rfl vH rfl ((show Den Tryz.prog _ _ (·=.sl 4 ((l.take k++e::l.drop k).map seC)) from (dI (uB [l.take k,[e],l.drop k] (by simp) (by simp only[List.flatten_cons,List.flatten_nil,List.length_append,List.length_take,List.length_drop,List.length_cons,List.length_nil]; omega))).mono fun r h=>h.trans (by simp)))) ?_)
    refine bG aA 2 rfl (dQ [4,5] rfl rfl rfl (hK11 _ (aN ?_)))
    refine⟨_,rfl,?_⟩
    have ho:nT l e=0:=by
     unfold nT
     rw[if_neg (by simp [hno]),if_neg (by omega)]
    rw[mG,if_pos ho,ho,wH,hins]; rfl
   ·
    simp only[bs] at hc3
    obtain ⟨k,hk,ek,hk1,hk2⟩:∃ k:Nat,∃ h:k<l.length,nQ (iB e.1.1) l=(k:Nat)∧iB e.1.1 l[k]=true∧∀ (j:Nat) (hj:j<l.length),j<k→iB e.1.1 l[j]=false:=by
     rcases dW (iB e.1.1) l with ⟨e0,_⟩ | ⟨k',h1,e0,h2,h3⟩
     · exfalso; omega
     · exact⟨k',h1,e0,h2,h3⟩
    rw[ek]
    have hins:=yU (iB e.1.1) e l k (by omega) hk2 (fun _=>hk1)
    refine aP (hK9 _ (aC (fun K12 hK12=>(dM hf bN (by kernel_rfl) rfl (bG aA 2 rfl (bX [(32,_),(33,_)] rfl rfl ⟨⟨rfl,rfl⟩,⟨rfl,rfl⟩,trivial⟩ rfl (dL rfl eP dO rfl (iR rfl (by omega)) (by omega) (by simp only[List.length_map,Int.toNat_natCast] <;> omega) (iQ (k:=k) (by omega))) ?_))))))
    refine bG aA 1 rfl (cC [(35,_)] rfl rfl ⟨⟨rfl,rfl⟩,trivial⟩ rfl (bD mB rfl rfl rfl rfl (l2 rfl)) (bG aA 2 rfl (bX [(37,_),(38,_)] rfl rfl ⟨⟨rfl,rfl⟩,⟨rfl,rfl⟩,trivial⟩ rfl (dL rfl eP dO (iR rfl (by omega)) rfl (by simp only[List.length_map,Int.toNat_natCast] <;> omega) (by omega) (fU (k:=k) (by omega))) ?_)))
    refine cC [(34,_),(36,_),(39,_)] rfl rfl ⟨⟨rfl,rfl⟩,⟨rfl,rfl⟩,⟨rfl,rfl⟩,trivial⟩ rfl (bD xX rfl rfl rfl rfl (l2 rfl)) (cC [(40,_)] rfl rfl ⟨⟨rfl,rfl⟩,trivial⟩ rfl (aQ rfl rfl vH rfl ((show Den Tryz.prog _ _ (·=.sl 4 ((l.take k++e::l.drop k).map seC)) from (dI (uB [l.take k,[e],l.drop k] (by simp) (by simp only[List.flatten_cons,List.flatten_nil,List.length_append,List.length_take,List.length_drop,List.length_cons,List.length_nil]; omega))).mono fun r h=>h.trans (by simp)))) ?_)
    refine bG aA 2 rfl (dQ [4,5] rfl rfl rfl (hK12 _ (aN ?_)))
    refine⟨_,rfl,?_⟩
    have ho:nT l e=0:=by
     unfold nT
     rw[if_neg (by simp [hno]),if_neg (by omega)]
    rw[mG,if_pos ho,ho,wH,hins]; rfl
theorem aF2 (l:List Se) (e:Se) (hl:l.length*40+40≤140737488355328) :Den Tryz.prog 169 [.sl 4 (l.map seC),.agg (seC e)]  (·=.tup [.sl 4 ((mG l e).map seC),.s (.int .i64 (nT l e))]):=by
 refine aY Tryz.func169 rfl (Nat.le_of_ble_eq_true rfl) (fun w0 A hf=>(aC (fun K1 hK1=>(aB (aM hf rfl (cT rfl rfl (lf rfl)) (aH rfl (bR) (aE aA 1 rfl (aD (hK1 _ (aC (fun K2 hK2=>(aC (fun K3 hK3=>(aB (aE aA 3 rfl (aM hf rfl (aQ rfl rfl rX rfl (rK _ _ (by omega))) ?_))))))))))))))))
 refine aE aA 1 rfl (aD (hK3 _ (aO rfl (fun hc1=>?_) (fun hc1=>?_))))
 ·
  simp only[bs] at hc1
  refine aC (fun K4 hK4=>(aB (aH rfl (rM (k:=4)) (aE aA 1 rfl (aD (hK4 _ (aN ?_)))))))
  refine⟨_,rfl,?_⟩
  have ho:nT l e=100:=by
   unfold nT
   rw[if_pos (by rcases dW (isN e.1.1) l with ⟨e0,_⟩ | ⟨k',h1,e0,h2,h3⟩; exact absurd e0 (by omega); exact List.any_eq_true.2 ⟨_,List.getElem_mem h1,h2⟩)]
  rw[mG,if_neg (by omega),ho]; rfl
 ·
  simp only[bs] at hc1
  have hno:aAj l e.1.1=false:=by
   rcases dW (isN e.1.1) l with ⟨_,h⟩ | ⟨k',h1,e0,h2,h3⟩
   · exact(zE e.1.1 e.1.2 l (fun j hj=>h _ (List.getElem_mem hj))).2.2
   · exfalso; omega
  refine aP (hK2 _ (aC (fun K5 hK5=>(aC (fun K6 hK6=>(aB (aE aA 3 rfl (aD (hK6 _ (aO rfl (fun hc2=>?_) (fun hc2=>?_)))))))))))
  ·
   simp only[bs] at hc2
   refine aC (fun K7 hK7=>(aB (aH rfl (rM (k:=4)) (aE aA 1 rfl (aD (hK7 _ (aN ?_)))))))
   refine⟨_,rfl,?_⟩
   have ho:nT l e=103:=by
    unfold nT
    rw[if_neg (by simp [hno]),if_pos (by omega)]
   rw[mG,if_neg (by omega),ho]; rfl
  ·
   simp only[bs] at hc2
   refine aP (hK5 _ (aC (fun K8 hK8=>(aB (aE aA 1 rfl (aD (hK8 _ (aC (fun K9 hK9=>(aR (bY (ι:=Nat) (fun k=>⟨46,[(0,.sl 4 (l.map seC)),(3,.adr (seC e)),(6,.s (.int .i64 (k:Nat)))],[]⟩) (fun k=>k≤l.length∧∀ (j:Nat) (hj:j<l.length),j<k→iB e.1.1 l[j]=false) (fun k=>l.length - k) 0 ?_ ?_ ?_)))))))))))
   · exact⟨Nat.zero_le _,by omega⟩
   · exact cW rfl
   ·
    rintro k hC
    obtain ⟨h1,h2⟩:=hC
    refine aC (fun K10 hK10=>(aC (fun K11 hK11=>(dM hf bN (by kernel_rfl) rfl (bG aA 5 rfl (gP 20 true rfl (fun hg3=>?_) (fun hg3=>?_)))))))
    ·
     simp only[bs] at hg3
     refine bG aA 2 rfl ?_
     refine bX [(21,_),(22,_)] rfl rfl ⟨⟨rfl,rfl⟩,⟨rfl,rfl⟩,trivial⟩ rfl (bA rfl rfl fS eH (by first | exact ixm (by omega) | assumption | exact⟨by decide,rfl⟩)) ?_
     refine bG aA 6 rfl (dQ [0,3,6,29] rfl rfl rfl (hK11 _ (aO rfl (fun hc4=>?_) (fun hc4=>?_))))
     ·
      simp only[bs] at hc4
      refine aP (hK10 _ (aR (aB (aE aA 1 rfl ?_))))
      refine aH rfl (bS rfl rfl (by omega) (by omega)) ?_
      refine aE aA 1 rfl ?_
      refine bL ?_
      exact⟨k+1,⟨by omega,fun j hj hjk=>by
       by_cases e0:j=k
       · subst e0; simp only[iB,decide_eq_false_iff_not]; (try simp only[decide_eq_true_eq,decide_eq_false_iff_not,Bool.not_eq_true'] at *); omega
       · exact h2 j hj (by omega)⟩,by omega,cW rfl⟩
     ·
      simp only[bs] at hc4
      refine bF (hK9 _ (aC (fun K12 hK12=>(aB ?_))))
      have hins:=yU (iB e.1.1) e l k (by omega) h2 (fun h=>by simp only[iB,decide_eq_true_eq]; (try simp only[decide_eq_true_eq,decide_eq_false_iff_not,Bool.not_eq_true'] at *); omega)
      refine cP hf rfl rfl rfl fO rfl rfl rfl rfl (l2 rfl) ?_
      refine aE aA 2 rfl (aH rfl (dL rfl fS eH rfl (iR rfl (by omega)) (by omega) (by simp only[List.length_map,Int.toNat_natCast] <;> omega) (iQ (k:=k) (by omega))) ?_)
      refine bZ hf rfl fO rfl rfl rfl (.inl rfl) (by first | rfl | (simp only[List.length_append,List.length_map,List.length_cons,List.length_nil,List.length_take] <;> omega)) rfl (by first | rfl | simp [eB,bV]) (by first | (simp only[maxLen,List.length_map,List.length_append,List.length_cons,List.length_nil]; omega) | (simp [maxLen] <;> omega)) (by first | (simp only[List.length_map,List.length_append,List.length_cons,List.length_nil]; omega) | (simp <;> omega)) ?_
      refine bM (dY [0,3,6,36] rfl) (aE aA 1 rfl (aD (hK12 _ (aC (fun K13 hK13=>(aB (aE aA 2 rfl (aM hf rfl (bD fO rfl rfl rfl rfl (l2 rfl)) (bZ hf rfl fO rfl rfl rfl (.inl rfl) (by first | rfl | (simp only[List.length_append,List.length_map,List.length_cons,List.length_nil,List.length_take] <;> omega)) rfl (by first | rfl | simp [eB,bV]) (by first | (simp only[maxLen,List.length_map,List.length_append,List.length_cons,List.length_nil]; omega) | (simp [maxLen] <;> omega)) (by first | (simp only[List.length_map,List.length_append,List.length_cons,List.length_nil]; omega) | (simp <;> omega)) ?_)))))))))
      refine bM (dY [0,6,40] rfl) (aE aA 1 rfl (aD (hK13 _ (aC (fun K14 hK14=>(aB (aE aA 3 rfl (aH rfl (dL rfl fS eH (iR rfl (by omega)) rfl (by simp only[List.length_map,Int.toNat_natCast] <;> omega) (by omega) (fU (k:=k) (by omega))) ?_))))))))
      refine bZ hf rfl fO rfl rfl rfl (.inl rfl) (by first | rfl | (simp only[List.length_append,List.length_map,List.length_cons,List.length_nil,List.length_take] <;> omega)) rfl (by first | rfl | simp [eB,bV]) (by first | (simp only[maxLen,List.length_map,List.length_append,List.length_cons,List.length_nil]; omega) | (simp [maxLen] <;> omega)) (by first | (simp only[List.length_map,List.length_append,List.length_cons,List.length_nil]; omega) | (simp <;> omega)) ?_
      refine bM (dY [45] rfl) (aE aA 2 rfl (aD (hK14 _ (aN ?_))))
      refine⟨_,rfl,?_⟩
      have ho:nT l e=0:=by
       unfold nT
       rw[if_neg (by simp [hno]),if_neg (by omega)]
      refine(congrArg (fun z=>AV.tup [z,.s (.int .i64 0)]) (cE (g:=32) rfl ?_)).trans ?_
      · simp only[List.length_append,List.length_map,List.length_cons,List.length_nil,List.length_take]
      · rw[mG,if_pos ho,ho,wH,hins]; first | (simp; done) | (simp; rfl)
    ·
     simp only[bs] at hg3
     refine bG aA 9 rfl (dQ [0,3,6,29] rfl rfl rfl (hK11 _ (bJ rfl (bF (hK9 _ (aC (fun K15 hK15=>(aB ?_))))))))
     have hins:=yU (iB e.1.1) e l k (by omega) h2 (fun h=>by simp only[iB,decide_eq_true_eq]; (try simp only[decide_eq_true_eq,decide_eq_false_iff_not,Bool.not_eq_true'] at *); omega)
     refine cP hf rfl rfl rfl fO rfl rfl rfl rfl (l2 rfl) ?_
     refine aE aA 2 rfl (aH rfl (dL rfl fS eH rfl (iR rfl (by omega)) (by omega) (by simp only[List.length_map,Int.toNat_natCast] <;> omega) (iQ (k:=k) (by omega))) ?_)
     refine bZ hf rfl fO rfl rfl rfl (.inl rfl) (by first | rfl | (simp only[List.length_append,List.length_map,List.length_cons,List.length_nil,List.length_take] <;> omega)) rfl (by first | rfl | simp [eB,bV]) (by first | (simp only[maxLen,List.length_map,List.length_append,List.length_cons,List.length_nil]; omega) | (simp [maxLen] <;> omega)) (by first | (simp only[List.length_map,List.length_append,List.length_cons,List.length_nil]; omega) | (simp <;> omega)) ?_
     refine bM (dY [0,3,6,36] rfl) (aE aA 1 rfl (aD (hK15 _ (aC (fun K16 hK16=>(aB (aE aA 2 rfl (aM hf rfl (bD fO rfl rfl rfl rfl (l2 rfl)) (bZ hf rfl fO rfl rfl rfl (.inl rfl) (by first | rfl | (simp only[List.length_append,List.length_map,List.length_cons,List.length_nil,List.length_take] <;> omega)) rfl (by first | rfl | simp [eB,bV]) (by first | (simp only[maxLen,List.length_map,List.length_append,List.length_cons,List.length_nil]; omega) | (simp [maxLen] <;> omega)) (by first | (simp only[List.length_map,List.length_append,List.length_cons,List.length_nil]; omega) | (simp <;> omega)) ?_)))))))))
     refine bM (dY [0,6,40] rfl) (aE aA 1 rfl (aD (hK16 _ (aC (fun K17 hK17=>(aB (aE aA 3 rfl (aH rfl (dL rfl fS eH (iR rfl (by omega)) rfl (by simp only[List.length_map,Int.toNat_natCast] <;> omega) (by omega) (fU (k:=k) (by omega))) ?_))))))))
     refine bZ hf rfl fO rfl rfl rfl (.inl rfl) (by first | rfl | (simp only[List.length_append,List.length_map,List.length_cons,List.length_nil,List.length_take] <;> omega)) rfl (by first | rfl | simp [eB,bV]) (by first | (simp only[maxLen,List.length_map,List.length_append,List.length_cons,List.length_nil]; omega) | (simp [maxLen] <;> omega)) (by first | (simp only[List.length_map,List.length_append,List.length_cons,List.length_nil]; omega) | (simp <;> omega)) ?_
     refine bM (dY [45] rfl) (aE aA 2 rfl (aD (hK17 _ (aN ?_))))
     refine⟨_,rfl,?_⟩
     have ho:nT l e=0:=by
      unfold nT
      rw[if_neg (by simp [hno]),if_neg (by omega)]
     refine(congrArg (fun z=>AV.tup [z,.s (.int .i64 0)]) (cE (g:=32) rfl ?_)).trans ?_
     · simp only[List.length_append,List.length_map,List.length_cons,List.length_nil,List.length_take]
     · rw[mG,if_pos ho,ho,wH,hins]; first | (simp; done) | (simp; rfl)
end Go.Proofs.YtijnkglkchhomaaGreat
set_option linter.unusedVariables false
set_option linter.unusedSimpArgs false
namespace Go.Proofs.YtijnkglkchhomaaGreat
open Go Go.Abs
theorem aF0 (l:List En) (hl:l.length≤9223372036854775807) (ht:∀ e∈l,TS e.1.1∧TS e.1.2) :Den Tryz.prog 47 [.sl 4 (l.map enC)]  (·=.s (.bool (aFw l))):=by
 refine aY Tryz.func47 rfl (Nat.le_of_ble_eq_true rfl) (fun w0 A hf=>(aC (fun K1 hK1=>(aB (aE aA 1 rfl (aD (hK1 _ (aC (fun K2 hK2=>(aC (fun K3 hK3=>(aB (aE aA 1 rfl (aD (hK3 _ (aR ?_))))))))))))))))
 refine bY (ι:=Nat) (fun k=>⟨75,[(0,.sl 4 (l.map enC)),(3,.s (.int .i64 (k:Nat)))],[]⟩) (fun k=>k≤l.length∧aFw l=pO okE aKf (kO l k) (l.drop k)) (fun k=>l.length - k) 0 ?_ ?_ ?_
 · exact⟨Nat.zero_le _,rfl⟩
 · exact cW rfl
 ·
  rintro k hC
  obtain ⟨h1,h2⟩:=hC
  refine aC (fun K4 hK4=>(aC (fun K5 hK5=>(aB (aE aA 4 rfl (aD (hK5 _ (aO rfl (fun hc1=>?_) (fun hc1=>?_)))))))))
  ·
   simp only[bs] at hc1
   refine aP (hK4 _ (aC (fun K6 hK6=>(aR (aC (fun K7 hK7=>(aB (aE aA 2 rfl ?_))))))))
   refine aH rfl (bA rfl rfl fR eQ (by first | exact ixm (by omega) | assumption | exact⟨by decide,rfl⟩)) ?_
   refine aE aA 1 rfl (cF hf rfl rA rfl eQ rfl rfl rfl rfl (lf rfl) (aD (hK7 _ (aC (fun K8 hK8=>(aC (fun K9 hK9=>(aB (aE aA 6 rfl (bC rfl rfl rfl (fun hg2=>?_) (fun hg2=>?_)))))))))))
   ·
    simp only[bs] at hg2
    refine aH rfl (bQ rfl aLx cU rfl) ?_
    refine aE aA 1 rfl (bP rfl rfl rfl (aM hf rfl (aQ rfl rfl gV rfl (Nm.refRight_den _ (by first | assumption | exact(ht _ (List.getElem_mem _)).1 | exact(ht _ (List.getElem_mem _)).2))) ?_))
    refine aE aA 3 rfl (bC rfl rfl rfl (fun hg3=>?_) (fun hg3=>?_))
    ·
     simp only[bs] at hg3
     refine aH rfl (bQ rfl aBf cU rfl) ?_
     refine aE aA 1 rfl (bP rfl rfl rfl (aM hf rfl (aQ rfl rfl gV rfl (Nm.refRight_den _ (by first | assumption | exact(ht _ (List.getElem_mem _)).1 | exact(ht _ (List.getElem_mem _)).2))) ?_))
     refine aE aA 2 rfl (aD (hK9 _ (aO rfl (fun hc4=>?_) (fun hc4=>?_))))
     ·
      simp only[bs] at hc4
      refine aC (fun K10 hK10=>(aB (aE aA 1 rfl (aD (hK10 _ (aN ?_))))))
      refine⟨_,rfl,?_⟩
      refine aS ?_
      rw[kF h2 (by omega) (aTv (by first | exact .inl (by omega) | exact .inr (.inl (by assumption)) | exact .inr (.inr (.inl (by assumption))) | exact .inr (.inr (.inr (by assumption))) | (simp_all; done)))]
     ·
      simp only[bs] at hc4
      refine aP (hK8 _ (aC (fun K11 hK11=>(aC (fun K12 hK12=>(aB (aE aA 2 rfl (aD (hK12 _ (aO rfl (fun hc5=>?_) (fun hc5=>?_)))))))))))
      ·
       simp only[bs] at hc5
       refine bF (hK6 _ (aB (aE aA 1 rfl ?_)))
       refine aH rfl (bS rfl rfl (by omega) (by omega)) ?_
       refine aE aA 1 rfl (aD ?_)
       exact⟨k+1,⟨by omega,oY h2 (by omega) (aQm (by omega) (by simp_all) (by simp_all)) (fun h0=>vX.2 ⟨by omega,fun e=>by first | omega | exact absurd e (by assumption) | exact absurd e (aIc (by assumption)) | exact absurd e (aIb (by assumption))⟩)⟩,by omega,cW rfl⟩
      ·
       simp only[bs] at hc5
       refine aP (hK11 _ (aC (fun K13 hK13=>(dM hf bN (by kernel_rfl) rfl (bG aA 2 rfl ?_)))))
       refine bX [(35,_)] rfl rfl ⟨⟨rfl,rfl⟩,trivial⟩ rfl (gF rfl rfl (by omega) (by omega)) ?_
       refine bX [(34,_),(36,_)] rfl rfl ⟨⟨rfl,rfl⟩,⟨rfl,rfl⟩,trivial⟩ rfl (bA rfl rfl fR eQ (mS (k:=k - 1) (by omega) (by omega))) (bG aA 2 rfl (cC [(38,_),(39,_)] rfl rfl ⟨⟨rfl,rfl⟩,⟨rfl,rfl⟩,trivial⟩ rfl (aQ rfl rfl aFg rfl (aE7 _ _ (ht _ (List.getElem_mem _)).1 (ht _ (List.getElem_mem _)).2 (ht _ (List.getElem_mem _)).1 (ht _ (List.getElem_mem _)).2)) (bG aA 2 rfl (gP 42 false rfl (fun hg6=>?_) (fun hg6=>?_)))))
       ·
        simp only[bs] at hg6
        refine bG aA 2 rfl ?_
        refine bX [(44,_)] rfl rfl ⟨⟨rfl,rfl⟩,trivial⟩ rfl (gF rfl rfl (by omega) (by omega)) ?_
        refine bX [(43,_),(45,_)] rfl rfl ⟨⟨rfl,rfl⟩,⟨rfl,rfl⟩,trivial⟩ rfl (bA rfl rfl fR eQ (mS (k:=k - 1) (by omega) (by omega))) (bG aA 6 rfl (gP 52 true rfl (fun hg7=>?_) (fun hg7=>?_)))
        ·
         simp only[bs] at hg7
         refine bG aA 2 rfl ?_
         refine bX [(54,_)] rfl rfl ⟨⟨rfl,rfl⟩,trivial⟩ rfl (gF rfl rfl (by omega) (by omega)) ?_
         refine bX [(53,_),(55,_)] rfl rfl ⟨⟨rfl,rfl⟩,⟨rfl,rfl⟩,trivial⟩ rfl (bA rfl rfl fR eQ (mS (k:=k - 1) (by omega) (by omega))) (bG aA 7 rfl (gP 63 true rfl (fun hg8=>?_) (fun hg8=>?_)))
         ·
          simp only[bs] at hg8
          refine bG aA 2 rfl ?_
          refine bX [(65,_)] rfl rfl ⟨⟨rfl,rfl⟩,trivial⟩ rfl (gF rfl rfl (by omega) (by omega)) ?_
          refine bX [(64,_),(66,_)] rfl rfl ⟨⟨rfl,rfl⟩,⟨rfl,rfl⟩,trivial⟩ rfl (bA rfl rfl fR eQ (mS (k:=k - 1) (by omega) (by omega))) (bG aA 7 rfl (dQ [0,3,74] rfl rfl rfl (hK13 _ (aO rfl (fun hc9=>?_) (fun hc9=>?_)))))
          ·
           simp only[bs] at hc9
           refine aC (fun K14 hK14=>(aB (aE aA 1 rfl (aD (hK14 _ (aN ?_))))))
           refine⟨_,rfl,?_⟩
           refine aS ?_
           rw[kV h2 (by omega) (by omega) (aQn (by first | exact .inl (by omega) | exact .inr ⟨by first | assumption | exact aTl (by assumption) (by assumption),by omega⟩))]
          ·
           simp only[bs] at hc9
           refine aP (hK6 _ (aB (aE aA 1 rfl ?_)))
           refine aH rfl (bS rfl rfl (by omega) (by omega)) ?_
           refine aE aA 1 rfl (aD ?_)
           exact⟨k+1,⟨by omega,oY h2 (by omega) (aQm (by omega) (by simp_all) (by simp_all)) (fun h0=>vX.2 ⟨by omega,fun e=>by first | omega | exact absurd e (by assumption) | exact absurd e (aIc (by assumption)) | exact absurd e (aIb (by assumption))⟩)⟩,by omega,cW rfl⟩
         ·
          simp only[bs] at hg8
          refine bG aA 11 rfl (dQ [0,3,74] rfl rfl rfl (hK13 _ (bJ rfl (aP (hK6 _ (aB (aE aA 1 rfl ?_)))))))
          refine aH rfl (bS rfl rfl (by omega) (by omega)) ?_
          refine aE aA 1 rfl (aD ?_)
          exact⟨k+1,⟨by omega,oY h2 (by omega) (aQm (by omega) (by simp_all) (by simp_all)) (fun h0=>vX.2 ⟨by omega,fun e=>by first | omega | exact absurd e (by assumption) | exact absurd e (aIc (by assumption)) | exact absurd e (aIb (by assumption))⟩)⟩,by omega,cW rfl⟩
        ·
         simp only[bs] at hg7
         refine bG aA 22 rfl (dQ [0,3,74] rfl rfl rfl (hK13 _ (bJ rfl (aP (hK6 _ (aB (aE aA 1 rfl ?_)))))))
         refine aH rfl (bS rfl rfl (by omega) (by omega)) ?_
         refine aE aA 1 rfl (aD ?_)
         exact⟨k+1,⟨by omega,oY h2 (by omega) (aQm (by omega) (by simp_all) (by simp_all)) (fun h0=>vX.2 ⟨by omega,fun e=>by first | omega | exact absurd e (by assumption) | exact absurd e (aIc (by assumption)) | exact absurd e (aIb (by assumption))⟩)⟩,by omega,cW rfl⟩
       ·
        simp only[bs] at hg6
        refine bG aA 10 rfl (cL rfl rfl ?_)
        refine cL rfl rfl ?_
        refine cL rfl rfl ?_
        refine cL rfl rfl ?_
        refine cL rfl rfl ?_
        refine cL rfl rfl ?_
        refine cL rfl rfl ?_
        refine cL rfl rfl ?_
        refine cL rfl rfl ?_
        refine bG aA 2 rfl (cL rfl rfl ?_)
        refine cL rfl rfl ?_
        refine cL rfl rfl ?_
        refine cL rfl rfl ?_
        refine cL rfl rfl ?_
        refine cL rfl rfl ?_
        refine cL rfl rfl ?_
        refine cL rfl rfl ?_
        refine cL rfl rfl ?_
        refine bG aA 2 rfl (dQ [0,3,74] rfl rfl rfl (hK13 _ (bW rfl (aC (fun K15 hK15=>(aB (aE aA 1 rfl (aD (hK15 _ (aN ?_))))))))))
        refine⟨_,rfl,?_⟩
        refine aS ?_
        rw[kV h2 (by omega) (by omega) (aQn (by first | exact .inl (by omega) | exact .inr ⟨by first | assumption | exact aTl (by assumption) (by assumption),by omega⟩))]
    ·
     simp only[bs] at hg3
     refine aE aA 4 rfl (aD (hK9 _ (bW rfl (aC (fun K16 hK16=>(aB (aE aA 1 rfl (aD (hK16 _ (aN ?_))))))))))
     refine⟨_,rfl,?_⟩
     refine aS ?_
     rw[kF h2 (by omega) (aTv (by first | exact .inl (by omega) | exact .inr (.inl (by assumption)) | exact .inr (.inr (.inl (by assumption))) | exact .inr (.inr (.inr (by assumption))) | (simp_all; done)))]
   ·
    simp only[bs] at hg2
    refine aE aA 10 rfl (aD (hK9 _ (bW rfl (aC (fun K17 hK17=>(aB (aE aA 1 rfl (aD (hK17 _ (aN ?_))))))))))
    refine⟨_,rfl,?_⟩
    refine aS ?_
    rw[kF h2 (by omega) (aTv (by first | exact .inl (by omega) | exact .inr (.inl (by assumption)) | exact .inr (.inr (.inl (by assumption))) | exact .inr (.inr (.inr (by assumption))) | (simp_all; done)))]
  ·
   simp only[bs] at hc1
   refine bF (hK2 _ (aC (fun K18 hK18=>(aB (aE aA 1 rfl (aD (hK18 _ (aN ?_))))))))
   refine⟨_,rfl,?_⟩
   refine aS ?_
   rw[aDq h2 (by omega)]
theorem aRc (a b:List En) (ha:a.length≤9223372036854775807) (hb:b.length≤9223372036854775807) :Den Tryz.prog 81 [.sl 4 (a.map enC),.sl 4 (b.map enC)]  (·=.s (.bool (decide (a=b)))):=by
 refine aY Tryz.func81 rfl (Nat.le_of_ble_eq_true rfl) (fun w0 A hf=>(aC (fun K1 hK1=>(aB (aE aA 1 rfl (aD (hK1 _ (aC (fun K2 hK2=>(aB (aE aA 2 rfl (aM hf rfl (aQ rfl rfl aNf rfl (aOx a b ha hb)) (aE aA 1 rfl (aD (hK2 _ ?_)))))))))))))))
 refine aN ?_
 refine⟨_,rfl,?_⟩
 rfl
theorem aH2 (a b:List En) (ha:a.length≤9223372036854775807) (hb:b.length≤9223372036854775807) :Den Tryz.prog 59 [.sl 4 (a.map enC),.sl 4 (b.map enC)]  (·=.s (.bool (decide (a=b)))):=by
 refine aY Tryz.func59 rfl (Nat.le_of_ble_eq_true rfl) (fun w0 A hf=>(aC (fun K1 hK1=>(aB (aE aA 1 rfl (aD (hK1 _ (aC (fun K2 hK2=>(aC (fun K3 hK3=>(aB (aE aA 5 rfl (aD (hK3 _ (aO rfl (fun hc1=>?_) (fun hc1=>?_)))))))))))))))))
 ·
  simp only[bs] at hc1
  refine aC (fun K4 hK4=>(aB (aE aA 1 rfl (aD (hK4 _ (aN ?_))))))
  refine⟨_,rfl,?_⟩
  refine aS ?_
  rw[nH (by omega)]
 ·
  simp only[bs] at hc1
  refine aP (hK2 _ (aC (fun K5 hK5=>(aC (fun K6 hK6=>(aB (aE aA 1 rfl (aD (hK6 _ (aR (bY (ι:=Nat) (fun k=>⟨26,[(0,.sl 4 (a.map enC)),(1,.sl 4 (b.map enC)),(5,.s (.int .i64 (k:Nat)))],[]⟩) (fun k=>k≤a.length∧a.take k=b.take k) (fun k=>a.length - k) 0 ?_ ?_ ?_)))))))))))
  · exact⟨Nat.zero_le _,rfl⟩
  · exact cW rfl
  ·
   rintro k hC
   obtain ⟨h1,h2⟩:=hC
   refine aC (fun K7 hK7=>(aC (fun K8 hK8=>(aB (aE aA 4 rfl (aD (hK8 _ (aO rfl (fun hc2=>?_) (fun hc2=>?_)))))))))
   ·
    simp only[bs] at hc2
    refine aP (hK7 _ (aC (fun K9 hK9=>(aR (aC (fun K10 hK10=>(dM hf bN (by kernel_rfl) rfl (bG aA 2 rfl ?_))))))))
    refine bX [(17,_),(18,_)] rfl rfl ⟨⟨rfl,rfl⟩,⟨rfl,rfl⟩,trivial⟩ rfl (bA rfl rfl fR eQ (by first | exact ixm (by omega) | assumption | exact⟨by decide,rfl⟩)) ?_
    refine bG aA 3 rfl ?_
    refine bX [(21,_),(22,_)] rfl rfl ⟨⟨rfl,rfl⟩,⟨rfl,rfl⟩,trivial⟩ rfl (bA rfl rfl fR eQ (by first | exact ixm (by omega) | assumption | exact⟨by decide,rfl⟩)) ?_
    refine bG aA 1 rfl (bX [(20,_),(24,_)] rfl rfl ⟨⟨rfl,rfl⟩,⟨rfl,rfl⟩,trivial⟩ rfl (pP rfl rfl aUz rfl) ?_)
    rw[enC_eqF]
    refine dQ [0,1,5,25] rfl rfl rfl (hK10 _ (aO rfl (fun hc3=>?_) (fun hc3=>?_)))
    ·
     simp only[bs] at hc3
     refine aC (fun K11 hK11=>(aB (aE aA 1 rfl (aD (hK11 _ (aN ?_))))))
     refine⟨_,rfl,?_⟩
     refine aS ?_
     rw[lG (by omega) (by omega) (by assumption)]
    ·
     simp only[bs] at hc3
     refine aP (hK9 _ (aB (aE aA 1 rfl ?_)))
     refine aH rfl (bS rfl rfl (by omega) (by omega)) ?_
     refine aE aA 1 rfl (aD ?_)
     exact⟨k+1,⟨by omega,jC (by omega) (by omega) h2 (by assumption)⟩,by omega,cW rfl⟩
   ·
    simp only[bs] at hc2
    refine bF (hK5 _ (aC (fun K12 hK12=>(aB (aE aA 1 rfl (aD (hK12 _ (aN ?_))))))))
    refine⟨_,rfl,?_⟩
    refine aS ?_
    rw[kK (by omega) (by omega) h2]
theorem nF (l:List En) (hl:l.length*48+48≤140737488355328) :Den Tryz.prog 52 [.sl 4 (l.map enC)]  (·=.sl 4 (l.map enC)):=by
 refine aY Tryz.func52 rfl (Nat.le_of_ble_eq_true rfl) (fun w0 A hf=>(aC (fun K1 hK1=>(aB (aH rfl (bR) (aD (hK1 _ (aC (fun K2 hK2=>(aB (jT hf 4 rfl rfl rfl (aD (hK2 _ (aC (fun K3 hK3=>(aC (fun K4 hK4=>?_)))))))))))))))))
 refine aB (aE aA 3 rfl (aD (hK4 _ (aR (bY (ι:=Nat) (fun k=>⟨26,[(3,.own 3 4 0 (l.take k).length),(6,.sl 4 (l.map enC)),(7,.s (.int .i64 ((l.map enC).length:Nat))),(8,.s (.int .i64 (k:Nat)))],[(3,.buf 4 ((l.take k).map enC))]⟩) (fun k=>k≤l.length) (fun k=>l.length - k) 0 ?_ ?_ ?_)))))
 · exact Nat.zero_le _
 · exact cW rfl
 ·
  rintro k hC
  refine aC (fun K5 hK5=>(aB (aE aA 1 rfl (aD (hK5 _ (aC (fun K6 hK6=>(aO rfl (fun hc1=>?_) (fun hc1=>?_)))))))))
  ·
   simp only[bs] at hc1
   refine aP (hK6 _ (aC (fun K7 hK7=>(aR (aC (fun K8 hK8=>(aB ?_)))))))
   refine aH rfl (bA rfl rfl fR eQ (by first | exact ixm (by omega) | assumption | exact⟨by decide,rfl⟩)) ?_
   refine aE aA 1 rfl (cF hf rfl rA rfl eQ rfl rfl rfl rfl (lf rfl) (aD (hK8 _ (aB ?_))))
   have htl:(l.take k).length=k:=by rw[List.length_take]; omega
   refine aE aA 9 rfl (aM hf rfl (aQ rfl rfl aO9 rfl (one_den _ _ _ _)) (aM hf rfl (bD kM rfl rfl rfl rfl (l2 rfl)) (bZ hf rfl kM rfl rfl rfl (.inl rfl) (by rw[List.length_map]) rfl (by first | rfl | simp [eB,bV]) (by first | (simp only[maxLen,List.length_map,List.length_append,List.length_cons,List.length_nil]; omega) | (simp [maxLen] <;> omega)) (by first | (simp only[List.length_map,List.length_append,List.length_cons,List.length_nil]; omega) | (simp <;> omega)) ?_)))
   refine bM (dY [6,7,8,23] rfl) (aE aA 1 rfl ?_)
   refine bL ?_
   refine hK7 _ (aB ?_)
   refine aH rfl (bS rfl rfl (by omega) (by omega)) ?_
   refine aE aA 1 rfl (aD ?_)
   exact⟨k+1,by omega,by omega,cJ ⟨(by rw[iH l k (by omega)]; rfl),rfl,rfl,rfl,trivial⟩ (by rw[jK l enC k (by omega)]; rfl)⟩
  ·
   simp only[bs] at hc1
   refine bF (hK3 _ (aC (fun K9 hK9=>(aB (aE aA 2 rfl (aD (hK9 _ (aN ?_))))))))
   refine⟨_,rfl,?_⟩
   refine(cE (g:=3) rfl (by rw[List.length_map])).trans ?_
   rw[List.take_of_length_le (by omega)]
theorem nE (l:List En) (hl:l.length*48+48≤140737488355328) :Den Tryz.prog 61 [.sl 4 (l.map enC)]  (·=.sl 4 (l.map enC)):=by
 refine aY Tryz.func61 rfl (Nat.le_of_ble_eq_true rfl) (fun w0 A hf=>(aC (fun K1 hK1=>(aB (aH rfl (bR) (aD (hK1 _ (aC (fun K2 hK2=>(aB (jT hf 4 rfl rfl rfl (aD (hK2 _ (aC (fun K3 hK3=>(aC (fun K4 hK4=>?_)))))))))))))))))
 refine aB (aE aA 3 rfl (aD (hK4 _ (aR (bY (ι:=Nat) (fun k=>⟨30,[(3,.own 3 4 0 (l.take k).length),(6,.sl 4 (l.map enC)),(7,.s (.int .i64 ((l.map enC).length:Nat))),(8,.s (.int .i64 (k:Nat)))],[(3,.buf 4 ((l.take k).map enC))]⟩) (fun k=>k≤l.length) (fun k=>l.length - k) 0 ?_ ?_ ?_)))))
 · exact Nat.zero_le _
 · exact cW rfl
 ·
  rintro k hC
  refine aC (fun K5 hK5=>(aB (aE aA 1 rfl (aD (hK5 _ (aC (fun K6 hK6=>(aO rfl (fun hc1=>?_) (fun hc1=>?_)))))))))
  ·
   simp only[bs] at hc1
   refine aP (hK6 _ (aC (fun K7 hK7=>(aR (aC (fun K8 hK8=>(aB ?_)))))))
   refine aH rfl (bA rfl rfl gC eK (by first | exact ixm (by omega) | assumption | exact⟨by decide,rfl⟩)) ?_
   refine aE aA 1 rfl (cF hf rfl nK rfl eK rfl rfl rfl rfl (lf rfl) (aD (hK8 _ (aB ?_))))
   have htl:(l.take k).length=k:=by rw[List.length_take]; omega
   refine aE aA 13 rfl (aH rfl (cK rfl rA aHk (l3 rfl) rfl) (aM hf rfl (bD eN rfl rfl rfl rfl (l2 rfl)) (bZ hf rfl eN rfl rfl rfl (.inl rfl) (by rw[List.length_map]) rfl (by first | rfl | simp [eB,bV]) (by first | (simp only[maxLen,List.length_map,List.length_append,List.length_cons,List.length_nil]; omega) | (simp [maxLen] <;> omega)) (by first | (simp only[List.length_map,List.length_append,List.length_cons,List.length_nil]; omega) | (simp <;> omega)) ?_)))
   refine bM (dY [6,7,8,27] rfl) (aE aA 1 rfl ?_)
   refine bL ?_
   refine hK7 _ (aB ?_)
   refine aH rfl (bS rfl rfl (by omega) (by omega)) ?_
   refine aE aA 1 rfl (aD ?_)
   exact⟨k+1,by omega,by omega,cJ ⟨(by rw[iH l k (by omega)]; rfl),rfl,rfl,rfl,trivial⟩ (by rw[jK l enC k (by omega)]; rfl)⟩
  ·
   simp only[bs] at hc1
   refine bF (hK3 _ (aC (fun K9 hK9=>(aB (aE aA 2 rfl (aD (hK9 _ (aN ?_))))))))
   refine⟨_,rfl,?_⟩
   refine(cE (g:=3) rfl (by rw[List.length_map])).trans ?_
   rw[List.take_of_length_le (by omega)]
end Go.Proofs.YtijnkglkchhomaaGreat
set_option linter.unusedVariables false
set_option linter.unusedSimpArgs false
namespace Go.Proofs.YtijnkglkchhomaaGreat
open Go Go.Abs
end Go.Proofs.YtijnkglkchhomaaGreat
set_option linter.unusedVariables false
set_option linter.unusedSimpArgs false
namespace Go.Proofs.YtijnkglkchhomaaGreat
open Go Go.Abs
end Go.Proofs.YtijnkglkchhomaaGreat
set_option linter.unusedVariables false
namespace Go.Proofs.YtijnkglkchhomaaGreat
open Go Go.Abs Go.RowKit Go.Lib Go.Sort
theorem yD {P:Program} {ops:Array Oper} {o:Oper} {a:Act} {w:World} {K:Act→World→Prop} {Q:Exit→Act→World→Prop} {E:Prop}
    (hg:o.guard=none) (s x:Operand) (t:TypeId) (hop:o.op=Op.call { callee:=Callee.builtin Builtin.append,args:=#[s,x],argTypes:=#[t,t] })
    {e k:Nat} (ht:elem? P t=some e) (hk:cells? P e=some k) {T:TypeId} (g n cap:Nat) (hs:a.eval s=.slice (some ⟨g,0,none⟩) n cap)
    (cur:Array Value) (hg0:w.heap[g]?=some (.cells cur T (0,0))) (ad:Addr) (m c:Nat) (news:List Value) (hx:a.eval x=.slice (some ad) m c) (hl:news.length=m*k)
    (hnews:∀ j u,news[j]?=some u→w.cell? (ad.add j)=some u) (h1:∀ u∈news,u.oneCell'=true) (hroom:n+m≤cap) (hfit:n*k+news.length≤cur.size)
    (hK:K (a.put o.dst (.slice (some ⟨g,0,none⟩) (n+m) cap)) (w.setRow g (cur.toList.take (n*k)++news++cur.toList.drop (n*k+news.length)).toArray)) :
    if Region.wanted o (yielded ops a.tmps)=true then Oper.wp P o a w K Q else E:=by
  have hw:Region.wanted o (yielded ops a.tmps)=true:=by simp [Region.wanted,hg]
  rw[if_pos hw]
  have hrun:=oH (P:=P) (t:=t) (ty:=o.type) ht hk g n cap cur hg0 ad m c news hl hnews h1 hroom hfit
  unfold Oper.wp
  have he:(execOp a.eval o).run P w=((Builtin.append_ #[t,t] o.type #[a.eval s,a.eval x]).run P w).andThen fun v w'=>.ok (.value v) w':=by
    simp [execOp,hop,resolve,invoke,builtin]
  rw[he,hs,hx,hrun]
  exact hK
theorem aHz (w:World) (b:Nat) (c1 c2:Array Value):(w.setRow b c1).setRow b c2=w.setRow b c2:=by
  unfold World.setRow
  congr 1
  apply Array.ext
  · simp
  · intro i h1 h2
    simp only[Array.getElem_modify]
    split
    · generalize w.heap[i]'(by simpa using h2)=x
      cases x <;> rfl
    · rfl
set_option maxRecDepth 1000000 in
theorem aIs (b cap n i j:Nat) (cur:Array Value) (T:TypeId) (w:World) (hh:w.heap[b]?=some (.cells cur T (0,0))) (hsz:cap*4≤cur.size) (hn:n≤cap) (hm:cap≤9223372036854775807) (hij:j=i+1) (hi:i<n)
    (hone:∀ (j:Nat) (v:Value),j<n*4→cur[j]?=some v→v.oneCell'=true) :
    Calls Tryz.prog 204 #[.slice (some ⟨b,0,none⟩) n cap,.int .i64 i,.int .i64 ((j:Nat):Int)] w fun e w'=>e=.returned (.slice (some ⟨b,0,none⟩) (n - 1) cap) ∧
      ∃ cs,w'=w.drew.setRow b cs∧cs.size=cur.size∧∀ q,q<(n - 1)*4→cs[q]?=if q<i*4 then cur[q]? else cur[q+4]?:=by
  have hh':w.drew.heap[b]?=some (.cells cur T (0,0)):=hh
  have hcell:∀ j,j<cap*4→w.drew.cell? ⟨b,j,none⟩=cur[j]?:=fun j hj=>by simp [World.cell?,hh']
  obtain ⟨news,hnews⟩:∃ news,news=(cur.toList.drop (j*4)).take ((n - j)*4):=⟨_,rfl⟩
  have hlen:news.length=(n - j)*4:=by
    rw[hnews]; simp only[List.length_take,List.length_drop,Array.length_toList]; omega
  have hget:∀ t,t<(n - j)*4→news[t]?=cur[j*4+t]?:=fun t ht=>by
    rw[hnews,List.getElem?_take,if_pos ht,List.getElem?_drop,Array.getElem?_toList]
  obtain ⟨A,hA,hsrc⟩:∃ A:Addr,(if cap=j then some (⟨b,0,none⟩:Addr) else some ⟨b,j*4,none⟩)=some A∧Hid (∀ t u,news[t]?=some u→w.drew.cell? (A.add t)=some u):=by
    by_cases h:cap=j
    · refine⟨⟨b,0,none⟩,by simp [h],fun t u hu=>?_⟩
      have h0:news.length=0:=by rw[hlen]; omega
      rw[List.length_eq_zero_iff.1 h0] at hu
      simp at hu
    · refine⟨⟨b,j*4,none⟩,by simp [h],fun t u hu=>?_⟩
      have ht:t<(n - j)*4:=by
        have:=(List.getElem?_eq_some_iff.1 hu).1
        rwa [hlen] at this
      rw[hget t ht] at hu
      rw[Addr.add_lit]
      exact(hcell _ (by omega)).trans hu
  obtain ⟨he,hck,hk0,i0,z,hi0,hzz,hik,hby,hzc⟩:=appT?_inv kM
  have s1:Hid (news.length=(n - j)*4):=hlen
  have s2:Hid (∀ u∈news,u.oneCell'=true):=by
    intro u hu
    obtain ⟨t,ht⟩:=List.getElem?_of_mem hu
    have ht2:=(List.getElem?_eq_some_iff.1 ht).1
    rw[hlen] at ht2
    rw[hget t ht2] at ht
    exact hone _ _ (by omega) ht
  have s3:Hid (i*4+news.length≤cur.size):=by show i*4+news.length≤cur.size; rw[hlen]; omega
  have s4:Hid (w.drew.heap[b]?=some (.cells cur T (0,0))):=hh'
  obtain ⟨cs1,hcs1⟩:∃ cs1,cs1=(cur.toList.take (i*4)++news++cur.toList.drop (i*4+news.length)).toArray:=⟨_,rfl⟩
  have hc1s:cs1.size=cur.size:=by
    rw[hcs1]; simp only[List.size_toArray,List.length_append,List.length_take,List.length_drop,Array.length_toList,hlen]; omega
  obtain ⟨W1,hW1⟩:∃ W1,W1=w.drew.setRow b cs1:=⟨_,rfl⟩
  have hb1:W1.heap[b]?=some (.cells cs1 T (0,0)):=by rw[hW1]; exact setRow_heap _ b cur cs1 T _ hh'
  have hW:Hid (W1=w.drew.setRow b (cur.toList.take (i*4)++news++cur.toList.drop (i*4+news.length)).toArray):=by rw[← hcs1]; exact hW1
  have hrz:(zeroValue 147).run Tryz.prog W1=.ok z W1:=by simp [zeroValue,typeInfo,hi0,hzz]
  have hz1:∀ u∈z.cells.toList,u.oneCell'=true:=by
    have hz:=nK
    unfold zeros? at hz
    simp [hi0,hzz] at hz
    intro u hu
    rw[hz] at hu
    simp at hu
    rcases hu with rfl | rfl <;> rfl
  have hzl:(Builtin.zeroCells z.cells (n - (i+(n - j)))).toList.length=4:=by rw[Array.length_toList,size_zeroCells,hzc]; omega
  have hst:=run_storeCells_at Tryz.prog b ((i+(n - j))*4) T (Builtin.zeroCells z.cells (n - (i+(n - j)))).toList 0 cs1 W1 hb1 (by rw[hzl,hc1s]; omega) (fun u hu=>hz1 u (wP (by rw[hzc]; exact hk0) hu))
  simp only[Nat.add_zero] at hst
  obtain ⟨cs2,hcs2⟩:∃ cs2,cs2=(cs1.toList.take ((i+(n - j))*4)++(Builtin.zeroCells z.cells (n - (i+(n - j)))).toList++cs1.toList.drop ((i+(n - j))*4+(Builtin.zeroCells z.cells (n - (i+(n - j)))).toList.length)).toArray:=⟨_,rfl⟩
  rw[← hcs2] at hst
  have hcl:∀ ty,(Builtin.clear_ #[36] ty #[.slice (some ⟨b,(i+(n - j))*4,none⟩) (n - (i+(n - j))) (cap - (i+(n - j)))]).run Tryz.prog W1=.ok (.tuple #[]) (W1.setRow b cs2):=fun ty=>by
    have h0:¬ (n - (i+(n - j))=0):=by omega
    simp [Builtin.clear_,run_underlying (elem?_inv he),h0,hrz,hst]
  have hlt:i<j:=by omega
  have hjn:j≤n:=by omega
  have hic:i≤cap:=by omega
  have hjc:j≤cap:=by omega
  have hfin:W1.setRow b cs2=w.drew.setRow b cs2∧cs2.size=cur.size∧∀ q,q<(n - 1)*4→cs2[q]?=if q<i*4 then cur[q]? else cur[q+4]?:=by
    have hnj:(i+(n - j))*4=(n - 1)*4:=by rw[hij]; omega
    refine⟨?_,?_,?_⟩
    · rw[hW1]; exact aHz _ _ _ _
    · rw[hcs2]; simp only[List.size_toArray,List.length_append,List.length_take,List.length_drop,hzl,Array.length_toList,hc1s]; omega
    · intro q hq
      have e2:cs2[q]?=cs1[q]?:=by
        rw[hcs2,List.getElem?_toArray,List.append_assoc,List.getElem?_append_left (by simp only[List.length_take,Array.length_toList]; omega),List.getElem?_take,if_pos (by omega),Array.getElem?_toList]
      rw[e2,hcs1,List.getElem?_toArray,List.append_assoc]
      by_cases h:q<i*4
      · rw[if_pos h,List.getElem?_append_left (by simp only[List.length_take,Array.length_toList]; omega),List.getElem?_take,if_pos h,Array.getElem?_toList]
      · have hlt:(cur.toList.take (i*4)).length=i*4:=by simp only[List.length_take,Array.length_toList]; omega
        rw[if_neg h,List.getElem?_append_right (by omega),hlt,List.getElem?_append_left (by rw[hlen]; omega),hget _ (by omega)]
        congr 1
        omega
  have hfin':=show Hid _ from hfin
  clear hW1 hb1 hcs1 hcs2 hst hnews hget hfin hh' hcell hh hone hc1s hzl
  have hij2:Hid (j=i+1):=hij
  clear hij
  go_enter Tryz.func204,Tryz.ntmps204
  go_wp2_with fail
  go_region_law (refine yD rfl (.tmp 22) (.tmp 25) 36 rfl he hck b i cap (by simp [Act.eval,Act.put]) cur s4.out A (n - j) (cap - j) news (by simp [Act.eval,Act.put]) s1.out hsrc.out s2.out (by omega) s3.out ?_; rw[← hW.out])
  go_wp2
  go_ret
  have h1:j=i+1:=hij2
  refine⟨?_,cs2,hfin'⟩
  rw[show n - 1=i+(n - j) by omega]
  rfl
theorem aLf (xs:List (List AV)) (n i:Nat) (z:Int) (hz:z=((i+1:Nat):Int)) (hn:n=xs.length) (hi:i<n):DenM Tryz.prog 204 [.own E0 4 0 n,.s (.int .i64 (i:Nat)),.s (.int .i64 z)] 4 xs (fun r ys=>r=.own E0 4 0 (n - 1)∧ys=xs.take i++xs.drop (i+1)):=by
  subst hz
  intro A w x vals hA hx hr hb
  obtain ⟨v0,v1,v2,rfl⟩:∃ v0 v1 v2,vals=[v0,v1,v2]:=by
    have:=hr.1
    match vals,this with
    | [a,b,c],_=>exact⟨a,b,c,rfl⟩
  have r0:=hr.2 0 _ v0 rfl rfl
  have r1:=hr.2 1 _ v1 rfl rfl
  have r2:=hr.2 2 _ v2 rfl rfl
  cases r1
  cases r2
  rcases hb with ⟨hb,_⟩ | ⟨b,cur,T,hbE,hh,hcs,hck,hcell⟩
  · rw[hb] at hn; simp at hn; omega
  have hxb:=(jX hbE).2
  subst hxb
  have hbs:b<w.heap.size:=(Array.getElem?_eq_some_iff.1 hh).1
  obtain ⟨cap,hcap,hcm,hsz,rfl⟩:∃ cap,n≤cap∧cap≤9223372036854775807∧cap*4≤cur.size∧v0=.slice (some ⟨b,0,none⟩) n cap:=by
    cases r0 with
    | ownn _ _ _=>omega
    | own _ _ _ _ b' cap cur' T' hg h1 h2 h3 h4 =>
      have:=(jX hg).2; cases this
      rw[hh] at h3; cases h3
      exact⟨cap,h1,by simpa [maxLen] using h2,by omega,by simp⟩
    | own0 _ _ _ _ _ _=>omega
  have hleaf:∀ (j:Nat) (y:List AV) (q:Nat) (a:AV),xs[j]?=some y→y[q]?=some a→a.leaf=true∧q<4:=fun j y q a hy ha =>
    ⟨(hck y (List.mem_of_getElem? hy)).2 a (List.mem_of_getElem? ha),by rw[← (hck y (List.mem_of_getElem? hy)).1]; exact(List.getElem?_eq_some_iff.1 ha).1⟩
  have hone:∀ (j:Nat) (v:Value),j<n*4→cur[j]?=some v→v.oneCell'=true:=fun j v hj hv=>by
    have hj4:j / 4<xs.length:=by rw[← hn]; omega
    have hy:xs[j / 4]?=some xs[j / 4]:=List.getElem?_eq_getElem hj4
    have hl:=(hck _ (List.mem_of_getElem? hy)).1
    obtain ⟨u,hu,hru⟩:=hcell (j / 4) _ (j % 4) _ hy (List.getElem?_eq_getElem (by rw[hl]; omega))
    rw[show j / 4*4+j % 4=j by omega,hv] at hu
    cases hu
    exact hru.one (AV.one_of_leaf (hleaf _ _ (j % 4) _ hy (List.getElem?_eq_getElem (by rw[hl]; omega))).1)
  refine(aIs b cap n i (i+1) cur T w hh hsz hcap hcm rfl hi hone).mono ?_
  rintro e w' ⟨rfl,cs,rfl,hcsz,hget⟩
  have hb':(w.drew.setRow b cs).heap[b]?=some (.cells cs T (0,0)):=setRow_heap _ b cur cs T _ hh
  have hoth:∀ b',b'≠b→(w.drew.setRow b cs).heap[b']?=w.heap[b']?:=fun b' hne=>setRow_other w.drew b b' cs hne
  have hwsz:(w.drew.setRow b cs).heap.size=w.heap.size:=by
    show (w.drew.setRow b cs).heap.size=w.drew.heap.size
    simp [World.setRow]
  have hne:∀ b',Stable w (gK (some b) A) b'→b'≠b:=fun b' hb' h=>hb'.2.1 E0 (by rw[gN,h])
  have hstab:∀ b',Stable w (gK (some b) A) b'→Stable (w.drew.setRow b cs) (gK (some b) A) b':=fun b' hb'=>⟨by rw[hwsz]; exact hb'.1,hb'.2⟩
  have hmv:∀ (a:AV) (v:Value),a.leaf=true→RelV w (gK (some b) A) a v→RelV (w.drew.setRow b cs) (gK (some b) A) a v :=
    fun a v hlf h=>h.move (ok:=fun _=>false) (fun b' hb'=>⟨hstab b' hb',hoth b' (hne b' hb')⟩) (fun _ _ h _=>by cases h) (AV.clean_of_leaf hlf)
  have hl2:(xs.take i++xs.drop (i+1)).length=n - 1:=by simp only[List.length_append,List.length_take,List.length_drop]; omega
  refine⟨_,.own E0 4 0 (n - 1),xs.take i++xs.drop (i+1),rfl,⟨rfl,rfl⟩,?_,?_,?_⟩
  · refine⟨rfl,⟨rfl,Nat.le_add_right _ _⟩,rfl,by rw[hwsz]; omega,rfl,fun b' hb'=>⟨hstab b' hb',hoth b' (hne b' hb')⟩,fun b' hb' hAb=>hoth b' (fun h=>hx b' (by rw[h]) hAb),fun g' x hg'=>?_⟩
    have:=jX hg'
    obtain ⟨rfl,rfl⟩:=this
    refine .inr ⟨gN _ _,fun b' hb' cur' T' hh'=>?_⟩
    cases hb'
    rw[hh] at hh'; cases hh'
    exact⟨_,by assumption,hcsz⟩
  · refine .inr ⟨b,cs,T,gN _ _,hb',?_,?_,?_⟩
    · rw[hl2,hcsz]; omega
    · intro y hy
      rcases List.mem_append.1 hy with hy | hy
      · exact hck y (List.mem_of_mem_take hy)
      · exact hck y (List.mem_of_mem_drop hy)
    · intro j y q a hy ha
      have hj:j<n - 1:=by rw[← hl2]; exact(List.getElem?_eq_some_iff.1 hy).1
      by_cases h:j<i
      · rw[List.getElem?_append_left (by simp only[List.length_take]; omega),List.getElem?_take,if_pos h] at hy
        obtain ⟨hlf,hq⟩:=hleaf j y q a hy ha
        obtain ⟨u,hu,hru⟩:=hcell j y q a hy ha
        refine⟨u,?_,hmv _ _ hlf hru⟩
        rw[hget _ (by omega),if_pos (by omega)]; exact hu
      · have htl:(xs.take i).length=i:=by simp only[List.length_take]; omega
        rw[List.getElem?_append_right (by omega),htl,List.getElem?_drop,show i+1+(j - i)=j+1 by omega] at hy
        obtain ⟨hlf,hq⟩:=hleaf (j+1) y q a hy ha
        obtain ⟨u,hu,hru⟩:=hcell (j+1) y q a hy ha
        refine⟨u,?_,hmv _ _ hlf hru⟩
        rw[hget _ (by omega),if_neg (by omega),← hu]
        congr 1; omega
  · have:=RelV.own (w:=w.drew.setRow b cs) (p:=gK (some b) A) E0 4 0 (n - 1) b cap cs T (gN _ _) (by omega) (by simpa [maxLen] using hcm) hb' (by omega)
    simpa using this
end Go.Proofs.YtijnkglkchhomaaGreat
set_option linter.unusedVariables false
set_option linter.unusedSimpArgs false
namespace Go.Proofs.YtijnkglkchhomaaGreat
open Go Go.Abs
theorem aN8 (l:List En) (p:Pr) (t:Int) (hl:l.length*48+48≤140737488355328) :Den Tryz.prog 158 [.sl 4 (l.map enC),.agg (prC p),.s (.int .i64 t)]  (·=.tup [.sl 4 ((if onB l p then jG l p t else []).map enC),.s (.int .i64 (if onB l p then 0 else 91))]):=by
 refine aY Tryz.func158 rfl (Nat.le_of_ble_eq_true rfl) (fun w0 A hf=>(aC (fun K1 hK1=>(aB (aM hf rfl (cT rfl rfl (lf rfl)) (aH rfl (bR) (aE aA 1 rfl (aD (hK1 _ (aC (fun K2 hK2=>(aB (aE aA 2 rfl (aM hf rfl (aQ rfl rfl aBr rfl (aHe _ _ (by omega))) (aE aA 1 rfl ?_)))))))))))))))
 refine aD (hK2 _ (aC (fun K3 hK3=>(aC (fun K4 hK4=>(aB (aE aA 2 rfl (aD (hK4 _ (aO rfl (fun hc1=>?_) (fun hc1=>?_)))))))))))
 ·
  simp only[bs] at hc1
  refine aC (fun K5 hK5=>(aB (aH rfl (rM (k:=4)) (aE aA 1 rfl (aD (hK5 _ (aN ?_)))))))
  refine⟨_,rfl,?_⟩
  rw[show onB l p=false from aQl (by omega)]; rfl
 ·
  simp only[bs] at hc1
  obtain ⟨k,hk,ek,hk1,hk2⟩:∃ k:Nat,∃ h:k<l.length,nQ (eS p) l=(k:Nat)∧eS p l[k]=true∧∀ (j:Nat) (hj:j<l.length),j<k→eS p l[j]=false:=by
    rcases dW (eS p) l with ⟨e,_⟩ | ⟨k',h1,e,h2,h3⟩
    · exfalso; omega
    · exact⟨k',h1,e,h2,h3⟩
  rw[ek]
  refine aP (hK3 _ (aC (fun K6 hK6=>(aB (aE aA 1 rfl (iP hf rfl rfl rfl rfl rfl rC rfl (qW _ (by omega)) ?_))))))
  rintro _ rfl
  refine aE aA 1 rfl (aD (hK6 _ (aC (fun K7 hK7=>(aB ?_)))))
  have hml:(l.map enC).length=l.length:=List.length_map _
  refine aE aA 3 rfl ?_
  refine aH rfl (cN rfl rfl gC eK (by omega)) ?_
  refine aE aA 2 rfl (aZ hf rfl rfl cI rfl rfl (by simp [AV.cells,AV.one,Value.oneCell']) (by simp [AV.cells,AV.leaf,Value.oneCell']) (iK (c:=4) (k:=k) (f:=3) (enc:=enC) (v:=(l[k].1,(l[k].2.1,t))) (by omega) (by omega) rfl (Nat.le_refl _)) ?_)
  refine aD (hK7 _ (aC (fun K8 hK8=>(aC (fun K9 hK9=>(aB (aE aA 2 rfl ?_)))))))
  refine aH rfl (cN rfl rfl gC eK (by omega)) ?_
  refine aE aA 1 rfl (aH rfl (cD rfl aSw aAu rfl (by rw[aD9 (c:=4) (k:=k) (enc:=enC) (by omega) (by rw[List.length_set]; omega),List.getElem_set_self]; rfl) (cs':=spC (l[k].2.1,t)) (by rw[aD9 (c:=4) (k:=k) (enc:=enC) (by omega) (by rw[List.length_set]; omega),List.getElem_set_self]; rfl)) ?_)
  refine aM hf rfl (aQ rfl rfl rY rfl (yO _)) (aD (hK9 _ (aO rfl (fun hc2=>?_) (fun hc2=>?_))))
  ·
   simp only[bs] at hc2
   refine aB (aE aA 3 rfl ?_)
   refine aH rfl (bS rfl rfl (by omega) (by omega)) ?_
   refine iD hf 16 rfl rfl rfl rfl rfl aMi (aLf (List.map enC (l.set k (l[k].1,(l[k].2.1,t)))) _ k _ (by omega) (by simp only[List.length_map,List.length_set] <;> omega) (by simp only[List.length_map] <;> omega)) ?_
   rintro r zs ⟨rfl,rfl⟩
   refine aE aA 1 rfl (aD (hK8 _ (aC (fun K10 hK10=>(aB (aE aA 3 rfl (aD (hK10 _ (aN ?_)))))))))
   refine⟨_,rfl,?_⟩
   rw[show onB l p=true from aOd hk hk1]
   (refine(congrArg (fun z=>AV.tup [z,.s (.int .i64 0)]) (cE (g:=16) rfl (by first | rfl | (simp only[List.length_map,List.length_append,List.length_take,List.length_drop,List.length_set]; omega)))).trans ?_; rw[if_pos rfl,if_pos rfl,← rev_del (v:=(l[k].1,(l[k].2.1,t))) hk hk2 hk1 (by omega),List.map_append,List.map_take,List.map_drop])
  ·
   simp only[bs] at hc2
   refine aP (hK8 _ (aC (fun K11 hK11=>(aB (aE aA 3 rfl (aD (hK11 _ (aN ?_))))))))
   refine⟨_,rfl,?_⟩
   rw[show onB l p=true from aOd hk hk1]
   (refine(congrArg (fun z=>AV.tup [z,.s (.int .i64 0)]) (cE (g:=16) rfl (by rw[List.length_map,List.length_map,List.length_set]))).trans ?_; rw[if_pos rfl,if_pos rfl,rev_set hk hk2 hk1 (by omega)])
end Go.Proofs.YtijnkglkchhomaaGreat
set_option linter.unusedVariables false
set_option linter.unusedSimpArgs false
namespace Go.Proofs.YtijnkglkchhomaaGreat
open Go Go.Abs
theorem aSa (s:Sta) (e:Ev) (hz:SzS 140737488355100 s) (hr:cX cZ s.usr) (hr2:cX dR s.tmb) (hk:e.kind=1) :DenX Tryz.prog 88 [.agg (eX s E0 E1),.agg (evC e)] [(E0,.buf 2 (s.usr.map usC)),(E1,.buf 2 (s.tmb.map tmC))] (fun r m=>r=.tup [.agg (eX (bO s e).1 E0 E1),.s (.int .i64 (bO s e).2)]∧m=[(E0,.buf 2 ((bO s e).1.usr.map usC)),(E1,.buf 2 ((bO s e).1.tmb.map tmC))]):=by
 have z1:=hz.o
 have z2:=hz.u
 have z3:=hz.b
 have z4:=hz.t
 have q:=aEc s.opn ((e.n,e.user),(e.st,e.at'))
 have hz2:SzS 140737488355200 ({ s with opn:=mG s.opn ((e.n,e.user),(e.st,e.at')) }):=⟨by show (mG s.opn ((e.n,e.user),(e.st,e.at'))).length*40≤_; omega,by show s.usr.length*40≤_; omega,by show s.sub.length*48≤_; omega,by show s.tmb.length*24≤_; omega,fun x hx=>by have:=hz.y x hx; omega⟩
 have hr3:cX cZ (({ s with opn:=mG s.opn ((e.n,e.user),(e.st,e.at')) })).usr:=hr
 have hd:bO s e=(eC ({ s with opn:=mG s.opn ((e.n,e.user),(e.st,e.at')) }) e.user (st0),nT s.opn ((e.n,e.user),(e.st,e.at'))):=by
  rw[bO,if_pos hk]
  rw[iT (show st0.1.2≤st0.1.1 from Int.le_refl _)]
 rw[hd]
 refine jD [(E0,G0),(E1,G1)] Tryz.func88 rfl (Nat.le_of_ble_eq_true rfl) (args':=[.agg (eX s G0 G1),.agg (evC e)]) (m':=[(G0,.buf 2 (s.usr.map usC)),(G1,.buf 2 (s.tmb.map tmC))]) rfl rfl (by decide) (by decide) rfl (fun w0 o0 A hf=>?_)
 refine aC (fun K1 hK1=>(aB (kD hf rfl rfl rfl rfl (l1 rfl) ?_)))
 refine aM hf rfl (cT rfl rfl (lf rfl)) (aX hf rfl rfl rfl bB (aE aA 1 rfl (aD (hK1 _ (aC (fun K2 hK2=>(aB (aE aA 4 rfl (aH rfl (cK rfl iC nM (l3 rfl) rfl) (cF hf rfl iC rfl rF rfl rfl rfl rfl (lf rfl) (aD (hK2 _ (aC (fun K3 hK3=>?_))))))))))))))
 refine aB (aE aA 1 rfl (aD (hK3 _ (aC (fun K4 hK4=>(aB (aX hf rfl rfl rfl eY (aD (hK4 _ (aC (fun K5 hK5=>(aC (fun K6 hK6=>(aB (aE aA 2 rfl ?_)))))))))))))))
 refine aD (hK6 _ (aR (aC (fun K7 hK7=>(aB (aH rfl (dD rfl rfl (iE (by omega))) (aE aA 1 rfl (aD (hK7 _ (bW rfl (aB (aE aA 10 rfl (aH rfl (cK rfl pZ aO7 (l3 rfl) rfl) ?_)))))))))))))
 refine aM hf rfl (aQ rfl rfl aNa rfl (aOc s.opn ((e.n,e.user),(e.st,e.at')) (by omega))) (aE aA 4 rfl (aZ hf rfl rfl mQ rfl rfl (l1 rfl) (l4 rfl) rfl (aE aA 1 rfl ?_)))
 refine bL ?_
 refine hK5 _ (aC (fun K8 hK8=>(aB (aE aA 4 rfl (jI hf [(E0,G0),(E1,G1)] [(E0,G0),(E1,G1)] rfl rfl rfl rfl rfl rfl (by decide) (by decide) (by decide) rfl mX (oM ({ s with opn:=mG s.opn ((e.n,e.user),(e.st,e.at')) }) e.user (st0) hz2 hr3) ?_)))))
 rintro r m1 ⟨rfl,rfl⟩
 rw[nC]
 refine bM (cJ (sl':=[(4,.ref 4 0 0 0),(7,.s (.int .i64 (nT s.opn ((e.n,e.user),(e.st,e.at'))))),(112,.agg (eX (eC ({ s with opn:=mG s.opn ((e.n,e.user),(e.st,e.at')) }) e.user (st0)) G0 G1))]) (m':=[(G0,.buf 2 ((eC ({ s with opn:=mG s.opn ((e.n,e.user),(e.st,e.at')) }) e.user (st0)).usr.map usC)),(G1,.buf 2 ((eC ({ s with opn:=mG s.opn ((e.n,e.user),(e.st,e.at')) }) e.user (st0)).tmb.map tmC)),(8,.box (stC (st0))),(4,.box [.s (.int .i64 0),.s (.int .i64 0),.s (.slice none 0 0),.s (.slice none 0 0),.s (.slice none 0 0),.s (.slice none 0 0)]),(2,.box [.s (.int .i64 (({ s with opn:=mG s.opn ((e.n,e.user),(e.st,e.at')) })).now),.s (.int .i64 (({ s with opn:=mG s.opn ((e.n,e.user),(e.st,e.at')) })).hor),.sl 4 ((({ s with opn:=mG s.opn ((e.n,e.user),(e.st,e.at')) })).opn.map seC),.bad,.sl 4 ((({ s with opn:=mG s.opn ((e.n,e.user),(e.st,e.at')) })).sub.map enC),.bad])]) ⟨rfl,rfl,rfl,trivial⟩ rfl) ?_
 refine aE aA 1 rfl (aZ hf rfl rfl cM rfl rfl (l1 rfl) (l4 rfl) rfl (aE aA 1 rfl (aD (hK8 _ (aN ?_)))))
 exact⟨_,[(E0,G0),(E1,G1)],_,Le.refl _,by decide,rfl,rfl,⟨rfl,rfl⟩⟩
theorem aR9 (s:Sta) (e:Ev) (hz:SzS 140737488355100 s) (hr:cX cZ s.usr) (hr2:cX dR s.tmb) (hk:e.kind=2) :DenX Tryz.prog 88 [.agg (eX s E0 E1),.agg (evC e)] [(E0,.buf 2 (s.usr.map usC)),(E1,.buf 2 (s.tmb.map tmC))] (fun r m=>r=.tup [.agg (eX (bO s e).1 E0 E1),.s (.int .i64 (bO s e).2)]∧m=[(E0,.buf 2 ((bO s e).1.usr.map usC)),(E1,.buf 2 ((bO s e).1.tmb.map tmC))]):=by
 have z1:=hz.o
 have z2:=hz.u
 have z3:=hz.b
 have z4:=hz.t
 have q:=aE0 s.opn e.n e.user e.st e.at'
 have hz2:SzS 140737488355200 ({ s with opn:=mM s.opn e.n e.user e.st e.at' }):=⟨by show (mM s.opn e.n e.user e.st e.at').length*40≤_; omega,by show s.usr.length*40≤_; omega,by show s.sub.length*48≤_; omega,by show s.tmb.length*24≤_; omega,fun x hx=>by have:=hz.y x hx; omega⟩
 have hr3:cX cZ (({ s with opn:=mM s.opn e.n e.user e.st e.at' })).usr:=hr
 have hd:bO s e=(eC ({ s with opn:=mM s.opn e.n e.user e.st e.at' }) e.user (stR s.opn e.n e.user e.at'),eW s.opn e.n e.user):=by
  rw[bO,if_neg (by omega),if_pos hk]
  rfl
 rw[hd]
 refine jD [(E0,G0),(E1,G1)] Tryz.func88 rfl (Nat.le_of_ble_eq_true rfl) (args':=[.agg (eX s G0 G1),.agg (evC e)]) (m':=[(G0,.buf 2 (s.usr.map usC)),(G1,.buf 2 (s.tmb.map tmC))]) rfl rfl (by decide) (by decide) rfl (fun w0 o0 A hf=>?_)
 refine aC (fun K1 hK1=>(aB (kD hf rfl rfl rfl rfl (l1 rfl) ?_)))
 refine aM hf rfl (cT rfl rfl (lf rfl)) (aX hf rfl rfl rfl bB (aE aA 1 rfl (aD (hK1 _ (aC (fun K2 hK2=>(aB (aE aA 4 rfl (aH rfl (cK rfl iC nM (l3 rfl) rfl) (cF hf rfl iC rfl rF rfl rfl rfl rfl (lf rfl) (aD (hK2 _ (aC (fun K3 hK3=>?_))))))))))))))
 refine aB (aE aA 1 rfl (aD (hK3 _ (aC (fun K4 hK4=>(aB (aX hf rfl rfl rfl eY (aD (hK4 _ (aC (fun K5 hK5=>(aC (fun K6 hK6=>(aB (aE aA 2 rfl ?_)))))))))))))))
 refine aD (hK6 _ (aR (aC (fun K7 hK7=>(aB (aH rfl (dD rfl rfl (dF (by omega))) (aE aA 1 rfl (aD (hK7 _ (bJ rfl (aC (fun K8 hK8=>(aB (aH rfl (dD rfl rfl (iE (by omega))) ?_))))))))))))))
 refine aE aA 1 rfl (aD (hK8 _ (bW rfl (aB (aE aA 10 rfl (aM hf rfl (aQ rfl rfl aM9 rfl (aIw s.opn e.n e.user e.st e.at' (by omega))) (aE aA 5 rfl (aZ hf rfl rfl mQ rfl rfl (l1 rfl) (l4 rfl) rfl (aZ hf rfl rfl bH rfl rfl (l1 rfl) (l4 rfl) rfl (aE aA 1 rfl ?_))))))))))
 refine bL ?_
 refine hK5 _ (aC (fun K9 hK9=>(aB (aE aA 4 rfl (jI hf [(E0,G0),(E1,G1)] [(E0,G0),(E1,G1)] rfl rfl rfl rfl rfl rfl (by decide) (by decide) (by decide) rfl mX (oM ({ s with opn:=mM s.opn e.n e.user e.st e.at' }) e.user (stR s.opn e.n e.user e.at') hz2 hr3) ?_)))))
 rintro r m1 ⟨rfl,rfl⟩
 rw[nC]
 refine bM (cJ (sl':=[(4,.ref 4 0 0 0),(7,.s (.int .i64 (eW s.opn e.n e.user))),(112,.agg (eX (eC ({ s with opn:=mM s.opn e.n e.user e.st e.at' }) e.user (stR s.opn e.n e.user e.at')) G0 G1))]) (m':=[(G0,.buf 2 ((eC ({ s with opn:=mM s.opn e.n e.user e.st e.at' }) e.user (stR s.opn e.n e.user e.at')).usr.map usC)),(G1,.buf 2 ((eC ({ s with opn:=mM s.opn e.n e.user e.st e.at' }) e.user (stR s.opn e.n e.user e.at')).tmb.map tmC)),(8,.box (stC (stR s.opn e.n e.user e.at'))),(4,.box [.s (.int .i64 0),.s (.int .i64 0),.s (.slice none 0 0),.s (.slice none 0 0),.s (.slice none 0 0),.s (.slice none 0 0)]),(2,.box [.s (.int .i64 (({ s with opn:=mM s.opn e.n e.user e.st e.at' })).now),.s (.int .i64 (({ s with opn:=mM s.opn e.n e.user e.st e.at' })).hor),.sl 4 ((({ s with opn:=mM s.opn e.n e.user e.st e.at' })).opn.map seC),.bad,.sl 4 ((({ s with opn:=mM s.opn e.n e.user e.st e.at' })).sub.map enC),.bad])]) ⟨rfl,rfl,rfl,trivial⟩ rfl) ?_
 refine aE aA 1 rfl (aZ hf rfl rfl cM rfl rfl (l1 rfl) (l4 rfl) rfl (aE aA 1 rfl (aD (hK9 _ (aN ?_)))))
 exact⟨_,[(E0,G0),(E1,G1)],_,Le.refl _,by decide,rfl,rfl,⟨rfl,rfl⟩⟩
theorem aR8 (s:Sta) (e:Ev) (hz:SzS 140737488355100 s) (hr:cX cZ s.usr) (hr2:cX dR s.tmb) (hk:e.kind=3) :DenX Tryz.prog 88 [.agg (eX s E0 E1),.agg (evC e)] [(E0,.buf 2 (s.usr.map usC)),(E1,.buf 2 (s.tmb.map tmC))] (fun r m=>r=.tup [.agg (eX (bO s e).1 E0 E1),.s (.int .i64 (bO s e).2)]∧m=[(E0,.buf 2 ((bO s e).1.usr.map usC)),(E1,.buf 2 ((bO s e).1.tmb.map tmC))]):=by
 have z1:=hz.o
 have z2:=hz.u
 have z3:=hz.b
 have z4:=hz.t
 have q:=aEz s.opn e.n e.user
 have hz2:SzS 140737488355200 ({ s with opn:=mL s.opn e.n e.user }):=⟨by show (mL s.opn e.n e.user).length*40≤_; omega,by show s.usr.length*40≤_; omega,by show s.sub.length*48≤_; omega,by show s.tmb.length*24≤_; omega,fun x hx=>by have:=hz.y x hx; omega⟩
 have hr3:cX cZ (({ s with opn:=mL s.opn e.n e.user })).usr:=hr
 have hd:bO s e=(eC ({ s with opn:=mL s.opn e.n e.user }) e.user (stR s.opn e.n e.user e.at'),eW s.opn e.n e.user):=by
  rw[bO,if_neg (by omega),if_neg (by omega),if_pos hk]
  rfl
 rw[hd]
 refine jD [(E0,G0),(E1,G1)] Tryz.func88 rfl (Nat.le_of_ble_eq_true rfl) (args':=[.agg (eX s G0 G1),.agg (evC e)]) (m':=[(G0,.buf 2 (s.usr.map usC)),(G1,.buf 2 (s.tmb.map tmC))]) rfl rfl (by decide) (by decide) rfl (fun w0 o0 A hf=>?_)
 refine aC (fun K1 hK1=>(aB (kD hf rfl rfl rfl rfl (l1 rfl) ?_)))
 refine aM hf rfl (cT rfl rfl (lf rfl)) (aX hf rfl rfl rfl bB (aE aA 1 rfl (aD (hK1 _ (aC (fun K2 hK2=>(aB (aE aA 4 rfl (aH rfl (cK rfl iC nM (l3 rfl) rfl) (cF hf rfl iC rfl rF rfl rfl rfl rfl (lf rfl) (aD (hK2 _ (aC (fun K3 hK3=>?_))))))))))))))
 refine aB (aE aA 1 rfl (aD (hK3 _ (aC (fun K4 hK4=>(aB (aX hf rfl rfl rfl eY (aD (hK4 _ (aC (fun K5 hK5=>(aC (fun K6 hK6=>(aB (aE aA 2 rfl ?_)))))))))))))))
 refine aD (hK6 _ (aR (aC (fun K7 hK7=>(aB (aH rfl (dD rfl rfl (dF (by omega))) (aE aA 1 rfl (aD (hK7 _ (bJ rfl (aC (fun K8 hK8=>(aB (aH rfl (dD rfl rfl (dF (by omega))) ?_))))))))))))))
 refine aE aA 1 rfl (aD (hK8 _ (bJ rfl (aC (fun K9 hK9=>(aB (aH rfl (dD rfl rfl (iE (by omega))) (aE aA 1 rfl (aD (hK9 _ (bW rfl (aB (aE aA 8 rfl ?_)))))))))))))
 refine aM hf rfl (aQ rfl rfl aPb rfl (aLm s.opn e.n e.user e.at' (by omega))) (aE aA 5 rfl (aZ hf rfl rfl mQ rfl rfl (l1 rfl) (l4 rfl) rfl (aZ hf rfl rfl bH rfl rfl (l1 rfl) (l4 rfl) rfl (aE aA 1 rfl ?_))))
 refine bL ?_
 refine hK5 _ (aC (fun K10 hK10=>(aB (aE aA 4 rfl (jI hf [(E0,G0),(E1,G1)] [(E0,G0),(E1,G1)] rfl rfl rfl rfl rfl rfl (by decide) (by decide) (by decide) rfl mX (oM ({ s with opn:=mL s.opn e.n e.user }) e.user (stR s.opn e.n e.user e.at') hz2 hr3) ?_)))))
 rintro r m1 ⟨rfl,rfl⟩
 rw[nC]
 refine bM (cJ (sl':=[(4,.ref 4 0 0 0),(7,.s (.int .i64 (eW s.opn e.n e.user))),(112,.agg (eX (eC ({ s with opn:=mL s.opn e.n e.user }) e.user (stR s.opn e.n e.user e.at')) G0 G1))]) (m':=[(G0,.buf 2 ((eC ({ s with opn:=mL s.opn e.n e.user }) e.user (stR s.opn e.n e.user e.at')).usr.map usC)),(G1,.buf 2 ((eC ({ s with opn:=mL s.opn e.n e.user }) e.user (stR s.opn e.n e.user e.at')).tmb.map tmC)),(8,.box (stC (stR s.opn e.n e.user e.at'))),(4,.box [.s (.int .i64 0),.s (.int .i64 0),.s (.slice none 0 0),.s (.slice none 0 0),.s (.slice none 0 0),.s (.slice none 0 0)]),(2,.box [.s (.int .i64 (({ s with opn:=mL s.opn e.n e.user })).now),.s (.int .i64 (({ s with opn:=mL s.opn e.n e.user })).hor),.sl 4 ((({ s with opn:=mL s.opn e.n e.user })).opn.map seC),.bad,.sl 4 ((({ s with opn:=mL s.opn e.n e.user })).sub.map enC),.bad])]) ⟨rfl,rfl,rfl,trivial⟩ rfl) ?_
 refine aE aA 1 rfl (aZ hf rfl rfl cM rfl rfl (l1 rfl) (l4 rfl) rfl (aE aA 1 rfl (aD (hK10 _ (aN ?_)))))
 exact⟨_,[(E0,G0),(E1,G1)],_,Le.refl _,by decide,rfl,rfl,⟨rfl,rfl⟩⟩
theorem aR7 (s:Sta) (e:Ev) (hz:SzS 140737488355100 s) (hr:cX cZ s.usr) (hr2:cX dR s.tmb) (hk:e.kind=4) :DenX Tryz.prog 88 [.agg (eX s E0 E1),.agg (evC e)] [(E0,.buf 2 (s.usr.map usC)),(E1,.buf 2 (s.tmb.map tmC))] (fun r m=>r=.tup [.agg (eX (bO s e).1 E0 E1),.s (.int .i64 (bO s e).2)]∧m=[(E0,.buf 2 ((bO s e).1.usr.map usC)),(E1,.buf 2 ((bO s e).1.tmb.map tmC))]):=by
 have z1:=hz.o
 have z2:=hz.u
 have z3:=hz.b
 have z4:=hz.t
 have q:=aKo s.sub (e.user,e.other) e.at'
 have hz2:SzS 140737488355200 ({ s with sub:=if onB s.sub (e.user,e.other)=true then [] else gT s.sub (e.user,e.other) e.at' }):=⟨by show s.opn.length*40≤_; omega,by show s.usr.length*40≤_; omega,by show (if onB s.sub (e.user,e.other)=true then [] else gT s.sub (e.user,e.other) e.at').length*48≤_; omega,by show s.tmb.length*24≤_; omega,fun x hx=>by have:=hz.y x hx; omega⟩
 have hr3:cX cZ (({ s with sub:=if onB s.sub (e.user,e.other)=true then [] else gT s.sub (e.user,e.other) e.at' })).usr:=hr
 have hd:bO s e=(eC ({ s with sub:=if onB s.sub (e.user,e.other)=true then [] else gT s.sub (e.user,e.other) e.at' }) e.user (st0),if onB s.sub (e.user,e.other)=true then 90 else 0):=by
  rw[bO,if_neg (by omega),if_neg (by omega),if_neg (by omega),if_pos hk]
  rw[iT (show st0.1.2≤st0.1.1 from Int.le_refl _)]
 rw[hd]
 refine jD [(E0,G0),(E1,G1)] Tryz.func88 rfl (Nat.le_of_ble_eq_true rfl) (args':=[.agg (eX s G0 G1),.agg (evC e)]) (m':=[(G0,.buf 2 (s.usr.map usC)),(G1,.buf 2 (s.tmb.map tmC))]) rfl rfl (by decide) (by decide) rfl (fun w0 o0 A hf=>?_)
 refine aC (fun K1 hK1=>(aB (kD hf rfl rfl rfl rfl (l1 rfl) ?_)))
 refine aM hf rfl (cT rfl rfl (lf rfl)) (aX hf rfl rfl rfl bB (aE aA 1 rfl (aD (hK1 _ (aC (fun K2 hK2=>(aB (aE aA 4 rfl (aH rfl (cK rfl iC nM (l3 rfl) rfl) (cF hf rfl iC rfl rF rfl rfl rfl rfl (lf rfl) (aD (hK2 _ (aC (fun K3 hK3=>?_))))))))))))))
 refine aB (aE aA 1 rfl (aD (hK3 _ (aC (fun K4 hK4=>(aB (aX hf rfl rfl rfl eY (aD (hK4 _ (aC (fun K5 hK5=>(aC (fun K6 hK6=>(aB (aE aA 2 rfl ?_)))))))))))))))
 refine aD (hK6 _ (aR (aC (fun K7 hK7=>(aB (aH rfl (dD rfl rfl (dF (by omega))) (aE aA 1 rfl (aD (hK7 _ (bJ rfl (aC (fun K8 hK8=>(aB (aH rfl (dD rfl rfl (dF (by omega))) ?_))))))))))))))
 refine aE aA 1 rfl (aD (hK8 _ (bJ rfl (aC (fun K9 hK9=>(aB (aH rfl (dD rfl rfl (dF (by omega))) (aE aA 1 rfl (aD (hK9 _ (bJ rfl (aC (fun K10 hK10=>(aB ?_))))))))))))))
 refine aH rfl (dD rfl rfl (iE (by omega))) (aE aA 1 rfl (aD (hK10 _ (bW rfl (aB (aE aA 5 rfl (aM hf rfl (aQ rfl rfl aM8 rfl (aRy s.sub (e.user,e.other) e.at' (by omega))) (aE aA 4 rfl (aZ hf rfl rfl oD rfl rfl (l1 rfl) (l4 rfl) rfl (aE aA 1 rfl ?_))))))))))
 refine bL ?_
 refine hK5 _ (aC (fun K11 hK11=>(aB (aE aA 4 rfl (jI hf [(E0,G0),(E1,G1)] [(E0,G0),(E1,G1)] rfl rfl rfl rfl rfl rfl (by decide) (by decide) (by decide) rfl mX (oM ({ s with sub:=if onB s.sub (e.user,e.other)=true then [] else gT s.sub (e.user,e.other) e.at' }) e.user (st0) hz2 hr3) ?_)))))
 rintro r m1 ⟨rfl,rfl⟩
 rw[nC]
 refine bM (cJ (sl':=[(4,.ref 4 0 0 0),(7,.s (.int .i64 (if onB s.sub (e.user,e.other)=true then 90 else 0))),(112,.agg (eX (eC ({ s with sub:=if onB s.sub (e.user,e.other)=true then [] else gT s.sub (e.user,e.other) e.at' }) e.user (st0)) G0 G1))]) (m':=[(G0,.buf 2 ((eC ({ s with sub:=if onB s.sub (e.user,e.other)=true then [] else gT s.sub (e.user,e.other) e.at' }) e.user (st0)).usr.map usC)),(G1,.buf 2 ((eC ({ s with sub:=if onB s.sub (e.user,e.other)=true then [] else gT s.sub (e.user,e.other) e.at' }) e.user (st0)).tmb.map tmC)),(8,.box (stC (st0))),(4,.box [.s (.int .i64 0),.s (.int .i64 0),.s (.slice none 0 0),.s (.slice none 0 0),.s (.slice none 0 0),.s (.slice none 0 0)]),(2,.box [.s (.int .i64 (({ s with sub:=if onB s.sub (e.user,e.other)=true then [] else gT s.sub (e.user,e.other) e.at' })).now),.s (.int .i64 (({ s with sub:=if onB s.sub (e.user,e.other)=true then [] else gT s.sub (e.user,e.other) e.at' })).hor),.sl 4 ((({ s with sub:=if onB s.sub (e.user,e.other)=true then [] else gT s.sub (e.user,e.other) e.at' })).opn.map seC),.bad,.sl 4 ((({ s with sub:=if onB s.sub (e.user,e.other)=true then [] else gT s.sub (e.user,e.other) e.at' })).sub.map enC),.bad])]) ⟨rfl,rfl,rfl,trivial⟩ rfl) ?_
 refine aE aA 1 rfl (aZ hf rfl rfl cM rfl rfl (l1 rfl) (l4 rfl) rfl (aE aA 1 rfl (aD (hK11 _ (aN ?_)))))
 exact⟨_,[(E0,G0),(E1,G1)],_,Le.refl _,by decide,rfl,rfl,⟨rfl,rfl⟩⟩
theorem aR6 (s:Sta) (e:Ev) (hz:SzS 140737488355100 s) (hr:cX cZ s.usr) (hr2:cX dR s.tmb) (hk:e.kind=5) :DenX Tryz.prog 88 [.agg (eX s E0 E1),.agg (evC e)] [(E0,.buf 2 (s.usr.map usC)),(E1,.buf 2 (s.tmb.map tmC))] (fun r m=>r=.tup [.agg (eX (bO s e).1 E0 E1),.s (.int .i64 (bO s e).2)]∧m=[(E0,.buf 2 ((bO s e).1.usr.map usC)),(E1,.buf 2 ((bO s e).1.tmb.map tmC))]):=by
 have z1:=hz.o
 have z2:=hz.u
 have z3:=hz.b
 have z4:=hz.t
 have q:=aKn s.sub (e.user,e.other) e.at'
 have hz2:SzS 140737488355200 ({ s with sub:=if onB s.sub (e.user,e.other)=true then jG s.sub (e.user,e.other) e.at' else [] }):=⟨by show s.opn.length*40≤_; omega,by show s.usr.length*40≤_; omega,by show (if onB s.sub (e.user,e.other)=true then jG s.sub (e.user,e.other) e.at' else []).length*48≤_; omega,by show s.tmb.length*24≤_; omega,fun x hx=>by have:=hz.y x hx; omega⟩
 have hr3:cX cZ (({ s with sub:=if onB s.sub (e.user,e.other)=true then jG s.sub (e.user,e.other) e.at' else [] })).usr:=hr
 have hd:bO s e=(eC ({ s with sub:=if onB s.sub (e.user,e.other)=true then jG s.sub (e.user,e.other) e.at' else [] }) e.user (st0),if onB s.sub (e.user,e.other)=true then 0 else 91):=by
  rw[bO,if_neg (by omega),if_neg (by omega),if_neg (by omega),if_neg (by omega),if_pos hk]
  rw[iT (show st0.1.2≤st0.1.1 from Int.le_refl _)]
 rw[hd]
 refine jD [(E0,G0),(E1,G1)] Tryz.func88 rfl (Nat.le_of_ble_eq_true rfl) (args':=[.agg (eX s G0 G1),.agg (evC e)]) (m':=[(G0,.buf 2 (s.usr.map usC)),(G1,.buf 2 (s.tmb.map tmC))]) rfl rfl (by decide) (by decide) rfl (fun w0 o0 A hf=>?_)
 refine aC (fun K1 hK1=>(aB (kD hf rfl rfl rfl rfl (l1 rfl) ?_)))
 refine aM hf rfl (cT rfl rfl (lf rfl)) (aX hf rfl rfl rfl bB (aE aA 1 rfl (aD (hK1 _ (aC (fun K2 hK2=>(aB (aE aA 4 rfl (aH rfl (cK rfl iC nM (l3 rfl) rfl) (cF hf rfl iC rfl rF rfl rfl rfl rfl (lf rfl) (aD (hK2 _ (aC (fun K3 hK3=>?_))))))))))))))
 refine aB (aE aA 1 rfl (aD (hK3 _ (aC (fun K4 hK4=>(aB (aX hf rfl rfl rfl eY (aD (hK4 _ (aC (fun K5 hK5=>(aC (fun K6 hK6=>(aB (aE aA 2 rfl ?_)))))))))))))))
 refine aD (hK6 _ (aR (aC (fun K7 hK7=>(aB (aH rfl (dD rfl rfl (dF (by omega))) (aE aA 1 rfl (aD (hK7 _ (bJ rfl (aC (fun K8 hK8=>(aB (aH rfl (dD rfl rfl (dF (by omega))) ?_))))))))))))))
 refine aE aA 1 rfl (aD (hK8 _ (bJ rfl (aC (fun K9 hK9=>(aB (aH rfl (dD rfl rfl (dF (by omega))) (aE aA 1 rfl (aD (hK9 _ (bJ rfl (aC (fun K10 hK10=>(aB ?_))))))))))))))
 refine aH rfl (dD rfl rfl (dF (by omega))) (aE aA 1 rfl (aD (hK10 _ (bJ rfl (aC (fun K11 hK11=>(aB (aH rfl (dD rfl rfl (iE (by omega))) (aE aA 1 rfl (aD (hK11 _ (bW rfl (aB ?_)))))))))))))
 refine aE aA 5 rfl (aM hf rfl (aQ rfl rfl aM7 rfl (aN8 s.sub (e.user,e.other) e.at' (by omega))) (aE aA 4 rfl (aZ hf rfl rfl oD rfl rfl (l1 rfl) (l4 rfl) rfl (aE aA 1 rfl ?_))))
 refine bL ?_
 refine hK5 _ (aC (fun K12 hK12=>(aB (aE aA 4 rfl (jI hf [(E0,G0),(E1,G1)] [(E0,G0),(E1,G1)] rfl rfl rfl rfl rfl rfl (by decide) (by decide) (by decide) rfl mX (oM ({ s with sub:=if onB s.sub (e.user,e.other)=true then jG s.sub (e.user,e.other) e.at' else [] }) e.user (st0) hz2 hr3) ?_)))))
 rintro r m1 ⟨rfl,rfl⟩
 rw[nC]
 refine bM (cJ (sl':=[(4,.ref 4 0 0 0),(7,.s (.int .i64 (if onB s.sub (e.user,e.other)=true then 0 else 91))),(112,.agg (eX (eC ({ s with sub:=if onB s.sub (e.user,e.other)=true then jG s.sub (e.user,e.other) e.at' else [] }) e.user (st0)) G0 G1))]) (m':=[(G0,.buf 2 ((eC ({ s with sub:=if onB s.sub (e.user,e.other)=true then jG s.sub (e.user,e.other) e.at' else [] }) e.user (st0)).usr.map usC)),(G1,.buf 2 ((eC ({ s with sub:=if onB s.sub (e.user,e.other)=true then jG s.sub (e.user,e.other) e.at' else [] }) e.user (st0)).tmb.map tmC)),(8,.box (stC (st0))),(4,.box [.s (.int .i64 0),.s (.int .i64 0),.s (.slice none 0 0),.s (.slice none 0 0),.s (.slice none 0 0),.s (.slice none 0 0)]),(2,.box [.s (.int .i64 (({ s with sub:=if onB s.sub (e.user,e.other)=true then jG s.sub (e.user,e.other) e.at' else [] })).now),.s (.int .i64 (({ s with sub:=if onB s.sub (e.user,e.other)=true then jG s.sub (e.user,e.other) e.at' else [] })).hor),.sl 4 ((({ s with sub:=if onB s.sub (e.user,e.other)=true then jG s.sub (e.user,e.other) e.at' else [] })).opn.map seC),.bad,.sl 4 ((({ s with sub:=if onB s.sub (e.user,e.other)=true then jG s.sub (e.user,e.other) e.at' else [] })).sub.map enC),.bad])]) ⟨rfl,rfl,rfl,trivial⟩ rfl) ?_
 refine aE aA 1 rfl (aZ hf rfl rfl cM rfl rfl (l1 rfl) (l4 rfl) rfl (aE aA 1 rfl (aD (hK12 _ (aN ?_)))))
 exact⟨_,[(E0,G0),(E1,G1)],_,Le.refl _,by decide,rfl,rfl,⟨rfl,rfl⟩⟩
theorem aR5 (s:Sta) (e:Ev) (hz:SzS 140737488355100 s) (hr:cX cZ s.usr) (hr2:cX dR s.tmb) (hk:e.kind=6) :DenX Tryz.prog 88 [.agg (eX s E0 E1),.agg (evC e)] [(E0,.buf 2 (s.usr.map usC)),(E1,.buf 2 (s.tmb.map tmC))] (fun r m=>r=.tup [.agg (eX (bO s e).1 E0 E1),.s (.int .i64 (bO s e).2)]∧m=[(E0,.buf 2 ((bO s e).1.usr.map usC)),(E1,.buf 2 ((bO s e).1.tmb.map tmC))]):=by
 have z1:=hz.o
 have z2:=hz.u
 have z3:=hz.b
 have z4:=hz.t
 skip
 have hz2:SzS 140737488355200 ({ s with hor:=max s.hor e.n }):=⟨by show s.opn.length*40≤_; omega,by show s.usr.length*40≤_; omega,by show (s.sub).length*48≤_; omega,by show s.tmb.length*24≤_; omega,fun x hx=>by have:=hz.y x hx; omega⟩
 have hr3:cX cZ (({ s with hor:=max s.hor e.n })).usr:=hr
 have hd:bO s e=(eC ({ s with hor:=max s.hor e.n }) e.user (st0),0):=by
  rw[bO,if_neg (by omega),if_neg (by omega),if_neg (by omega),if_neg (by omega),if_neg (by omega),if_pos hk]
  rw[iT (show st0.1.2≤st0.1.1 from Int.le_refl _)]
 rw[hd]
 refine jD [(E0,G0),(E1,G1)] Tryz.func88 rfl (Nat.le_of_ble_eq_true rfl) (args':=[.agg (eX s G0 G1),.agg (evC e)]) (m':=[(G0,.buf 2 (s.usr.map usC)),(G1,.buf 2 (s.tmb.map tmC))]) rfl rfl (by decide) (by decide) rfl (fun w0 o0 A hf=>?_)
 refine aC (fun K1 hK1=>(aB (kD hf rfl rfl rfl rfl (l1 rfl) ?_)))
 refine aM hf rfl (cT rfl rfl (lf rfl)) (aX hf rfl rfl rfl bB (aE aA 1 rfl (aD (hK1 _ (aC (fun K2 hK2=>(aB (aE aA 4 rfl (aH rfl (cK rfl iC nM (l3 rfl) rfl) (cF hf rfl iC rfl rF rfl rfl rfl rfl (lf rfl) (aD (hK2 _ (aC (fun K3 hK3=>?_))))))))))))))
 refine aB (aE aA 1 rfl (aD (hK3 _ (aC (fun K4 hK4=>(aB (aX hf rfl rfl rfl eY (aD (hK4 _ (aC (fun K5 hK5=>(aC (fun K6 hK6=>(aB (aE aA 2 rfl ?_)))))))))))))))
 refine aD (hK6 _ (aR (aC (fun K7 hK7=>(aB (aH rfl (dD rfl rfl (dF (by omega))) (aE aA 1 rfl (aD (hK7 _ (bJ rfl (aC (fun K8 hK8=>(aB (aH rfl (dD rfl rfl (dF (by omega))) ?_))))))))))))))
 refine aE aA 1 rfl (aD (hK8 _ (bJ rfl (aC (fun K9 hK9=>(aB (aH rfl (dD rfl rfl (dF (by omega))) (aE aA 1 rfl (aD (hK9 _ (bJ rfl (aC (fun K10 hK10=>(aB ?_))))))))))))))
 refine aH rfl (dD rfl rfl (dF (by omega))) (aE aA 1 rfl (aD (hK10 _ (bJ rfl (aC (fun K11 hK11=>(aB (aH rfl (dD rfl rfl (dF (by omega))) (aE aA 1 rfl (aD (hK11 _ (bJ rfl (aC (fun K12 hK12=>?_))))))))))))))
 refine aB (aH rfl (dD rfl rfl (iE (by omega))) (aE aA 1 rfl (aD (hK12 _ (bW rfl (aB (aE aA 4 rfl (aH rfl (p_max rfl rfl) (aE aA 1 rfl (aZ hf rfl rfl cI rfl rfl (l1 rfl) (l4 rfl) rfl ?_))))))))))
 refine bL ?_
 refine hK5 _ (aC (fun K13 hK13=>(aB (aE aA 4 rfl (jI hf [(E0,G0),(E1,G1)] [(E0,G0),(E1,G1)] rfl rfl rfl rfl rfl rfl (by decide) (by decide) (by decide) rfl mX (oM ({ s with hor:=max s.hor e.n }) e.user (st0) hz2 hr3) ?_)))))
 rintro r m1 ⟨rfl,rfl⟩
 rw[nC]
 refine bM (cJ (sl':=[(4,.ref 4 0 0 0),(7,.s (.int .i64 (0))),(112,.agg (eX (eC ({ s with hor:=max s.hor e.n }) e.user (st0)) G0 G1))]) (m':=[(G0,.buf 2 ((eC ({ s with hor:=max s.hor e.n }) e.user (st0)).usr.map usC)),(G1,.buf 2 ((eC ({ s with hor:=max s.hor e.n }) e.user (st0)).tmb.map tmC)),(8,.box (stC (st0))),(4,.box [.s (.int .i64 0),.s (.int .i64 0),.s (.slice none 0 0),.s (.slice none 0 0),.s (.slice none 0 0),.s (.slice none 0 0)]),(2,.box [.s (.int .i64 (({ s with hor:=max s.hor e.n })).now),.s (.int .i64 (({ s with hor:=max s.hor e.n })).hor),.sl 4 ((({ s with hor:=max s.hor e.n })).opn.map seC),.bad,.sl 4 ((({ s with hor:=max s.hor e.n })).sub.map enC),.bad])]) ⟨rfl,rfl,rfl,trivial⟩ rfl) ?_
 refine aE aA 1 rfl (aZ hf rfl rfl cM rfl rfl (l1 rfl) (l4 rfl) rfl (aE aA 1 rfl (aD (hK13 _ (aN ?_)))))
 exact⟨_,[(E0,G0),(E1,G1)],_,Le.refl _,by decide,rfl,rfl,⟨rfl,rfl⟩⟩
theorem aR4 (s:Sta) (e:Ev) (hz:SzS 140737488355100 s) (hr:cX cZ s.usr) (hr2:cX dR s.tmb) (hk:e.kind=7) :DenX Tryz.prog 88 [.agg (eX s E0 E1),.agg (evC e)] [(E0,.buf 2 (s.usr.map usC)),(E1,.buf 2 (s.tmb.map tmC))] (fun r m=>r=.tup [.agg (eX (bO s e).1 E0 E1),.s (.int .i64 (bO s e).2)]∧m=[(E0,.buf 2 ((bO s e).1.usr.map usC)),(E1,.buf 2 ((bO s e).1.tmb.map tmC))]):=by
 have z1:=hz.o
 have z2:=hz.u
 have z3:=hz.b
 have z4:=hz.t
 skip
 have hz2:SzS 140737488355200 (fX s e.user e.at'):=erSz hz hr (by omega)
 have hr3:cX cZ ((fX s e.user e.at')).usr:=sF hr
 have hd:bO s e=(eC (fX s e.user e.at') e.user (st0),0):=by
  rw[bO,if_neg (by omega),if_neg (by omega),if_neg (by omega),if_neg (by omega),if_neg (by omega),if_neg (by omega)]
  rw[iT (show st0.1.2≤st0.1.1 from Int.le_refl _)]
 rw[hd]
 refine jD [(E0,G0),(E1,G1)] Tryz.func88 rfl (Nat.le_of_ble_eq_true rfl) (args':=[.agg (eX s G0 G1),.agg (evC e)]) (m':=[(G0,.buf 2 (s.usr.map usC)),(G1,.buf 2 (s.tmb.map tmC))]) rfl rfl (by decide) (by decide) rfl (fun w0 o0 A hf=>?_)
 refine aC (fun K1 hK1=>(aB (kD hf rfl rfl rfl rfl (l1 rfl) ?_)))
 refine aM hf rfl (cT rfl rfl (lf rfl)) (aX hf rfl rfl rfl bB (aE aA 1 rfl (aD (hK1 _ (aC (fun K2 hK2=>(aB (aE aA 4 rfl (aH rfl (cK rfl iC nM (l3 rfl) rfl) (cF hf rfl iC rfl rF rfl rfl rfl rfl (lf rfl) (aD (hK2 _ (aC (fun K3 hK3=>?_))))))))))))))
 refine aB (aE aA 1 rfl (aD (hK3 _ (aC (fun K4 hK4=>(aB (aX hf rfl rfl rfl eY (aD (hK4 _ (aC (fun K5 hK5=>(aC (fun K6 hK6=>(aB (aE aA 2 rfl ?_)))))))))))))))
 refine aD (hK6 _ (aR (aC (fun K7 hK7=>(aB (aH rfl (dD rfl rfl (dF (by omega))) (aE aA 1 rfl (aD (hK7 _ (bJ rfl (aC (fun K8 hK8=>(aB (aH rfl (dD rfl rfl (dF (by omega))) ?_))))))))))))))
 refine aE aA 1 rfl (aD (hK8 _ (bJ rfl (aC (fun K9 hK9=>(aB (aH rfl (dD rfl rfl (dF (by omega))) (aE aA 1 rfl (aD (hK9 _ (bJ rfl (aC (fun K10 hK10=>(aB ?_))))))))))))))
 refine aH rfl (dD rfl rfl (dF (by omega))) (aE aA 1 rfl (aD (hK10 _ (bJ rfl (aC (fun K11 hK11=>(aB (aH rfl (dD rfl rfl (dF (by omega))) (aE aA 1 rfl (aD (hK11 _ (bJ rfl (aC (fun K12 hK12=>?_))))))))))))))
 refine aB (aH rfl (dD rfl rfl (dF (by omega))) (aE aA 1 rfl (aD (hK12 _ (bJ rfl (aC (fun K13 hK13=>(aB (aH rfl (dD rfl rfl (iE (by omega))) (aE aA 1 rfl (aD (hK13 _ (bW rfl ?_)))))))))))))
 refine aB (aE aA 5 rfl (jI hf [(E0,G0),(E1,G1)] [(E0,G0),(E1,G1)] rfl rfl rfl rfl rfl rfl (by decide) (by decide) (by decide) rfl aM6 (aOw s e.user e.at' (hz.mono (by omega)) hr hr2) ?_))
 rintro r m1 ⟨rfl,rfl⟩
 rw[nC]
 refine bM (cJ (sl':=[(2,.ref 2 0 0 0),(3,.adr (evC e)),(4,.ref 4 0 0 0),(7,.s (.int .i64 0)),(8,.ref 8 0 0 0),(107,.agg (eX (fX s e.user e.at') G0 G1))]) (m':=[(G0,.buf 2 ((fX s e.user e.at').usr.map usC)),(G1,.buf 2 ((fX s e.user e.at').tmb.map tmC)),(8,.box (stC st0)),(4,.box [.s (.int .i64 0),.s (.int .i64 0),.s (.slice none 0 0),.s (.slice none 0 0),.s (.slice none 0 0),.s (.slice none 0 0)]),(2,.box [.s (.int .i64 s.now),.s (.int .i64 s.hor),.sl 4 (s.opn.map seC),.bad,.sl 4 (s.sub.map enC),.bad])]) ⟨rfl,rfl,rfl,rfl,rfl,rfl,trivial⟩ rfl) ?_
 refine aZ hf rfl rfl cM rfl rfl (l1 rfl) (l4 rfl) rfl ?_
 refine bL ?_
 refine hK5 _ (aC (fun K14 hK14=>(aB (aE aA 4 rfl (jI hf [(E0,G0),(E1,G1)] [(E0,G0),(E1,G1)] rfl rfl rfl rfl rfl rfl (by decide) (by decide) (by decide) rfl mX (oM (fX s e.user e.at') e.user (st0) hz2 hr3) ?_)))))
 rintro r m1 ⟨rfl,rfl⟩
 rw[nC]
 refine bM (cJ (sl':=[(4,.ref 4 0 0 0),(7,.s (.int .i64 (0))),(112,.agg (eX (eC (fX s e.user e.at') e.user (st0)) G0 G1))]) (m':=[(G0,.buf 2 ((eC (fX s e.user e.at') e.user (st0)).usr.map usC)),(G1,.buf 2 ((eC (fX s e.user e.at') e.user (st0)).tmb.map tmC)),(8,.box (stC (st0))),(4,.box [.s (.int .i64 0),.s (.int .i64 0),.s (.slice none 0 0),.s (.slice none 0 0),.s (.slice none 0 0),.s (.slice none 0 0)]),(2,.box [.s (.int .i64 ((fX s e.user e.at')).now),.s (.int .i64 ((fX s e.user e.at')).hor),.sl 4 (((fX s e.user e.at')).opn.map seC),.bad,.sl 4 (((fX s e.user e.at')).sub.map enC),.bad])]) ⟨rfl,rfl,rfl,trivial⟩ rfl) ?_
 refine aE aA 1 rfl (aZ hf rfl rfl cM rfl rfl (l1 rfl) (l4 rfl) rfl (aE aA 1 rfl (aD (hK14 _ (aN ?_)))))
 exact⟨_,[(E0,G0),(E1,G1)],_,Le.refl _,by decide,rfl,rfl,⟨rfl,rfl⟩⟩
end Go.Proofs.YtijnkglkchhomaaGreat
set_option linter.unusedVariables false
set_option linter.unusedSimpArgs false
namespace Go.Proofs.YtijnkglkchhomaaGreat
open Go Go.Abs
theorem aJw (e:Ev) (hu:TS e.user) (ho:TS e.other) :Den Tryz.prog 87 [.agg (evC e)]  (·=.s (.bool (bU e))):=by
 refine aY Tryz.func87 rfl (Nat.le_of_ble_eq_true rfl) (fun w0 A hf=>(aC (fun K1 hK1=>(aB (aM hf rfl (cT rfl rfl (lf rfl)) (aE aA 1 rfl (aD (hK1 _ (aC (fun K2 hK2=>(aB (aE aA 4 rfl (aH rfl (cK rfl jO sX (l3 rfl) rfl) (aX hf rfl rfl rfl jO (aZ hf rfl rfl dC rfl rfl (l1 rfl) (l4 rfl) rfl ?_)))))))))))))))
 refine aD (hK2 _ (aC (fun K3 hK3=>(aB (aE aA 2 rfl (aM hf rfl (aQ rfl rfl lK rfl (kQ _ _ _)) (aE aA 1 rfl (aD (hK3 _ (aC (fun K4 hK4=>(aC (fun K5 hK5=>(aB (aE aA 2 rfl ?_)))))))))))))))
 refine aD (hK5 _ (aR (aC (fun K6 hK6=>(aR (aC (fun K7 hK7=>(aR (aC (fun K8 hK8=>(aR (aC (fun K9 hK9=>(aR (aC (fun K10 hK10=>(aR ?_)))))))))))))))))
 refine aC (fun K11 hK11=>(aR (aC (fun K12 hK12=>(aC (fun K13 hK13=>(aC (fun K14 hK14=>(aC (fun K15 hK15=>(aB (aE aA 2 rfl (aD (hK15 _ (cH rfl rfl (fun hc1=>?_) (fun hc1=>?_))))))))))))))))
 ·
  simp only[bs] at hc1
  refine aP (hK14 _ (bW rfl (bF (hK11 _ (aC (fun K16 hK16=>(aB (aE aA 3 rfl (aZ hf rfl rfl cI rfl rfl (l1 rfl) (l4 rfl) rfl (aD (hK16 _ (aB (aE aA 2 rfl ?_)))))))))))))
  refine bC rfl rfl rfl (fun hg3=>?_) (fun hg3=>?_)
  ·
   simp only[bs] at hg3
   refine aH rfl (bQ rfl aBj cI rfl) ?_
   refine aE aA 1 rfl (bP rfl rfl rfl (aM hf rfl (aQ rfl rfl lK rfl (kQ _ _ _)) (aE aA 2 rfl ?_)))
   refine bL ?_
   refine hK10 _ (aC (fun K17 hK17=>(aB (aE aA 3 rfl (aZ hf rfl rfl cI rfl rfl (l1 rfl) (l4 rfl) rfl (aD (hK17 _ (aB (aE aA 2 rfl (bC rfl rfl rfl (fun hg4=>?_) (fun hg4=>?_)))))))))))
   ·
    simp only[bs] at hg4
    refine aH rfl (bQ rfl rU cI rfl) ?_
    refine aE aA 1 rfl (bP rfl rfl rfl (aM hf rfl (aQ rfl rfl lK rfl (kQ _ _ _)) (aE aA 2 rfl ?_)))
    refine bL ?_
    refine hK9 _ (aC (fun K18 hK18=>(aC (fun K19 hK19=>(aB (aE aA 3 rfl (aZ hf rfl rfl cU rfl rfl (l1 rfl) (l4 rfl) rfl (aD (hK19 _ (aB (aE aA 2 rfl (bC rfl rfl rfl (fun hg5=>?_) (fun hg5=>?_)))))))))))))
    ·
     simp only[bs] at hg5
     refine aH rfl (bQ rfl fN cU rfl) ?_
     refine aE aA 1 rfl (bP rfl rfl rfl (aM hf rfl (aQ rfl rfl pJ rfl (Nm.right_den e.user hu)) (aE aA 2 rfl (aD (hK18 _ (bF (hK4 _ (aC (fun K20 hK20=>(aB (aE aA 2 rfl (bC rfl rfl rfl (fun hg6=>?_) (fun hg6=>?_)))))))))))))
     ·
      refine aH rfl (cD rfl iW dC rfl rfl rfl) ?_
      refine aE aA 1 rfl (bP rfl rfl rfl (aH rfl (jJ rfl rfl iV rfl) (aE aA 2 rfl (aD (hK20 _ (aN ?_))))))
      refine⟨_,rfl,?_⟩
      refine aS ?_
      rw[Bool.eq_iff_iff]
      simp only[bU,eF]
      (have hlt:e.at'<1099511627776:=(by omega); simp_all[toList_inj,bK,eq_comm (a:=(0:Int)) (b:=e.st),eq_comm (a:=(0:Int)) (b:=e.n)]; done)
     ·
      simp only[bs] at hg6
      refine aE aA 4 rfl (aD (hK20 _ (aN ?_)))
      refine⟨_,rfl,?_⟩
      refine aS ?_
      rw[Bool.eq_iff_iff]
      simp only[bU,eF]
      (simp_all[toList_inj,bK]; done)
    ·
     simp only[bs] at hg5
     refine aE aA 4 rfl (aD (hK18 _ (bF (hK4 _ (aC (fun K21 hK21=>(aB (aE aA 7 rfl (aD (hK21 _ (aN ?_)))))))))))
     refine⟨_,rfl,?_⟩
     refine aS ?_
     rw[Bool.eq_iff_iff]
     simp only[bU,eF]
     (simp_all[toList_inj,bK]; omega)
   ·
    simp only[bs] at hg4
    refine aE aA 4 rfl ?_
    refine bL ?_
    refine hK9 _ (aC (fun K22 hK22=>(aC (fun K23 hK23=>(aB (aE aA 3 rfl (aZ hf rfl rfl cU rfl rfl (l1 rfl) (l4 rfl) rfl (aD (hK23 _ (aB (aE aA 7 rfl (aD (hK22 _ (bF ?_))))))))))))))
    refine hK4 _ (aC (fun K24 hK24=>(aB (aE aA 7 rfl (aD (hK24 _ (aN ?_)))))))
    refine⟨_,rfl,?_⟩
    refine aS ?_
    rw[Bool.eq_iff_iff]
    simp only[bU,eF]
    (simp_all[toList_inj,bK]; done)
  ·
   simp only[bs] at hg3
   refine aE aA 4 rfl ?_
   refine bL ?_
   refine hK10 _ (aC (fun K25 hK25=>(aB (aE aA 3 rfl (aZ hf rfl rfl cI rfl rfl (l1 rfl) (l4 rfl) rfl (aD (hK25 _ (aB (aE aA 7 rfl ?_)))))))))
   refine bL ?_
   refine hK9 _ (aC (fun K26 hK26=>(aC (fun K27 hK27=>(aB (aE aA 3 rfl (aZ hf rfl rfl cU rfl rfl (l1 rfl) (l4 rfl) rfl (aD (hK27 _ (aB (aE aA 7 rfl (aD (hK26 _ (bF ?_))))))))))))))
   refine hK4 _ (aC (fun K28 hK28=>(aB (aE aA 7 rfl (aD (hK28 _ (aN ?_)))))))
   refine⟨_,rfl,?_⟩
   refine aS ?_
   rw[Bool.eq_iff_iff]
   simp only[bU,eF]
   (simp_all[toList_inj,bK]; omega)
 ·
  simp only[bs] at hc1
  refine aB (aE aA 2 rfl (aD (hK14 _ (cH rfl rfl (fun hc7=>?_) (fun hc7=>?_)))))
  ·
   simp only[bs] at hc7
   refine bF (hK11 _ (aC (fun K29 hK29=>(aB (aE aA 3 rfl (aZ hf rfl rfl cI rfl rfl (l1 rfl) (l4 rfl) rfl (aD (hK29 _ (aB (aE aA 2 rfl (bC rfl rfl rfl (fun hg8=>?_) (fun hg8=>?_))))))))))))
   ·
    simp only[bs] at hg8
    refine aH rfl (bQ rfl aBj cI rfl) ?_
    refine aE aA 1 rfl (bP rfl rfl rfl (aM hf rfl (aQ rfl rfl lK rfl (kQ _ _ _)) (aE aA 2 rfl ?_)))
    refine bL ?_
    refine hK10 _ (aC (fun K30 hK30=>(aB (aE aA 3 rfl (aZ hf rfl rfl cI rfl rfl (l1 rfl) (l4 rfl) rfl (aD (hK30 _ (aB (aE aA 2 rfl (bC rfl rfl rfl (fun hg9=>?_) (fun hg9=>?_)))))))))))
    ·
     simp only[bs] at hg9
     refine aH rfl (bQ rfl rU cI rfl) ?_
     refine aE aA 1 rfl (bP rfl rfl rfl (aM hf rfl (aQ rfl rfl lK rfl (kQ _ _ _)) (aE aA 2 rfl ?_)))
     refine bL ?_
     refine hK9 _ (aC (fun K31 hK31=>(aC (fun K32 hK32=>(aB (aE aA 3 rfl (aZ hf rfl rfl cU rfl rfl (l1 rfl) (l4 rfl) rfl (aD (hK32 _ (aB (aE aA 2 rfl (bC rfl rfl rfl (fun hg10=>?_) (fun hg10=>?_)))))))))))))
     ·
      simp only[bs] at hg10
      refine aH rfl (bQ rfl fN cU rfl) ?_
      refine aE aA 1 rfl (bP rfl rfl rfl (aM hf rfl (aQ rfl rfl pJ rfl (Nm.right_den e.user hu)) (aE aA 2 rfl (aD (hK31 _ (bF (hK4 _ (aC (fun K33 hK33=>(aB (aE aA 2 rfl (bC rfl rfl rfl (fun hg11=>?_) (fun hg11=>?_)))))))))))))
      ·
       refine aH rfl (cD rfl iW dC rfl rfl rfl) ?_
       refine aE aA 1 rfl (bP rfl rfl rfl (aH rfl (jJ rfl rfl iV rfl) (aE aA 2 rfl (aD (hK33 _ (aN ?_))))))
       refine⟨_,rfl,?_⟩
       refine aS ?_
       rw[Bool.eq_iff_iff]
       simp only[bU,eF]
       (have hlt:e.at'<1099511627776:=(by omega); simp_all[toList_inj,bK,eq_comm (a:=(0:Int)) (b:=e.st),eq_comm (a:=(0:Int)) (b:=e.n)]; done)
      ·
       simp only[bs] at hg11
       refine aE aA 4 rfl (aD (hK33 _ (aN ?_)))
       refine⟨_,rfl,?_⟩
       refine aS ?_
       rw[Bool.eq_iff_iff]
       simp only[bU,eF]
       (simp_all[toList_inj,bK]; done)
     ·
      simp only[bs] at hg10
      refine aE aA 4 rfl (aD (hK31 _ (bF (hK4 _ (aC (fun K34 hK34=>(aB (aE aA 7 rfl (aD (hK34 _ (aN ?_)))))))))))
      refine⟨_,rfl,?_⟩
      refine aS ?_
      rw[Bool.eq_iff_iff]
      simp only[bU,eF]
      (simp_all[toList_inj,bK]; omega)
    ·
     simp only[bs] at hg9
     refine aE aA 4 rfl ?_
     refine bL ?_
     refine hK9 _ (aC (fun K35 hK35=>(aC (fun K36 hK36=>(aB (aE aA 3 rfl (aZ hf rfl rfl cU rfl rfl (l1 rfl) (l4 rfl) rfl (aD (hK36 _ (aB (aE aA 7 rfl (aD (hK35 _ (bF ?_))))))))))))))
     refine hK4 _ (aC (fun K37 hK37=>(aB (aE aA 7 rfl (aD (hK37 _ (aN ?_)))))))
     refine⟨_,rfl,?_⟩
     refine aS ?_
     rw[Bool.eq_iff_iff]
     simp only[bU,eF]
     (simp_all[toList_inj,bK]; done)
   ·
    simp only[bs] at hg8
    refine aE aA 4 rfl ?_
    refine bL ?_
    refine hK10 _ (aC (fun K38 hK38=>(aB (aE aA 3 rfl (aZ hf rfl rfl cI rfl rfl (l1 rfl) (l4 rfl) rfl (aD (hK38 _ (aB (aE aA 7 rfl ?_)))))))))
    refine bL ?_
    refine hK9 _ (aC (fun K39 hK39=>(aC (fun K40 hK40=>(aB (aE aA 3 rfl (aZ hf rfl rfl cU rfl rfl (l1 rfl) (l4 rfl) rfl (aD (hK40 _ (aB (aE aA 7 rfl (aD (hK39 _ (bF ?_))))))))))))))
    refine hK4 _ (aC (fun K41 hK41=>(aB (aE aA 7 rfl (aD (hK41 _ (aN ?_)))))))
    refine⟨_,rfl,?_⟩
    refine aS ?_
    rw[Bool.eq_iff_iff]
    simp only[bU,eF]
    (simp_all[toList_inj,bK]; omega)
  ·
   simp only[bs] at hc7
   refine aP (hK13 _ (aC (fun K42 hK42=>(aC (fun K43 hK43=>(aB (aE aA 2 rfl (aD (hK43 _ (cH rfl rfl (fun hc12=>?_) (fun hc12=>?_)))))))))))
   ·
    simp only[bs] at hc12
    refine bF (hK10 _ (aC (fun K44 hK44=>(aB (aE aA 3 rfl (aZ hf rfl rfl cI rfl rfl (l1 rfl) (l4 rfl) rfl (aD (hK44 _ (aB (aE aA 2 rfl (bC rfl rfl rfl (fun hg13=>?_) (fun hg13=>?_))))))))))))
    ·
     simp only[bs] at hg13
     refine aH rfl (bQ rfl rU cI rfl) ?_
     refine aE aA 1 rfl (bP rfl rfl rfl (aM hf rfl (aQ rfl rfl lK rfl (kQ _ _ _)) (aE aA 2 rfl ?_)))
     refine bL ?_
     refine hK9 _ (aC (fun K45 hK45=>(aC (fun K46 hK46=>(aB (aE aA 3 rfl (aZ hf rfl rfl cU rfl rfl (l1 rfl) (l4 rfl) rfl (aD (hK46 _ (aB (aE aA 2 rfl (bC rfl rfl rfl (fun hg14=>?_) (fun hg14=>?_)))))))))))))
     ·
      simp only[bs] at hg14
      refine aH rfl (bQ rfl fN cU rfl) ?_
      refine aE aA 1 rfl (bP rfl rfl rfl (aM hf rfl (aQ rfl rfl pJ rfl (Nm.right_den e.user hu)) (aE aA 2 rfl (aD (hK45 _ (bF (hK4 _ (aC (fun K47 hK47=>(aB (aE aA 2 rfl (bC rfl rfl rfl (fun hg15=>?_) (fun hg15=>?_)))))))))))))
      ·
       refine aH rfl (cD rfl iW dC rfl rfl rfl) ?_
       refine aE aA 1 rfl (bP rfl rfl rfl (aH rfl (jJ rfl rfl iV rfl) (aE aA 2 rfl (aD (hK47 _ (aN ?_))))))
       refine⟨_,rfl,?_⟩
       refine aS ?_
       rw[Bool.eq_iff_iff]
       simp only[bU,eF]
       (have hlt:e.at'<1099511627776:=(by omega); simp_all[toList_inj,bK,eq_comm (a:=(0:Int)) (b:=e.st),eq_comm (a:=(0:Int)) (b:=e.n)]; done)
      ·
       simp only[bs] at hg15
       refine aE aA 4 rfl (aD (hK47 _ (aN ?_)))
       refine⟨_,rfl,?_⟩
       refine aS ?_
       rw[Bool.eq_iff_iff]
       simp only[bU,eF]
       (simp_all[toList_inj,bK]; done)
     ·
      simp only[bs] at hg14
      refine aE aA 4 rfl (aD (hK45 _ (bF (hK4 _ (aC (fun K48 hK48=>(aB (aE aA 7 rfl (aD (hK48 _ (aN ?_)))))))))))
      refine⟨_,rfl,?_⟩
      refine aS ?_
      rw[Bool.eq_iff_iff]
      simp only[bU,eF]
      (simp_all[toList_inj,bK]; omega)
    ·
     simp only[bs] at hg13
     refine aE aA 4 rfl ?_
     refine bL ?_
     refine hK9 _ (aC (fun K49 hK49=>(aC (fun K50 hK50=>(aB (aE aA 3 rfl (aZ hf rfl rfl cU rfl rfl (l1 rfl) (l4 rfl) rfl (aD (hK50 _ (aB (aE aA 7 rfl (aD (hK49 _ (bF ?_))))))))))))))
     refine hK4 _ (aC (fun K51 hK51=>(aB (aE aA 7 rfl (aD (hK51 _ (aN ?_)))))))
     refine⟨_,rfl,?_⟩
     refine aS ?_
     rw[Bool.eq_iff_iff]
     simp only[bU,eF]
     (simp_all[toList_inj,bK]; omega)
   ·
    simp only[bs] at hc12
    refine aP (hK42 _ (aC (fun K52 hK52=>(aC (fun K53 hK53=>(aB (aE aA 2 rfl (aD (hK53 _ (cH rfl rfl (fun hc16=>?_) (fun hc16=>?_)))))))))))
    ·
     simp only[bs] at hc16
     refine bF (hK9 _ (aC (fun K54 hK54=>(aC (fun K55 hK55=>(aB (aE aA 3 rfl (aZ hf rfl rfl cU rfl rfl (l1 rfl) (l4 rfl) rfl (aD (hK55 _ (aB (aE aA 2 rfl (bC rfl rfl rfl (fun hg17=>?_) (fun hg17=>?_))))))))))))))
     ·
      simp only[bs] at hg17
      refine aH rfl (bQ rfl fN cU rfl) ?_
      refine aE aA 1 rfl (bP rfl rfl rfl (aM hf rfl (aQ rfl rfl pJ rfl (Nm.right_den e.user hu)) (aE aA 2 rfl (aD (hK54 _ (bF (hK4 _ (aC (fun K56 hK56=>(aB (aE aA 2 rfl (bC rfl rfl rfl (fun hg18=>?_) (fun hg18=>?_)))))))))))))
      ·
       refine aH rfl (cD rfl iW dC rfl rfl rfl) ?_
       refine aE aA 1 rfl (bP rfl rfl rfl (aH rfl (jJ rfl rfl iV rfl) (aE aA 2 rfl (aD (hK56 _ (aN ?_))))))
       refine⟨_,rfl,?_⟩
       refine aS ?_
       rw[Bool.eq_iff_iff]
       simp only[bU,eF]
       (have hlt:e.at'<1099511627776:=(by omega); simp_all[toList_inj,bK,eq_comm (a:=(0:Int)) (b:=e.st),eq_comm (a:=(0:Int)) (b:=e.n)]; done)
      ·
       simp only[bs] at hg18
       refine aE aA 4 rfl (aD (hK56 _ (aN ?_)))
       refine⟨_,rfl,?_⟩
       refine aS ?_
       rw[Bool.eq_iff_iff]
       simp only[bU,eF]
       (simp_all[toList_inj,bK]; done)
     ·
      simp only[bs] at hg17
      refine aE aA 4 rfl (aD (hK54 _ (bF (hK4 _ (aC (fun K57 hK57=>(aB (aE aA 7 rfl (aD (hK57 _ (aN ?_)))))))))))
      refine⟨_,rfl,?_⟩
      refine aS ?_
      rw[Bool.eq_iff_iff]
      simp only[bU,eF]
      (simp_all[toList_inj,bK]; omega)
    ·
     simp only[bs] at hc16
     refine aP (hK52 _ (aC (fun K58 hK58=>(aC (fun K59 hK59=>(aC (fun K60 hK60=>(aB (aE aA 2 rfl (aD (hK60 _ (cH rfl rfl (fun hc19=>?_) (fun hc19=>?_)))))))))))))
     ·
      simp only[bs] at hc19
      refine aP (hK59 _ (bW rfl (bF (hK8 _ (aC (fun K61 hK61=>(aC (fun K62 hK62=>(dJ bN ?_)))))))))
      refine cA (listed':=#[true,false,false,false,false,false,false,false]) 0 rfl (by kernel_rfl) (by kernel_rfl) (by kernel_rfl) rfl (fun _ _ h=>h) (iG rfl fN cU rfl) ?_
      refine cA (listed':=#[true,false,true,false,false,false,false,false]) 2 rfl (by kernel_rfl) (by kernel_rfl) (by kernel_rfl) rfl (fun _ _ h=>h) (iG rfl uZ cU rfl) ?_
      refine gQ (dY [1,3,4,54,56] rfl) (aG 1 [3] (by kernel_rfl) ⟨?_,?_,trivial⟩)
      ·
       refine⟨_,rfl,rfl,(ao rfl (aE aA 1 rfl (aF (aG 3 [4] (by kernel_rfl) ⟨?_,?_,trivial⟩))))⟩
       ·
        refine⟨_,rfl,rfl,(ao rfl (aE aA 1 rfl (aF (aG 4 [] (by kernel_rfl) ⟨?_,trivial⟩))))⟩
        ·
         refine⟨_,rfl,rfl,(ao rfl (aE aA 1 rfl (aF (aG 5 [] (by kernel_rfl) ⟨?_,trivial⟩))))⟩
         ·
          refine⟨_,rfl,rfl,(ao rfl (aZ hf rfl rfl cU rfl rfl (l1 rfl) (l4 rfl) rfl (aF (aG 6 [] (by kernel_rfl) ⟨?_,trivial⟩))))⟩
          ·
           refine⟨_,rfl,rfl,(ao rfl (aE aA 1 rfl (aF (aG 7 [] (by kernel_rfl) ⟨?_,trivial⟩))))⟩
           ·
            refine⟨_,rfl,rfl,(ao rfl (aZ hf rfl rfl cU rfl rfl (l1 rfl) (l4 rfl) rfl (aF (dB (by kernel_rfl) ?_))))⟩
            refine hK62 _ (aB (aE aA 2 rfl (bC rfl rfl rfl (fun hg21=>?_) (fun hg21=>?_))))
            ·
             simp only[bs] at hg21
             refine aH rfl (bQ rfl fN cU rfl) ?_
             refine aE aA 3 rfl (bP rfl rfl rfl (aM hf rfl (bD lN rfl rfl rfl rfl (l2 rfl)) (bP rfl rfl rfl (aM hf rfl (aQ rfl rfl jV rfl (Nm.all_den [e.user,e.other] (by refine⟨by simp,fun x hx=>?_⟩; simp at hx; rcases hx with rfl | rfl <;> assumption))) ?_))))
             refine aE aA 2 rfl (aD (hK61 _ (bF (hK4 _ (aC (fun K63 hK63=>(aB (aE aA 2 rfl (bC rfl rfl rfl (fun hg22=>?_) (fun hg22=>?_))))))))))
             ·
              refine aH rfl (cD rfl iW dC rfl rfl rfl) ?_
              refine aE aA 1 rfl (bP rfl rfl rfl (aH rfl (jJ rfl rfl iV rfl) (aE aA 2 rfl (aD (hK63 _ (aN ?_))))))
              refine⟨_,rfl,?_⟩
              refine aS ?_
              rw[Bool.eq_iff_iff]
              simp only[bU,eF]
              (have hlt:e.at'<1099511627776:=(by omega); simp_all[toList_inj,bK,eq_comm (a:=(0:Int)) (b:=e.st),eq_comm (a:=(0:Int)) (b:=e.n)]; done)
             ·
              simp only[bs] at hg22
              refine aE aA 4 rfl (aD (hK63 _ (aN ?_)))
              refine⟨_,rfl,?_⟩
              refine aS ?_
              rw[Bool.eq_iff_iff]
              simp only[bU,eF]
              (simp_all[toList_inj,bK]; done)
            ·
             simp only[bs] at hg21
             refine aE aA 7 rfl (aD (hK61 _ (bF (hK4 _ (aC (fun K64 hK64=>(aB (aE aA 7 rfl (aD (hK64 _ (aN ?_)))))))))))
             refine⟨_,rfl,?_⟩
             refine aS ?_
             rw[Bool.eq_iff_iff]
             simp only[bU,eF]
             (simp_all[toList_inj,bK]; omega)
       ·
        refine⟨_,rfl,rfl,(ao rfl (aE aA 1 rfl (aF (aG 3 [5] (by kernel_rfl) ⟨?_,?_,trivial⟩))))⟩
        ·
         refine⟨_,rfl,rfl,(ao rfl (aE aA 1 rfl (aF (aG 5 [] (by kernel_rfl) ⟨?_,trivial⟩))))⟩
         ·
          refine⟨_,rfl,rfl,(ao rfl (aZ hf rfl rfl cU rfl rfl (l1 rfl) (l4 rfl) rfl (aF (aG 6 [] (by kernel_rfl) ⟨?_,trivial⟩))))⟩
          ·
           refine⟨_,rfl,rfl,(ao rfl (aE aA 1 rfl (aF (aG 7 [] (by kernel_rfl) ⟨?_,trivial⟩))))⟩
           ·
            refine⟨_,rfl,rfl,(ao rfl (aZ hf rfl rfl cU rfl rfl (l1 rfl) (l4 rfl) rfl (aF (dB (by kernel_rfl) ?_))))⟩
            refine hK62 _ (aB (aE aA 2 rfl (bC rfl rfl rfl (fun hg23=>?_) (fun hg23=>?_))))
            ·
             simp only[bs] at hg23
             refine aH rfl (bQ rfl fN cU rfl) ?_
             refine aE aA 3 rfl (bP rfl rfl rfl (aM hf rfl (bD lN rfl rfl rfl rfl (l2 rfl)) (bP rfl rfl rfl (aM hf rfl (aQ rfl rfl jV rfl (Nm.all_den [e.user,e.other] (by refine⟨by simp,fun x hx=>?_⟩; simp at hx; rcases hx with rfl | rfl <;> assumption))) ?_))))
             refine aE aA 2 rfl (aD (hK61 _ (bF (hK4 _ (aC (fun K65 hK65=>(aB (aE aA 2 rfl (bC rfl rfl rfl (fun hg24=>?_) (fun hg24=>?_))))))))))
             ·
              refine aH rfl (cD rfl iW dC rfl rfl rfl) ?_
              refine aE aA 1 rfl (bP rfl rfl rfl (aH rfl (jJ rfl rfl iV rfl) (aE aA 2 rfl (aD (hK65 _ (aN ?_))))))
              refine⟨_,rfl,?_⟩
              refine aS ?_
              rw[Bool.eq_iff_iff]
              simp only[bU,eF]
              (have hlt:e.at'<1099511627776:=(by omega); simp_all[toList_inj,bK,eq_comm (a:=(0:Int)) (b:=e.st),eq_comm (a:=(0:Int)) (b:=e.n)]; done)
             ·
              simp only[bs] at hg24
              refine aE aA 4 rfl (aD (hK65 _ (aN ?_)))
              refine⟨_,rfl,?_⟩
              refine aS ?_
              rw[Bool.eq_iff_iff]
              simp only[bU,eF]
              (simp_all[toList_inj,bK]; done)
            ·
             simp only[bs] at hg23
             refine aE aA 7 rfl (aD (hK61 _ (bF (hK4 _ (aC (fun K66 hK66=>(aB (aE aA 7 rfl (aD (hK66 _ (aN ?_)))))))))))
             refine⟨_,rfl,?_⟩
             refine aS ?_
             rw[Bool.eq_iff_iff]
             simp only[bU,eF]
             (simp_all[toList_inj,bK]; omega)
        ·
         refine⟨_,rfl,rfl,(ao rfl (aZ hf rfl rfl cU rfl rfl (l1 rfl) (l4 rfl) rfl (aF (aG 3 [] (by kernel_rfl) ⟨?_,trivial⟩))))⟩
         ·
          refine⟨_,rfl,rfl,(ao rfl (aE aA 1 rfl (aF (aG 6 [] (by kernel_rfl) ⟨?_,trivial⟩))))⟩
          ·
           refine⟨_,rfl,rfl,(ao rfl (aE aA 1 rfl (aF (aG 7 [] (by kernel_rfl) ⟨?_,trivial⟩))))⟩
           ·
            refine⟨_,rfl,rfl,(ao rfl (aZ hf rfl rfl cU rfl rfl (l1 rfl) (l4 rfl) rfl (aF (dB (by kernel_rfl) ?_))))⟩
            refine hK62 _ (aB (aE aA 2 rfl (bC rfl rfl rfl (fun hg25=>?_) (fun hg25=>?_))))
            ·
             simp only[bs] at hg25
             refine aH rfl (bQ rfl fN cU rfl) ?_
             refine aE aA 3 rfl (bP rfl rfl rfl (aM hf rfl (bD lN rfl rfl rfl rfl (l2 rfl)) (bP rfl rfl rfl (aM hf rfl (aQ rfl rfl jV rfl (Nm.all_den [e.user,e.other] (by refine⟨by simp,fun x hx=>?_⟩; simp at hx; rcases hx with rfl | rfl <;> assumption))) ?_))))
             refine aE aA 2 rfl (aD (hK61 _ (bF (hK4 _ (aC (fun K67 hK67=>(aB (aE aA 2 rfl (bC rfl rfl rfl (fun hg26=>?_) (fun hg26=>?_))))))))))
             ·
              refine aH rfl (cD rfl iW dC rfl rfl rfl) ?_
              refine aE aA 1 rfl (bP rfl rfl rfl (aH rfl (jJ rfl rfl iV rfl) (aE aA 2 rfl (aD (hK67 _ (aN ?_))))))
              refine⟨_,rfl,?_⟩
              refine aS ?_
              rw[Bool.eq_iff_iff]
              simp only[bU,eF]
              (have hlt:e.at'<1099511627776:=(by omega); simp_all[toList_inj,bK,eq_comm (a:=(0:Int)) (b:=e.st),eq_comm (a:=(0:Int)) (b:=e.n)]; done)
             ·
              simp only[bs] at hg26
              refine aE aA 4 rfl (aD (hK67 _ (aN ?_)))
              refine⟨_,rfl,?_⟩
              refine aS ?_
              rw[Bool.eq_iff_iff]
              simp only[bU,eF]
              (simp_all[toList_inj,bK]; done)
            ·
             simp only[bs] at hg25
             refine aE aA 7 rfl (aD (hK61 _ (bF (hK4 _ (aC (fun K68 hK68=>(aB (aE aA 7 rfl (aD (hK68 _ (aN ?_)))))))))))
             refine⟨_,rfl,?_⟩
             refine aS ?_
             rw[Bool.eq_iff_iff]
             simp only[bU,eF]
             (simp_all[toList_inj,bK]; omega)
      ·
       refine⟨_,rfl,rfl,(ao rfl (aE aA 1 rfl (aF (aG 1 [] (by kernel_rfl) ⟨?_,trivial⟩))))⟩
       ·
        refine⟨_,rfl,rfl,(ao rfl (aE aA 1 rfl (aF (aG 4 [] (by kernel_rfl) ⟨?_,trivial⟩))))⟩
        ·
         refine⟨_,rfl,rfl,(ao rfl (aE aA 1 rfl (aF (aG 5 [] (by kernel_rfl) ⟨?_,trivial⟩))))⟩
         ·
          refine⟨_,rfl,rfl,(ao rfl (aZ hf rfl rfl cU rfl rfl (l1 rfl) (l4 rfl) rfl (aF (aG 6 [] (by kernel_rfl) ⟨?_,trivial⟩))))⟩
          ·
           refine⟨_,rfl,rfl,(ao rfl (aE aA 1 rfl (aF (aG 7 [] (by kernel_rfl) ⟨?_,trivial⟩))))⟩
           ·
            refine⟨_,rfl,rfl,(ao rfl (aZ hf rfl rfl cU rfl rfl (l1 rfl) (l4 rfl) rfl (aF (dB (by kernel_rfl) ?_))))⟩
            refine hK62 _ (aB (aE aA 2 rfl (bC rfl rfl rfl (fun hg27=>?_) (fun hg27=>?_))))
            ·
             simp only[bs] at hg27
             refine aH rfl (bQ rfl fN cU rfl) ?_
             refine aE aA 3 rfl (bP rfl rfl rfl (aM hf rfl (bD lN rfl rfl rfl rfl (l2 rfl)) (bP rfl rfl rfl (aM hf rfl (aQ rfl rfl jV rfl (Nm.all_den [e.user,e.other] (by refine⟨by simp,fun x hx=>?_⟩; simp at hx; rcases hx with rfl | rfl <;> assumption))) ?_))))
             refine aE aA 2 rfl (aD (hK61 _ (bF (hK4 _ (aC (fun K69 hK69=>(aB (aE aA 2 rfl (bC rfl rfl rfl (fun hg28=>?_) (fun hg28=>?_))))))))))
             ·
              refine aH rfl (cD rfl iW dC rfl rfl rfl) ?_
              refine aE aA 1 rfl (bP rfl rfl rfl (aH rfl (jJ rfl rfl iV rfl) (aE aA 2 rfl (aD (hK69 _ (aN ?_))))))
              refine⟨_,rfl,?_⟩
              refine aS ?_
              rw[Bool.eq_iff_iff]
              simp only[bU,eF]
              (have hlt:e.at'<1099511627776:=(by omega); simp_all[toList_inj,bK,eq_comm (a:=(0:Int)) (b:=e.st),eq_comm (a:=(0:Int)) (b:=e.n)]; done)
             ·
              simp only[bs] at hg28
              refine aE aA 4 rfl (aD (hK69 _ (aN ?_)))
              refine⟨_,rfl,?_⟩
              refine aS ?_
              rw[Bool.eq_iff_iff]
              simp only[bU,eF]
              (simp_all[toList_inj,bK]; done)
            ·
             simp only[bs] at hg27
             refine aE aA 7 rfl (aD (hK61 _ (bF (hK4 _ (aC (fun K70 hK70=>(aB (aE aA 7 rfl (aD (hK70 _ (aN ?_)))))))))))
             refine⟨_,rfl,?_⟩
             refine aS ?_
             rw[Bool.eq_iff_iff]
             simp only[bU,eF]
             (simp_all[toList_inj,bK]; omega)
     ·
      simp only[bs] at hc19
      refine aB (aE aA 2 rfl (aD (hK59 _ (cH rfl rfl (fun hc29=>?_) (fun hc29=>?_)))))
      ·
       simp only[bs] at hc29
       refine bF (hK8 _ (aC (fun K71 hK71=>(aC (fun K72 hK72=>(dJ bN ?_))))))
       refine cA (listed':=#[true,false,false,false,false,false,false,false]) 0 rfl (by kernel_rfl) (by kernel_rfl) (by kernel_rfl) rfl (fun _ _ h=>h) (iG rfl fN cU rfl) ?_
       refine cA (listed':=#[true,false,true,false,false,false,false,false]) 2 rfl (by kernel_rfl) (by kernel_rfl) (by kernel_rfl) rfl (fun _ _ h=>h) (iG rfl uZ cU rfl) ?_
       refine gQ (dY [1,3,4,54,56] rfl) (aG 1 [3] (by kernel_rfl) ⟨?_,?_,trivial⟩)
       ·
        refine⟨_,rfl,rfl,(ao rfl (aE aA 1 rfl (aF (aG 3 [4] (by kernel_rfl) ⟨?_,?_,trivial⟩))))⟩
        ·
         refine⟨_,rfl,rfl,(ao rfl (aE aA 1 rfl (aF (aG 4 [] (by kernel_rfl) ⟨?_,trivial⟩))))⟩
         ·
          refine⟨_,rfl,rfl,(ao rfl (aE aA 1 rfl (aF (aG 5 [] (by kernel_rfl) ⟨?_,trivial⟩))))⟩
          ·
           refine⟨_,rfl,rfl,(ao rfl (aZ hf rfl rfl cU rfl rfl (l1 rfl) (l4 rfl) rfl (aF (aG 6 [] (by kernel_rfl) ⟨?_,trivial⟩))))⟩
           ·
            refine⟨_,rfl,rfl,(ao rfl (aE aA 1 rfl (aF (aG 7 [] (by kernel_rfl) ⟨?_,trivial⟩))))⟩
            ·
             refine⟨_,rfl,rfl,(ao rfl (aZ hf rfl rfl cU rfl rfl (l1 rfl) (l4 rfl) rfl (aF (dB (by kernel_rfl) ?_))))⟩
             refine hK72 _ (aB (aE aA 2 rfl (bC rfl rfl rfl (fun hg30=>?_) (fun hg30=>?_))))
             ·
              simp only[bs] at hg30
              refine aH rfl (bQ rfl fN cU rfl) ?_
              refine aE aA 3 rfl (bP rfl rfl rfl (aM hf rfl (bD lN rfl rfl rfl rfl (l2 rfl)) (bP rfl rfl rfl (aM hf rfl (aQ rfl rfl jV rfl (Nm.all_den [e.user,e.other] (by refine⟨by simp,fun x hx=>?_⟩; simp at hx; rcases hx with rfl | rfl <;> assumption))) ?_))))
              refine aE aA 2 rfl (aD (hK71 _ (bF (hK4 _ (aC (fun K73 hK73=>(aB (aE aA 2 rfl (bC rfl rfl rfl (fun hg31=>?_) (fun hg31=>?_))))))))))
              ·
               refine aH rfl (cD rfl iW dC rfl rfl rfl) ?_
               refine aE aA 1 rfl (bP rfl rfl rfl (aH rfl (jJ rfl rfl iV rfl) (aE aA 2 rfl (aD (hK73 _ (aN ?_))))))
               refine⟨_,rfl,?_⟩
               refine aS ?_
               rw[Bool.eq_iff_iff]
               simp only[bU,eF]
               (have hlt:e.at'<1099511627776:=(by omega); simp_all[toList_inj,bK,eq_comm (a:=(0:Int)) (b:=e.st),eq_comm (a:=(0:Int)) (b:=e.n)]; done)
              ·
               simp only[bs] at hg31
               refine aE aA 4 rfl (aD (hK73 _ (aN ?_)))
               refine⟨_,rfl,?_⟩
               refine aS ?_
               rw[Bool.eq_iff_iff]
               simp only[bU,eF]
               (simp_all[toList_inj,bK]; done)
             ·
              simp only[bs] at hg30
              refine aE aA 7 rfl (aD (hK71 _ (bF (hK4 _ (aC (fun K74 hK74=>(aB (aE aA 7 rfl (aD (hK74 _ (aN ?_)))))))))))
              refine⟨_,rfl,?_⟩
              refine aS ?_
              rw[Bool.eq_iff_iff]
              simp only[bU,eF]
              (simp_all[toList_inj,bK]; omega)
        ·
         refine⟨_,rfl,rfl,(ao rfl (aE aA 1 rfl (aF (aG 3 [5] (by kernel_rfl) ⟨?_,?_,trivial⟩))))⟩
         ·
          refine⟨_,rfl,rfl,(ao rfl (aE aA 1 rfl (aF (aG 5 [] (by kernel_rfl) ⟨?_,trivial⟩))))⟩
          ·
           refine⟨_,rfl,rfl,(ao rfl (aZ hf rfl rfl cU rfl rfl (l1 rfl) (l4 rfl) rfl (aF (aG 6 [] (by kernel_rfl) ⟨?_,trivial⟩))))⟩
           ·
            refine⟨_,rfl,rfl,(ao rfl (aE aA 1 rfl (aF (aG 7 [] (by kernel_rfl) ⟨?_,trivial⟩))))⟩
            ·
             refine⟨_,rfl,rfl,(ao rfl (aZ hf rfl rfl cU rfl rfl (l1 rfl) (l4 rfl) rfl (aF (dB (by kernel_rfl) ?_))))⟩
             refine hK72 _ (aB (aE aA 2 rfl (bC rfl rfl rfl (fun hg32=>?_) (fun hg32=>?_))))
             ·
              simp only[bs] at hg32
              refine aH rfl (bQ rfl fN cU rfl) ?_
              refine aE aA 3 rfl (bP rfl rfl rfl (aM hf rfl (bD lN rfl rfl rfl rfl (l2 rfl)) (bP rfl rfl rfl (aM hf rfl (aQ rfl rfl jV rfl (Nm.all_den [e.user,e.other] (by refine⟨by simp,fun x hx=>?_⟩; simp at hx; rcases hx with rfl | rfl <;> assumption))) ?_))))
              refine aE aA 2 rfl (aD (hK71 _ (bF (hK4 _ (aC (fun K75 hK75=>(aB (aE aA 2 rfl (bC rfl rfl rfl (fun hg33=>?_) (fun hg33=>?_))))))))))
              ·
               refine aH rfl (cD rfl iW dC rfl rfl rfl) ?_
               refine aE aA 1 rfl (bP rfl rfl rfl (aH rfl (jJ rfl rfl iV rfl) (aE aA 2 rfl (aD (hK75 _ (aN ?_))))))
               refine⟨_,rfl,?_⟩
               refine aS ?_
               rw[Bool.eq_iff_iff]
               simp only[bU,eF]
               (have hlt:e.at'<1099511627776:=(by omega); simp_all[toList_inj,bK,eq_comm (a:=(0:Int)) (b:=e.st),eq_comm (a:=(0:Int)) (b:=e.n)]; done)
              ·
               simp only[bs] at hg33
               refine aE aA 4 rfl (aD (hK75 _ (aN ?_)))
               refine⟨_,rfl,?_⟩
               refine aS ?_
               rw[Bool.eq_iff_iff]
               simp only[bU,eF]
               (simp_all[toList_inj,bK]; done)
             ·
              simp only[bs] at hg32
              refine aE aA 7 rfl (aD (hK71 _ (bF (hK4 _ (aC (fun K76 hK76=>(aB (aE aA 7 rfl (aD (hK76 _ (aN ?_)))))))))))
              refine⟨_,rfl,?_⟩
              refine aS ?_
              rw[Bool.eq_iff_iff]
              simp only[bU,eF]
              (simp_all[toList_inj,bK]; omega)
         ·
          refine⟨_,rfl,rfl,(ao rfl (aZ hf rfl rfl cU rfl rfl (l1 rfl) (l4 rfl) rfl (aF (aG 3 [] (by kernel_rfl) ⟨?_,trivial⟩))))⟩
          ·
           refine⟨_,rfl,rfl,(ao rfl (aE aA 1 rfl (aF (aG 6 [] (by kernel_rfl) ⟨?_,trivial⟩))))⟩
           ·
            refine⟨_,rfl,rfl,(ao rfl (aE aA 1 rfl (aF (aG 7 [] (by kernel_rfl) ⟨?_,trivial⟩))))⟩
            ·
             refine⟨_,rfl,rfl,(ao rfl (aZ hf rfl rfl cU rfl rfl (l1 rfl) (l4 rfl) rfl (aF (dB (by kernel_rfl) ?_))))⟩
             refine hK72 _ (aB (aE aA 2 rfl (bC rfl rfl rfl (fun hg34=>?_) (fun hg34=>?_))))
             ·
              simp only[bs] at hg34
              refine aH rfl (bQ rfl fN cU rfl) ?_
              refine aE aA 3 rfl (bP rfl rfl rfl (aM hf rfl (bD lN rfl rfl rfl rfl (l2 rfl)) (bP rfl rfl rfl (aM hf rfl (aQ rfl rfl jV rfl (Nm.all_den [e.user,e.other] (by refine⟨by simp,fun x hx=>?_⟩; simp at hx; rcases hx with rfl | rfl <;> assumption))) ?_))))
              refine aE aA 2 rfl (aD (hK71 _ (bF (hK4 _ (aC (fun K77 hK77=>(aB (aE aA 2 rfl (bC rfl rfl rfl (fun hg35=>?_) (fun hg35=>?_))))))))))
              ·
               refine aH rfl (cD rfl iW dC rfl rfl rfl) ?_
               refine aE aA 1 rfl (bP rfl rfl rfl (aH rfl (jJ rfl rfl iV rfl) (aE aA 2 rfl (aD (hK77 _ (aN ?_))))))
               refine⟨_,rfl,?_⟩
               refine aS ?_
               rw[Bool.eq_iff_iff]
               simp only[bU,eF]
               (have hlt:e.at'<1099511627776:=(by omega); simp_all[toList_inj,bK,eq_comm (a:=(0:Int)) (b:=e.st),eq_comm (a:=(0:Int)) (b:=e.n)]; done)
              ·
               simp only[bs] at hg35
               refine aE aA 4 rfl (aD (hK77 _ (aN ?_)))
               refine⟨_,rfl,?_⟩
               refine aS ?_
               rw[Bool.eq_iff_iff]
               simp only[bU,eF]
               (simp_all[toList_inj,bK]; done)
             ·
              simp only[bs] at hg34
              refine aE aA 7 rfl (aD (hK71 _ (bF (hK4 _ (aC (fun K78 hK78=>(aB (aE aA 7 rfl (aD (hK78 _ (aN ?_)))))))))))
              refine⟨_,rfl,?_⟩
              refine aS ?_
              rw[Bool.eq_iff_iff]
              simp only[bU,eF]
              (simp_all[toList_inj,bK]; omega)
       ·
        refine⟨_,rfl,rfl,(ao rfl (aE aA 1 rfl (aF (aG 1 [] (by kernel_rfl) ⟨?_,trivial⟩))))⟩
        ·
         refine⟨_,rfl,rfl,(ao rfl (aE aA 1 rfl (aF (aG 4 [] (by kernel_rfl) ⟨?_,trivial⟩))))⟩
         ·
          refine⟨_,rfl,rfl,(ao rfl (aE aA 1 rfl (aF (aG 5 [] (by kernel_rfl) ⟨?_,trivial⟩))))⟩
          ·
           refine⟨_,rfl,rfl,(ao rfl (aZ hf rfl rfl cU rfl rfl (l1 rfl) (l4 rfl) rfl (aF (aG 6 [] (by kernel_rfl) ⟨?_,trivial⟩))))⟩
           ·
            refine⟨_,rfl,rfl,(ao rfl (aE aA 1 rfl (aF (aG 7 [] (by kernel_rfl) ⟨?_,trivial⟩))))⟩
            ·
             refine⟨_,rfl,rfl,(ao rfl (aZ hf rfl rfl cU rfl rfl (l1 rfl) (l4 rfl) rfl (aF (dB (by kernel_rfl) ?_))))⟩
             refine hK72 _ (aB (aE aA 2 rfl (bC rfl rfl rfl (fun hg36=>?_) (fun hg36=>?_))))
             ·
              simp only[bs] at hg36
              refine aH rfl (bQ rfl fN cU rfl) ?_
              refine aE aA 3 rfl (bP rfl rfl rfl (aM hf rfl (bD lN rfl rfl rfl rfl (l2 rfl)) (bP rfl rfl rfl (aM hf rfl (aQ rfl rfl jV rfl (Nm.all_den [e.user,e.other] (by refine⟨by simp,fun x hx=>?_⟩; simp at hx; rcases hx with rfl | rfl <;> assumption))) ?_))))
              refine aE aA 2 rfl (aD (hK71 _ (bF (hK4 _ (aC (fun K79 hK79=>(aB (aE aA 2 rfl (bC rfl rfl rfl (fun hg37=>?_) (fun hg37=>?_))))))))))
              ·
               refine aH rfl (cD rfl iW dC rfl rfl rfl) ?_
               refine aE aA 1 rfl (bP rfl rfl rfl (aH rfl (jJ rfl rfl iV rfl) (aE aA 2 rfl (aD (hK79 _ (aN ?_))))))
               refine⟨_,rfl,?_⟩
               refine aS ?_
               rw[Bool.eq_iff_iff]
               simp only[bU,eF]
               (have hlt:e.at'<1099511627776:=(by omega); simp_all[toList_inj,bK,eq_comm (a:=(0:Int)) (b:=e.st),eq_comm (a:=(0:Int)) (b:=e.n)]; done)
              ·
               simp only[bs] at hg37
               refine aE aA 4 rfl (aD (hK79 _ (aN ?_)))
               refine⟨_,rfl,?_⟩
               refine aS ?_
               rw[Bool.eq_iff_iff]
               simp only[bU,eF]
               (simp_all[toList_inj,bK]; done)
             ·
              simp only[bs] at hg36
              refine aE aA 7 rfl (aD (hK71 _ (bF (hK4 _ (aC (fun K80 hK80=>(aB (aE aA 7 rfl (aD (hK80 _ (aN ?_)))))))))))
              refine⟨_,rfl,?_⟩
              refine aS ?_
              rw[Bool.eq_iff_iff]
              simp only[bU,eF]
              (simp_all[toList_inj,bK]; omega)
      ·
       simp only[bs] at hc29
       refine aP (hK58 _ (aC (fun K81 hK81=>(aB (aE aA 2 rfl (aD (hK81 _ (cH rfl rfl (fun hc38=>?_) (fun hc38=>?_)))))))))
       ·
        simp only[bs] at hc38
        refine bF (hK7 _ (aC (fun K82 hK82=>(aC (fun K83 hK83=>(aB (aE aA 3 rfl (aZ hf rfl rfl cI rfl rfl (l1 rfl) (l4 rfl) rfl (aD (hK83 _ (aB (aE aA 2 rfl (bC rfl rfl rfl (fun hg39=>?_) (fun hg39=>?_))))))))))))))
        ·
         simp only[bs] at hg39
         refine aH rfl (bQ rfl rU cI rfl) ?_
         refine aE aA 1 rfl (bP rfl rfl rfl (aM hf rfl (aQ rfl rfl lK rfl (kQ _ _ _)) (aE aA 2 rfl (aD (hK82 _ (bF (hK4 _ (aC (fun K84 hK84=>(aB (aE aA 2 rfl (bC rfl rfl rfl (fun hg40=>?_) (fun hg40=>?_)))))))))))))
         ·
          simp only[bs] at hg40
          refine aH rfl (cD rfl iW dC rfl rfl rfl) ?_
          refine aE aA 1 rfl (bP rfl rfl rfl (aH rfl (jJ rfl rfl iV rfl) (aE aA 2 rfl (aD (hK84 _ (aN ?_))))))
          refine⟨_,rfl,?_⟩
          refine aS ?_
          rw[Bool.eq_iff_iff]
          simp only[bU,eF]
          (have hlt:e.at'<1099511627776:=(by omega); have hln:e.n<1099511627776:=(by omega); simp_all[toList_inj,bK,eq_comm (a:=(0:Int)) (b:=e.st),eq_comm (a:=(0:Int)) (b:=e.n)]; done)
         ·
          simp only[bs] at hg40
          refine aE aA 4 rfl (aD (hK84 _ (aN ?_)))
          refine⟨_,rfl,?_⟩
          refine aS ?_
          rw[Bool.eq_iff_iff]
          simp only[bU,eF]
          (simp_all[toList_inj,bK]; omega)
        ·
         simp only[bs] at hg39
         refine aE aA 4 rfl (aD (hK82 _ (bF (hK4 _ (aC (fun K85 hK85=>(aB (aE aA 7 rfl (aD (hK85 _ (aN ?_)))))))))))
         refine⟨_,rfl,?_⟩
         refine aS ?_
         rw[Bool.eq_iff_iff]
         simp only[bU,eF]
         (simp_all[toList_inj,bK]; omega)
       ·
        simp only[bs] at hc38
        refine aP (hK12 _ (bF (hK6 _ (aC (fun K86 hK86=>(aC (fun K87 hK87=>(aB (aE aA 1 rfl (aD (hK87 _ (aN ?_))))))))))))
        refine⟨_,rfl,?_⟩
        refine aS ?_
        rw[Bool.eq_iff_iff]
        simp only[bU,eF]
        (simp_all[toList_inj,bK]; done)
theorem tH (e:Ev) (hu:TS e.user) (ho:TS e.other) :Den Tryz.prog 168 [.agg (evC e)]  (·=.s (.bool (eF e))):=by
 refine aY Tryz.func168 rfl (Nat.le_of_ble_eq_true rfl) (fun w0 A hf=>(aC (fun K1 hK1=>(aB (aM hf rfl (cT rfl rfl (lf rfl)) (aE aA 1 rfl (aD (hK1 _ (aC (fun K2 hK2=>(aB (aE aA 4 rfl (bC rfl rfl rfl (fun hg1=>?_) (fun hg1=>?_))))))))))))))
 ·
  simp only[bs] at hg1
  refine aH rfl (bQ rfl nO cI rfl) ?_
  refine aE aA 4 rfl (bC rfl rfl rfl (fun hg2=>?_) (fun hg2=>?_))
  ·
   simp only[bs] at hg2
   refine aH rfl (bQ rfl aLz cU rfl) ?_
   refine aE aA 1 rfl (bP rfl rfl rfl (aM hf rfl (aQ rfl rfl gV rfl (Nm.refRight_den _ (by assumption))) (aE aA 2 rfl (bC rfl rfl rfl (fun hg3=>?_) (fun hg3=>?_)))))
   ·
    refine aH rfl (bQ rfl pI cU rfl) ?_
    refine aE aA 4 rfl (aD (hK2 _ (aN ?_)))
    refine⟨_,rfl,?_⟩
    refine aS ?_
    rw[Bool.eq_iff_iff]
    simp only[bU,eF]
    (simp_all[toList_inj,bK]; done)
   ·
    simp only[bs] at hg3
    refine aE aA 4 rfl (aD (hK2 _ (aN ?_)))
    refine⟨_,rfl,?_⟩
    refine aS ?_
    rw[Bool.eq_iff_iff]
    simp only[bU,eF]
    (simp_all[toList_inj,bK]; done)
  ·
   simp only[bs] at hg2
   refine aE aA 9 rfl (aD (hK2 _ (aN ?_)))
   refine⟨_,rfl,?_⟩
   refine aS ?_
   rw[Bool.eq_iff_iff]
   simp only[bU,eF]
   (simp_all[toList_inj,bK]; omega)
 ·
  simp only[bs] at hg1
  refine aE aA 14 rfl (aD (hK2 _ (aN ?_)))
  refine⟨_,rfl,?_⟩
  refine aS ?_
  rw[Bool.eq_iff_iff]
  simp only[bU,eF]
  (simp_all[toList_inj,bK]; omega)
theorem fV (e:Ev) (hu:TS e.user) (ho:TS e.other) :Den Tryz.prog 101 [.agg (evC e)]  (·=.s (.bool (bU e))):=by
 refine aY Tryz.func101 rfl (Nat.le_of_ble_eq_true rfl) (fun w0 A hf=>(aC (fun K1 hK1=>(aB (aM hf rfl (cT rfl rfl (lf rfl)) (aE aA 1 rfl (aD (hK1 _ (aC (fun K2 hK2=>(aC (fun K3 hK3=>(aB (aE aA 4 rfl (bC rfl rfl rfl (fun hg1=>?_) (fun hg1=>?_))))))))))))))))
 ·
  simp only[bs] at hg1
  refine aH rfl (bQ rfl aBk cI rfl) ?_
  refine aE aA 3 rfl (aD (hK3 _ (cH rfl rfl (fun hc2=>?_) (fun hc2=>?_))))
  ·
   simp only[bs] at hc2
   refine aC (fun K4 hK4=>(aB (aE aA 1 rfl (aD (hK4 _ (aN ?_))))))
   refine⟨_,rfl,?_⟩
   refine aS ?_
   rw[Bool.eq_iff_iff]
   simp only[bU]
   (simp_all[toList_inj,bK]; omega)
  ·
   simp only[bs] at hc2
   refine aP (hK2 _ (aC (fun K5 hK5=>(aC (fun K6 hK6=>(aB (aE aA 2 rfl (aD (hK6 _ (aR (aC (fun K7 hK7=>(aC (fun K8 hK8=>(aB (aE aA 2 rfl ?_))))))))))))))))
   refine aD (hK8 _ (cH rfl rfl (fun hc3=>?_) (fun hc3=>?_)))
   ·
    simp only[bs] at hc3
    refine aP (hK7 _ (bW rfl (aC (fun K9 hK9=>(aB (aE aA 1 rfl (aM hf rfl (aQ rfl rfl vG rfl (tH e hu ho)) (aE aA 1 rfl (bC rfl rfl rfl (fun hg5=>?_) (fun hg5=>?_))))))))))
    ·
     refine aH rfl (bQ rfl iX cI rfl) ?_
     refine aE aA 4 rfl (bC rfl rfl rfl (fun hg6=>?_) (fun hg6=>?_))
     ·
      simp only[bs] at hg6
      refine aH rfl (bQ rfl iX cI rfl) ?_
      refine aE aA 4 rfl (aD (hK9 _ (aN ?_)))
      refine⟨_,rfl,?_⟩
      refine aS ?_
      rw[Bool.eq_iff_iff]
      simp only[bU]
      (simp_all[toList_inj,bK]; done)
     ·
      simp only[bs] at hg6
      refine aE aA 4 rfl (aD (hK9 _ (aN ?_)))
      refine⟨_,rfl,?_⟩
      refine aS ?_
      rw[Bool.eq_iff_iff]
      simp only[bU]
      (simp_all[toList_inj,bK]; omega)
    ·
     simp only[bs] at hg5
     refine aE aA 9 rfl (aD (hK9 _ (aN ?_)))
     refine⟨_,rfl,?_⟩
     refine aS ?_
     rw[Bool.eq_iff_iff]
     simp only[bU]
     (simp_all[toList_inj,bK]; done)
   ·
    simp only[bs] at hc3
    refine aB (aE aA 2 rfl (aD (hK7 _ (cH rfl rfl (fun hc7=>?_) (fun hc7=>?_)))))
    ·
     simp only[bs] at hc7
     refine aC (fun K10 hK10=>(aB (aE aA 1 rfl (aM hf rfl (aQ rfl rfl vG rfl (tH e hu ho)) (aE aA 1 rfl (bC rfl rfl rfl (fun hg8=>?_) (fun hg8=>?_)))))))
     ·
      refine aH rfl (bQ rfl iX cI rfl) ?_
      refine aE aA 4 rfl (bC rfl rfl rfl (fun hg9=>?_) (fun hg9=>?_))
      ·
       simp only[bs] at hg9
       refine aH rfl (bQ rfl iX cI rfl) ?_
       refine aE aA 4 rfl (aD (hK10 _ (aN ?_)))
       refine⟨_,rfl,?_⟩
       refine aS ?_
       rw[Bool.eq_iff_iff]
       simp only[bU]
       (simp_all[toList_inj,bK]; done)
      ·
       simp only[bs] at hg9
       refine aE aA 4 rfl (aD (hK10 _ (aN ?_)))
       refine⟨_,rfl,?_⟩
       refine aS ?_
       rw[Bool.eq_iff_iff]
       simp only[bU]
       (simp_all[toList_inj,bK]; omega)
     ·
      simp only[bs] at hg8
      refine aE aA 9 rfl (aD (hK10 _ (aN ?_)))
      refine⟨_,rfl,?_⟩
      refine aS ?_
      rw[Bool.eq_iff_iff]
      simp only[bU]
      (simp_all[toList_inj,bK]; done)
    ·
     simp only[bs] at hc7
     refine aC (fun K11 hK11=>(aB (aE aA 2 rfl (aD (hK11 _ (cH rfl rfl (fun hc10=>?_) (fun hc10=>?_)))))))
     ·
      simp only[bs] at hc10
      refine aC (fun K12 hK12=>(aB (aE aA 1 rfl (aM hf rfl (aQ rfl rfl vG rfl (tH e hu ho)) (aE aA 1 rfl (bC rfl rfl rfl (fun hg11=>?_) (fun hg11=>?_)))))))
      ·
       refine aH rfl (bQ rfl iX cI rfl) ?_
       refine aE aA 4 rfl (aD (hK12 _ (aN ?_)))
       refine⟨_,rfl,?_⟩
       refine aS ?_
       rw[Bool.eq_iff_iff]
       simp only[bU]
       (simp_all[toList_inj,bK]; done)
      ·
       simp only[bs] at hg11
       refine aE aA 4 rfl (aD (hK12 _ (aN ?_)))
       refine⟨_,rfl,?_⟩
       refine aS ?_
       rw[Bool.eq_iff_iff]
       simp only[bU]
       (simp_all[toList_inj,bK]; done)
     ·
      simp only[bs] at hc10
      refine aC (fun K13 hK13=>(aC (fun K14 hK14=>(aB (aE aA 2 rfl (aD (hK14 _ (cH rfl rfl (fun hc12=>?_) (fun hc12=>?_)))))))))
      ·
       simp only[bs] at hc12
       refine aP (hK13 _ (bW rfl (aC (fun K15 hK15=>(aB (aE aA 2 rfl (aM hf rfl (aQ rfl rfl gV rfl (Nm.refRight_den _ (by assumption))) (aE aA 1 rfl (bC rfl rfl rfl (fun hg14=>?_) (fun hg14=>?_))))))))))
       ·
        refine aH rfl (bQ rfl pI cU rfl) ?_
        refine aE aA 1 rfl (bP rfl rfl rfl (aM hf rfl (aQ rfl rfl gV rfl (Nm.refRight_den _ (by assumption))) (aE aA 2 rfl (bC rfl rfl rfl (fun hg15=>?_) (fun hg15=>?_)))))
        ·
         refine aH rfl (bQ rfl nO cI rfl) ?_
         refine aE aA 4 rfl (bC rfl rfl rfl (fun hg16=>?_) (fun hg16=>?_))
         ·
          simp only[bs] at hg16
          refine aH rfl (bQ rfl iX cI rfl) ?_
          refine aE aA 4 rfl (aD (hK15 _ (aN ?_)))
          refine⟨_,rfl,?_⟩
          refine aS ?_
          rw[Bool.eq_iff_iff]
          simp only[bU]
          (simp_all[toList_inj,bK]; done)
         ·
          simp only[bs] at hg16
          refine aE aA 4 rfl (aD (hK15 _ (aN ?_)))
          refine⟨_,rfl,?_⟩
          refine aS ?_
          rw[Bool.eq_iff_iff]
          simp only[bU]
          (simp_all[toList_inj,bK]; done)
        ·
         simp only[bs] at hg15
         refine aE aA 9 rfl (aD (hK15 _ (aN ?_)))
         refine⟨_,rfl,?_⟩
         refine aS ?_
         rw[Bool.eq_iff_iff]
         simp only[bU]
         (simp_all[toList_inj,bK]; done)
       ·
        simp only[bs] at hg14
        refine aE aA 14 rfl (aD (hK15 _ (aN ?_)))
        refine⟨_,rfl,?_⟩
        refine aS ?_
        rw[Bool.eq_iff_iff]
        simp only[bU]
        (simp_all[toList_inj,bK]; done)
      ·
       simp only[bs] at hc12
       refine aB (aE aA 2 rfl (aD (hK13 _ (cH rfl rfl (fun hc17=>?_) (fun hc17=>?_)))))
       ·
        simp only[bs] at hc17
        refine aC (fun K16 hK16=>(aB (aE aA 2 rfl (aM hf rfl (aQ rfl rfl gV rfl (Nm.refRight_den _ (by assumption))) (aE aA 1 rfl (bC rfl rfl rfl (fun hg18=>?_) (fun hg18=>?_)))))))
        ·
         refine aH rfl (bQ rfl pI cU rfl) ?_
         refine aE aA 1 rfl (bP rfl rfl rfl (aM hf rfl (aQ rfl rfl gV rfl (Nm.refRight_den _ (by assumption))) (aE aA 2 rfl (bC rfl rfl rfl (fun hg19=>?_) (fun hg19=>?_)))))
         ·
          refine aH rfl (bQ rfl nO cI rfl) ?_
          refine aE aA 4 rfl (bC rfl rfl rfl (fun hg20=>?_) (fun hg20=>?_))
          ·
           simp only[bs] at hg20
           refine aH rfl (bQ rfl iX cI rfl) ?_
           refine aE aA 4 rfl (aD (hK16 _ (aN ?_)))
           refine⟨_,rfl,?_⟩
           refine aS ?_
           rw[Bool.eq_iff_iff]
           simp only[bU]
           (simp_all[toList_inj,bK]; done)
          ·
           simp only[bs] at hg20
           refine aE aA 4 rfl (aD (hK16 _ (aN ?_)))
           refine⟨_,rfl,?_⟩
           refine aS ?_
           rw[Bool.eq_iff_iff]
           simp only[bU]
           (simp_all[toList_inj,bK]; done)
         ·
          simp only[bs] at hg19
          refine aE aA 9 rfl (aD (hK16 _ (aN ?_)))
          refine⟨_,rfl,?_⟩
          refine aS ?_
          rw[Bool.eq_iff_iff]
          simp only[bU]
          (simp_all[toList_inj,bK]; done)
        ·
         simp only[bs] at hg18
         refine aE aA 14 rfl (aD (hK16 _ (aN ?_)))
         refine⟨_,rfl,?_⟩
         refine aS ?_
         rw[Bool.eq_iff_iff]
         simp only[bU]
         (simp_all[toList_inj,bK]; done)
       ·
        simp only[bs] at hc17
        refine aC (fun K17 hK17=>(aB (aE aA 2 rfl (aD (hK17 _ (cH rfl rfl (fun hc21=>?_) (fun hc21=>?_)))))))
        ·
         simp only[bs] at hc21
         refine aC (fun K18 hK18=>(aB (aE aA 4 rfl (bC rfl rfl rfl (fun hg22=>?_) (fun hg22=>?_)))))
         ·
          simp only[bs] at hg22
          refine aH rfl (bQ rfl pI cU rfl) ?_
          refine aE aA 4 rfl (bC rfl rfl rfl (fun hg23=>?_) (fun hg23=>?_))
          ·
           simp only[bs] at hg23
           refine aH rfl (bQ rfl iX cI rfl) ?_
           refine aE aA 4 rfl (bC rfl rfl rfl (fun hg24=>?_) (fun hg24=>?_))
           ·
            simp only[bs] at hg24
            refine aH rfl (bQ rfl nO cI rfl) ?_
            refine aE aA 4 rfl (bC rfl rfl rfl (fun hg25=>?_) (fun hg25=>?_))
            ·
             simp only[bs] at hg25
             refine aH rfl (bQ rfl nO cI rfl) ?_
             refine aE aA 4 rfl (aD (hK18 _ (aN ?_)))
             refine⟨_,rfl,?_⟩
             refine aS ?_
             rw[Bool.eq_iff_iff]
             simp only[bU]
             (simp_all[toList_inj,bK]; done)
            ·
             simp only[bs] at hg25
             refine aE aA 4 rfl (aD (hK18 _ (aN ?_)))
             refine⟨_,rfl,?_⟩
             refine aS ?_
             rw[Bool.eq_iff_iff]
             simp only[bU]
             (have hlt:e.at'<1099511627776:=(by omega); have hln:e.n<1099511627776:=(by omega); simp_all[toList_inj,bK,eq_comm (a:=(0:Int)) (b:=e.st),eq_comm (a:=(0:Int)) (b:=e.n)]; done)
           ·
            simp only[bs] at hg24
            refine aE aA 9 rfl (aD (hK18 _ (aN ?_)))
            refine⟨_,rfl,?_⟩
            refine aS ?_
            rw[Bool.eq_iff_iff]
            simp only[bU]
            (simp_all[toList_inj,bK]; done)
          ·
           simp only[bs] at hg23
           refine aE aA 14 rfl (aD (hK18 _ (aN ?_)))
           refine⟨_,rfl,?_⟩
           refine aS ?_
           rw[Bool.eq_iff_iff]
           simp only[bU]
           (simp_all[toList_inj,bK]; done)
         ·
          simp only[bs] at hg22
          refine aE aA 19 rfl (aD (hK18 _ (aN ?_)))
          refine⟨_,rfl,?_⟩
          refine aS ?_
          rw[Bool.eq_iff_iff]
          simp only[bU]
          (simp_all[toList_inj,bK]; done)
        ·
         simp only[bs] at hc21
         refine aC (fun K19 hK19=>(aB (aE aA 2 rfl (aD (hK19 _ (cH rfl rfl (fun hc26=>?_) (fun hc26=>?_)))))))
         ·
          simp only[bs] at hc26
          refine aC (fun K20 hK20=>(aB (aE aA 2 rfl (aM hf rfl (aQ rfl rfl gV rfl (Nm.refRight_den _ (by assumption))) (aE aA 1 rfl (bC rfl rfl rfl (fun hg27=>?_) (fun hg27=>?_)))))))
          ·
           refine aH rfl (bQ rfl pI cU rfl) ?_
           refine aE aA 4 rfl (bC rfl rfl rfl (fun hg28=>?_) (fun hg28=>?_))
           ·
            simp only[bs] at hg28
            refine aH rfl (bQ rfl nO cI rfl) ?_
            refine aE aA 4 rfl (bC rfl rfl rfl (fun hg29=>?_) (fun hg29=>?_))
            ·
             simp only[bs] at hg29
             refine aH rfl (bQ rfl iX cI rfl) ?_
             refine aE aA 4 rfl (aD (hK20 _ (aN ?_)))
             refine⟨_,rfl,?_⟩
             refine aS ?_
             rw[Bool.eq_iff_iff]
             simp only[bU]
             (simp_all[toList_inj,bK]; done)
            ·
             simp only[bs] at hg29
             refine aE aA 4 rfl (aD (hK20 _ (aN ?_)))
             refine⟨_,rfl,?_⟩
             refine aS ?_
             rw[Bool.eq_iff_iff]
             simp only[bU]
             (simp_all[toList_inj,bK]; done)
           ·
            simp only[bs] at hg28
            refine aE aA 9 rfl (aD (hK20 _ (aN ?_)))
            refine⟨_,rfl,?_⟩
            refine aS ?_
            rw[Bool.eq_iff_iff]
            simp only[bU]
            (simp_all[toList_inj,bK]; done)
          ·
           simp only[bs] at hg27
           refine aE aA 14 rfl (aD (hK20 _ (aN ?_)))
           refine⟨_,rfl,?_⟩
           refine aS ?_
           rw[Bool.eq_iff_iff]
           simp only[bU]
           (simp_all[toList_inj,bK]; done)
         ·
          simp only[bs] at hc26
          refine aP (hK5 _ (aC (fun K21 hK21=>(aB (aE aA 1 rfl (aD (hK21 _ (aN ?_))))))))
          refine⟨_,rfl,?_⟩
          refine aS ?_
          rw[Bool.eq_iff_iff]
          simp only[bU]
          (simp_all[toList_inj,bK]; done)
 ·
  simp only[bs] at hg1
  refine aE aA 3 rfl (aD (hK3 _ (bW rfl (aC (fun K22 hK22=>(aB (aE aA 1 rfl (aD (hK22 _ (aN ?_))))))))))
  refine⟨_,rfl,?_⟩
  refine aS ?_
  rw[Bool.eq_iff_iff]
  simp only[bU]
  (simp_all[toList_inj,bK]; omega)
end Go.Proofs.YtijnkglkchhomaaGreat
