import Derived.WalkKit
import Derived.WalkSpells
import Derived.WalkLawsBesides
import Derived.Deep.LoopGhost
import Derived.ChangeKeysEq
import Derived.Still
import Derived.Lib.AppendZeros
import Derived.Laws.StructEq
import Derived.OpenShut
import Derived.Scope
import Derived.Shelf.SlSortCmp.Kit1
import Derived.Shelf.SlSortCmp.InsertionK
import Derived.Lib.SlicesCompact
import Derived.ProofKit
import Derived.ChangeSame
import Derived.Carry
import Derived.SliceStrings
import Derived.ChangeMaps5
import Derived.Deep.Slices
import Derived.Test.YtpkanhklapfajaaGreatRows
import Derived.Shelf.Abstract
import Derived.Shelf.SlSortCmp.WholeK
import Derived.Shelf.SlSortCmp.Whole1
import Derived.Shelf.SlSortCmp.NoneTotal
import Derived.Deep.RegionLaw
import Derived.Lib.Walk
import Derived.Lib.Overlaps
import Derived.Lib.AppendZerosOnto
import Derived.Laws.CopyRow
import Derived.Test.YtpkanhklapfajaaGreatKP1
import Derived.Test.YtpkanhklapfajaaGreatKP2
import Derived.Test.YtpkanhklapfajaaGreatKP3
set_option maxRecDepth 20000
set_option maxHeartbeats 16000000
set_option linter.unusedVariables false
set_option linter.unusedSimpArgs false
namespace Go.Proofs.YtpkanhklapfajaaGreat
open Go Go.Abs
theorem pL {g:Nat} {cap:List AV} (hent:∀ args w,(callFunc g args).run Tryz.prog w=.ok (.enter g args) w) (hcl:cleanL (fun _=>false) cap=true) (p:En→Bool) (l:List En) (hl:l.length≤9223372036854775807) (hp:∀ x∈l,Den Tryz.prog g (.agg (enC x)::cap) (·=.s (.bool (p x)))) :Den Tryz.prog 141 [.sl 4 (l.map enC),.fn g cap]  (·=.s (.int .i64 (pI p l))):=by
 refine aR Tryz.func141 rfl (Nat.le_of_ble_eq_true rfl) (fun w0 A hf=>(aC (fun K1 hK1=>(aB (aE aA 1 rfl (aD (hK1 _ (aC (fun K2 hK2=>(aC (fun K3 hK3=>(aB (aE aA 3 rfl (aD (hK3 _ (aM ?_))))))))))))))))
 refine bM (ι:=Nat) (fun k=>⟨19,[(0,.sl 4 (l.map enC)),(1,.fn g cap),(7,.s (.int .i64 ((l.map enC).length:Nat))),(8,.s (.int .i64 (k:Nat)))],[]⟩) (fun k=>k≤l.length∧∀ (j:Nat) (hj:j<l.length),j<k→p l[j]=false) (fun k=>l.length - k) 0 ?_ ?_ ?_
 · exact⟨by omega,by omega⟩
 · exact cN rfl
 ·
  rintro k hC
  obtain ⟨h1,h2⟩:=hC
  refine aC (fun K4 hK4=>(aB (aE aA 1 rfl (aD (hK4 _ (aC (fun K5 hK5=>(aK rfl (fun hc1=>?_) (fun hc1=>?_)))))))))
  ·
   simp only[bs] at hc1
   refine aL (hK5 _ (aC (fun K6 hK6=>(aM (aC (fun K7 hK7=>(aB (aE aA 2 rfl (aD (hK7 _ (aC (fun K8 hK8=>(aB (aE aA 3 rfl ?_))))))))))))))
   refine aG rfl (aY rfl rfl gF eK (by first | exact ixm (by omega) | assumption | exact⟨by decide,rfl⟩)) ?_
   refine aE aA 1 rfl (aJ hf rfl (aO rfl rfl hent (by rw[gS,hcl]; rfl) (hp _ (List.getElem_mem _))) ?_)
   refine aD (hK8 _ (aK rfl (fun hc2=>?_) (fun hc2=>?_)))
   ·
    refine aC (fun K9 hK9=>(aB (aE aA 2 rfl (aD (hK9 _ (aI ?_))))))
    refine⟨_,rfl,?_⟩
    refine dG ?_
    rw[pH (by omega) h2 (by assumption)]
   ·
    refine aL (hK6 _ (aB ?_))
    refine aG rfl (bK rfl rfl (by omega) (by omega)) ?_
    refine aE aA 1 rfl (aD ?_)
    exact⟨k+1,⟨by omega,fun j hj hjk=>by
      by_cases e:j=k
      · subst e; simp_all
      · exact h2 j hj (by omega)⟩,by omega,cN rfl⟩
  ·
   simp only[bs] at hc1
   refine aX (hK2 _ (aC (fun K10 hK10=>(aB (aE aA 1 rfl (aD (hK10 _ (aI ?_))))))))
   refine⟨_,rfl,?_⟩
   refine dG ?_
   rw[rG (fun j hj=>h2 j hj (by omega))]
theorem aBt {g:Nat} {cap:List AV} (hent:∀ args w,(callFunc g args).run Tryz.prog w=.ok (.enter g args) w) (hcl:cleanL (fun _=>false) cap=true) (hcv:∀ m,convL m cap=cap) (p:En→Bool) (l:List En) (n:Nat) (hn:n=l.length) (hl:l.length≤9223372036854775807) (hp:∀ x∈l,Den Tryz.prog g (.agg (enC x)::cap) (·=.s (.bool (p x)))) :DenM Tryz.prog 130 [.own E0 4 0 n,.fn g cap] 4 ((l.map enC)) (fun r ys=>r=.own E0 4 0 (l.filter fun x=>!p x).length∧ys=((l.filter fun x=>!p x).map enC)):=by
 subst hn
 have hq0:∀ j,((l.take j).filter fun x=>!p x).length≤j:=fun j=>iU _ l j
 have hq1:∀ j,((l.take j).filter fun x=>!p x).length≤l.length:=fun j=>hZ _ l j
 refine hJ Tryz.func130 rfl (Nat.le_of_ble_eq_true rfl) (fun w0 x0 A hf=>?_)
 refine aC (fun K1 hK1=>(aB (aG rfl (bD) (aD (hK1 _ (aC (fun K2 hK2=>(aB (aE aA 2 rfl (aJ hf rfl (sD rfl rfl (by show [AV.conv _ _,AV.fn g (convL _ cap)]=_; rw[hcv,cJ (g:=E0) rfl (by simp)]) uL (pL hent hcl p l hl hp) rfl) ?_))))))))))
 refine aE aA 1 rfl (aD (hK2 _ (aC (fun K3 hK3=>(aC (fun K4 hK4=>(aB (aE aA 2 rfl (aD (hK4 _ (aK rfl (fun hc1=>?_) (fun hc1=>?_))))))))))))
 ·
  simp only[bs] at hc1
  refine aC (fun K5 hK5=>(aB (aE aA 2 rfl (aD (hK5 _ (aI ?_))))))
  have hno:pI p l=-1:=by simpa using hc1
  rcases eL p l with ⟨_,hn⟩ | ⟨k,hk,e,_⟩
  · exact⟨_,.own E0 4 0 l.length,(l.map enC),Le.refl _,rfl,rfl,by rw[gQ p l hn],by rw[gQ p l hn]⟩
  · exfalso; omega
 ·
  simp only[bs] at hc1
  refine aL (hK3 _ (aC (fun K6 hK6=>(aC (fun K7 hK7=>(aB ?_))))))
  rcases eL p l with ⟨e0,_⟩ | ⟨k0,hk0,ek0,hpk0,hbef⟩
  · exact absurd e0 (by simpa using hc1)
  have hst:=mH (fun x=>!p x) l k0 hk0 (fun j hj hjk=>by simp [hbef j hj hjk]) (by simp [hpk0])
  rw[ek0]
  refine aE aA 1 rfl ?_
  refine aG rfl (bK rfl rfl (by omega) (by omega)) ?_
  refine aE aA 1 rfl (aD (hK7 _ (aM (bM (ι:=Nat) (fun j=>⟨42,[(0,.own E0 4 0 l.length),(1,.fn g cap),(5,.s (.int .i64 (((l.take j).filter fun x=>!p x).length:Nat))),(6,.s (.int .i64 (j:Nat)))],[(E0,.buf 4 ((jF (fun x=>!p x) l j).map enC))]⟩) (fun j=>j≤l.length) (fun j=>l.length - j) (k0+1) ?_ ?_ ?_))))
  · exact hk0
  · rw[hst.1,hst.2]; exact gN ⟨rfl,rfl,rfl,rfl,trivial⟩
  ·
   rintro j hC
   let q:=fun x=>!p x
   have hle:((l.take j).filter q).length≤j:=hq0 j
   have hle2:((l.take j).filter fun x=>!p x).length≤j:=hq0 j
   refine aC (fun K8 hK8=>(aC (fun K9 hK9=>(aB (aE aA 4 rfl (aD (hK9 _ (aK rfl (fun hc2=>?_) (fun hc2=>?_)))))))))
   ·
    simp only[bs] at hc2
    refine aL (hK8 _ (aC (fun K10 hK10=>(aM (aC (fun K11 hK11=>(aB (aE aA 2 rfl ?_))))))))
    refine aG rfl (bX rfl rfl gF eK (by omega)) ?_
    refine aG rfl (bZ rfl aSh eK rfl (sF (c:=4) (k:=j) (enc:=enC) (by omega) (by rw[eU]; omega) rfl) (cs':=enC l[j]) (by rw[oZ (c:=4) (k:=j) (enc:=enC) (by omega) (by rw[eU]; omega) rfl,rI q l j j (by omega) hle])) ?_
    refine cA hf rfl lU rfl eK rfl rfl rfl rfl (lf rfl) (aD (hK11 _ (aC (fun K12 hK12=>(aB (aE aA 2 rfl (aJ hf rfl (aO rfl rfl hent (by rw[gS,hcl]; rfl) (hp _ (List.getElem_mem _))) ?_)))))))
    refine aE aA 1 rfl (aD (hK12 _ (aK rfl (fun hc3=>?_) (fun hc3=>?_))))
    ·
     simp only[bs] at hc3
     refine aC (fun K13 hK13=>(aB (aE aA 3 rfl ?_)))
     refine aG rfl (bX rfl rfl gF eK (by omega)) ?_
     refine bB hf rfl rfl eK rfl rfl (by simp [enC,AV.cells,AV.one,Value.oneCell',splice]) (by simp [enC,AV.cells,AV.leaf,Value.oneCell',splice]) (hY (c:=4) (k:=((l.take j).filter fun x=>!p x).length) (enc:=enC) (v:=l[j]) (by omega) (by rw[eU]; omega) rfl (Nat.le_refl _)) ?_
     refine aD (hK13 _ (aB ?_))
     rw[kZ (fun x=>!p x) l j (by omega) (by simp_all)]
     refine aE aA 1 rfl ?_
     refine aG rfl (bK rfl rfl (by omega) (by omega)) ?_
     rw[nR (fun x=>!p x) l j (by omega) (by simp_all)]
     refine aE aA 1 rfl ?_
     refine bH ?_
     refine hK10 _ (aB (aE aA 1 rfl ?_))
     refine aG rfl (bK rfl rfl (by omega) (by omega)) ?_
     refine aE aA 1 rfl (aD ?_)
     exact⟨j+1,(by omega),by omega,cN rfl⟩
    ·
     simp only[bs] at hc3
     rw[lA (fun x=>!p x) l j (by omega) (by simp_all),nS (fun x=>!p x) l j (by omega) (by simp_all)]
     refine aL (hK10 _ (aB (aE aA 1 rfl ?_)))
     refine aG rfl (bK rfl rfl (by omega) (by omega)) ?_
     refine aE aA 1 rfl (aD ?_)
     exact⟨j+1,(by omega),by omega,cN rfl⟩
   ·
    simp only[bs] at hc2
    refine aX (hK6 _ (aC (fun K14 hK14=>(aB (aE aA 2 rfl ?_)))))
    refine aG rfl (eW rfl gF eK rfl rfl (by omega) (by omega)) ?_
    refine wZ hf jN lU (by simp [Value.oneCell']) rfl rfl ?_
    refine aD (hK14 _ (aC (fun K15 hK15=>(aB (aE aA 2 rfl ?_)))))
    refine aG rfl (eW rfl gF eK rfl rfl (by omega) (by omega)) ?_
    refine aE aA 1 rfl (aD (hK15 _ (aI ?_)))
    have hjl:l.length≤j:=by omega
    have he:=pN (fun x=>!p x) l j hjl
    refine⟨_,_,_,Le.refl _,rfl,rfl,?_,?_⟩
    · rw[List.take_of_length_le hjl]; rfl
    · rw[List.take_of_length_le hjl,Nat.zero_add,Int.toNat_natCast,← List.map_take,he]
theorem pM (l:List En) (hl:l.length*48≤140737488355328) :DenO Tryz.prog 119 [.sl 4 (l.map enC)] 4 (·=(l.map enC)):=by
 refine fN Tryz.func119 rfl (Nat.le_of_ble_eq_true rfl) (fun w0 A hf=>?_)
 refine aC (fun K1 hK1=>(aB (aG rfl (bD) (aD (hK1 _ (aC (fun K2 hK2=>(aC (fun K3 hK3=>(aB (aE aA 1 rfl ?_)))))))))))
 refine mP rfl rfl rfl gF (fun b hb1=>?_)
 refine aD (hK3 _ (aK rfl (fun hc2=>?_) (fun hc2=>?_)))
 ·
  have hl0:l=[]:=by simpa using hb1 (by assumption)
  refine aC (fun K4 hK4=>(aB (kW hf 4 rfl rfl rfl (aD (hK4 _ (aI ?_))))))
  exact⟨2,[],by decide,rfl,rfl,by rw[hl0]; rfl⟩
 ·
  refine aL (hK2 _ (aC (fun K5 hK5=>(aB (cT hf rfl rfl rfl jN rfl rfl rfl rfl (l2 rfl) ?_)))))
  refine aE aA 1 rfl (aZ hf rfl jN rfl rfl rfl (.inl rfl) rfl rfl (by first | rfl | simp [dJ,bG]) (by first | (simp only[maxLen,List.length_map,List.length_append,List.length_cons,List.length_nil]; omega) | (simp [maxLen] <;> omega)) (by first | (simp only[List.length_map,List.length_append,List.length_cons,List.length_nil]; omega) | (simp <;> omega)) ?_)
  refine aU (cM [7] rfl) (aE aA 1 rfl (aD (hK5 _ (aI ?_))))
  refine⟨5,(l.map enC),by decide,rfl,?_,rfl⟩
  show some (AV.own 5 4 0 (0+(l.map enC).length))=_
  rw[Nat.zero_add]
theorem aRx (n:Nat) (hn:n*48≤140737488355328) :DenO Tryz.prog 177 [.s (.slice none 0 0),.s (.int .i64 (n:Nat))] 4 (·=[]):=by
 refine fN Tryz.func177 rfl (Nat.le_of_ble_eq_true rfl) (fun w0 A hf=>?_)
 refine aC (fun K1 hK1=>(aB (aG rfl (bD) (aD (hK1 _ (aC (fun K2 hK2=>(aC (fun K3 hK3=>(aB (aE aA 2 rfl (aD (hK3 _ (aK rfl (fun hc1=>?_) (fun hc1=>?_)))))))))))))))
 ·
  simp only[bs] at hc1
  omega
 ·
  simp only[bs] at hc1
  refine aL (hK2 _ (aC (fun K4 hK4=>(aC (fun K5 hK5=>(aB (aE aA 2 rfl (aG rfl (lN rfl gF) (aE aA 2 rfl ?_)))))))))
  refine aG rfl (eZ rfl rfl (by omega) (by omega)) ?_
  refine aG rfl (eZ rfl rfl (by omega) (by omega)) ?_
  refine aE aA 1 rfl (aD (hK5 _ (aC (fun K6 hK6=>(aB (aE aA 2 rfl (aD (hK6 _ (aK rfl (fun hc2=>?_) (fun hc2=>?_))))))))))
  ·
   simp only[bs] at hc2
   refine aB (aE aA 2 rfl (aG rfl (lN rfl gF) ?_))
   refine aG rfl (qC rfl gF eK rfl) ?_
   refine aE aA 1 rfl (uP hf rfl rfl rfl jN Tryz.underlying3 rfl rfl (by omega) (by omega) (by simp only[maxLen]; omega) ?_)
   refine aE aA 2 rfl ?_
   refine aG rfl (eW rfl gF eK rfl rfl (by omega) (by omega)) ?_
   refine aE aA 1 rfl (aD (hK4 _ (aC (fun K7 hK7=>(aB (aE aA 1 rfl ?_))))))
   refine aG rfl (tR rfl) ?_
   refine aD (hK7 _ (aI ?_))
   exact⟨22,[],by decide,rfl,rfl,rfl⟩
  ·
   simp only[bs] at hc2
   refine aL (hK4 _ (aC (fun K8 hK8=>(aB (aE aA 1 rfl ?_)))))
   refine aGu hf 4 rfl rfl rfl rfl ?_
   refine aD (hK8 _ (aI ?_))
   exact⟨4,[],by decide,rfl,rfl,rfl⟩
theorem aAr (rows:List (List En)) (hl:rows.length≤9223372036854775807) (hb:rows.flatten.length*48≤140737488355328) :DenO Tryz.prog 155 [.sl 1 (rows.map fun r=>[AV.sl 4 (r.map enC)])] 4 (·=(rows.flatten.map enC)):=by
 refine fN Tryz.func155 rfl (Nat.le_of_ble_eq_true rfl) (fun w0 A hf=>?_)
 refine aC (fun K1 hK1=>(aB (aG rfl (bD) (aD (hK1 _ (aC (fun K2 hK2=>(aB (aE aA 1 rfl (aD (hK2 _ (aC (fun K3 hK3=>(aC (fun K4 hK4=>(aB ?_))))))))))))))))
 refine aE aA 3 rfl (aD (hK4 _ (aM (bM (ι:=Nat) (fun k=>⟨36,[(0,.sl 1 (rows.map fun r=>[AV.sl 4 (r.map enC)])),(3,.s (.int .i64 ((rows.take k).flatten.length:Nat))),(9,.sl 1 (rows.map fun r=>[AV.sl 4 (r.map enC)])),(10,.s (.int .i64 ((rows.map fun r=>[AV.sl 4 (r.map enC)]).length:Nat))),(11,.s (.int .i64 (k:Nat)))],[]⟩) (fun k=>k≤rows.length) (fun k=>rows.length - k) 0 ?_ ?_ ?_))))
 · exact Nat.zero_le _
 · exact cN rfl
 ·
  rintro k hC
  refine aC (fun K5 hK5=>(aB (aE aA 1 rfl (aD (hK5 _ (aC (fun K6 hK6=>(aK rfl (fun hc1=>?_) (fun hc1=>?_)))))))))
  ·
   simp only[bs] at hc1
   refine aL (hK6 _ (aC (fun K7 hK7=>(aM (aC (fun K8 hK8=>(aB ?_)))))))
   refine aG rfl (aY rfl rfl aGq pU (by first | exact ixm (by omega) | assumption | exact⟨by decide,rfl⟩)) ?_
   refine aE aA 2 rfl (aD (hK8 _ (aC (fun K9 hK9=>(aB ?_)))))
   have hk:k<rows.length:=by omega
   have e1:=congrArg List.length (hU rows k hk)
   rw[List.length_append] at e1
   have e2:=qE rows (k+1)
   have e3:(rows[k].map enC).length=rows[k].length:=List.length_map _
   refine aE aA 3 rfl ?_
   refine aG rfl (bK rfl rfl (by omega) (by omega)) ?_
   rw[show ((((rows.take k).flatten.length:Nat):Int)+(((rows[k].map enC).length:Nat):Int))=(((rows.take (k+1)).flatten.length:Nat):Int) from by omega]
   refine aE aA 1 rfl (aD (hK9 _ (aC (fun K10 hK10=>(aB (aE aA 2 rfl (aD (hK10 _ (aK rfl (fun hc2=>?_) (fun hc2=>?_))))))))))
   ·
    simp only[bs] at hc2
    omega
   ·
    simp only[bs] at hc2
    refine aL (hK7 _ (aB ?_))
    refine aG rfl (bK rfl rfl (by omega) (by omega)) ?_
    refine aE aA 1 rfl (aD ?_)
    exact⟨k+1,(by omega),by omega,cN rfl⟩
  ·
   simp only[bs] at hc1
   refine aX (hK3 _ (aC (fun K11 hK11=>(aB ?_))))
   rw[List.take_of_length_le (show rows.length≤k by omega)]
   refine aE aA 1 rfl (iB hf rfl rfl rfl rfl rfl aLx rfl (aRx rows.flatten.length (by omega)) ?_)
   rintro _ rfl
   refine aE aA 1 rfl (aD (hK11 _ (aC (fun K12 hK12=>(aC (fun K13 hK13=>(aB (aE aA 3 rfl (aD (hK13 _ (aM (bM (ι:=Nat) (fun j=>⟨36,[(6,.own 24 4 0 (rows.take j).flatten.length),(25,.sl 1 (rows.map fun r=>[AV.sl 4 (r.map enC)])),(26,.s (.int .i64 ((rows.map fun r=>[AV.sl 4 (r.map enC)]).length:Nat))),(27,.s (.int .i64 (j:Nat)))],[(24,.buf 4 ((rows.take j).flatten.map enC))]⟩) (fun j=>j≤rows.length) (fun j=>rows.length - j) 0 ?_ ?_ ?_))))))))))))
   · exact Nat.zero_le _
   · exact cN rfl
   ·
    rintro j hC
    refine aC (fun K14 hK14=>(aB (aE aA 1 rfl (aD (hK14 _ (aC (fun K15 hK15=>(aK rfl (fun hc3=>?_) (fun hc3=>?_)))))))))
    ·
     simp only[bs] at hc3
     refine aL (hK15 _ (aC (fun K16 hK16=>(aM (aC (fun K17 hK17=>(aB ?_)))))))
     refine aG rfl (aY rfl rfl aGq pU (by first | exact ixm (by omega) | assumption | exact⟨by decide,rfl⟩)) ?_
     refine aE aA 2 rfl (aD (hK17 _ (aB ?_)))
     have hj:j<rows.length:=by omega
     have e1:=congrArg List.length (hU rows j hj)
     rw[List.length_append] at e1
     have e2:=qE rows (j+1)
     have e3:(rows[j].map enC).length=rows[j].length:=List.length_map _
     refine aE aA 2 rfl (aZ hf rfl jN rfl rfl rfl (.inl rfl) (by simp only[List.length_map]) rfl (by first | rfl | simp [dJ,bG]) (by first | (simp only[maxLen,List.length_map,List.length_append,List.length_cons,List.length_nil]; omega) | (simp [maxLen] <;> omega)) (by first | (simp only[List.length_map,List.length_append,List.length_cons,List.length_nil]; omega) | (simp <;> omega)) ?_)
     refine aU (cM [25,26,27,33] rfl) ?_
     rw[show (rows.take j).flatten.length+(rows[j].map enC).length=(rows.take (j+1)).flatten.length from by omega,← List.map_append,← hU rows j hj]
     refine aE aA 1 rfl ?_
     refine bH ?_
     refine hK16 _ (aB ?_)
     refine aG rfl (bK rfl rfl (by omega) (by omega)) ?_
     refine aE aA 1 rfl (aD ?_)
     exact⟨j+1,(by omega),by omega,cN rfl⟩
    ·
     simp only[bs] at hc3
     refine aX (hK12 _ (aC (fun K18 hK18=>(aB (aE aA 2 rfl (aD (hK18 _ (aI ?_))))))))
     refine⟨24,(rows.flatten.map enC),by decide,?_,?_,rfl⟩
     · rw[List.take_of_length_le (show rows.length≤j by omega)]; rfl
     · rw[List.take_of_length_le (show rows.length≤j by omega)]
       show some (AV.own 24 4 0 rows.flatten.length)=_
       rw[List.length_map]
theorem one_den (w u:ByteArray) (f t:Int) :Den Tryz.prog 99 [.s (.string w),.s (.string u),.s (.int .i64 f),.s (.int .i64 t)]  (·=.agg (enC ((w,u),(f,t)))):=by
 refine aR Tryz.func99 rfl (Nat.le_of_ble_eq_true rfl) (fun w0 A hf=>(aC (fun K1 hK1=>(aB (bV hf rfl rfl rfl lU (aD (hK1 _ (aC (fun K2 hK2=>(aB (aE aA 2 rfl (aG rfl (bO rfl fP iX (l3 rfl) rfl) (aE aA 2 rfl (aG rfl (bO rfl fW kR (l3 rfl) rfl) (aG rfl (bO rfl lU aEk (l3 rfl) rfl) ?_)))))))))))))))
 refine bB hf rfl rfl eK rfl rfl (l1 rfl) (l4 rfl) rfl (aD (hK2 _ (aI ?_)))
 refine⟨_,rfl,?_⟩
 rfl
theorem aN2 (e:En) (p:Pr) :Den Tryz.prog 178 [.agg (enC e),.adr (prC p)]  (·=.s (.bool (gK p e))):=by
 refine aR Tryz.func178 rfl (Nat.le_of_ble_eq_true rfl) (fun w0 A hf=>(aC (fun K1 hK1=>(aB (aJ hf rfl (cE rfl rfl (lf rfl)) (aE aA 1 rfl (aD (hK1 _ (aC (fun K2 hK2=>(aB (aE aA 3 rfl (aG rfl (jE rfl rfl aLa rfl) ?_)))))))))))))
 rw[aS8]
 refine aE aA 1 rfl (aW rfl rfl rfl (fun hg1=>?_) (fun hg1=>?_))
 ·
  simp only[bs] at hg1
  refine aG rfl (bW rfl aId dP rfl) ?_
  refine aE aA 5 rfl (aD (hK2 _ (aI ?_)))
  refine⟨_,rfl,?_⟩
  refine aQ ?_
  (simp_all[gK]; rfl)
 ·
  simp only[bs] at hg1
  refine aE aA 5 rfl (aD (hK2 _ (aI ?_)))
  refine⟨_,rfl,?_⟩
  refine aQ ?_
  (simp_all[gK]; done)
theorem aGi (l:List En) (p:Pr) (hl:l.length≤9223372036854775807) :Den Tryz.prog 156 [.sl 4 (l.map enC),.agg (prC p)]  (·=.s (.int .i64 (pI (gK p) l))):=by
 refine aR Tryz.func156 rfl (Nat.le_of_ble_eq_true rfl) (fun w0 A hf=>(aC (fun K1 hK1=>(aB (aJ hf rfl (cE rfl rfl (lf rfl)) (aE aA 1 rfl (aD (hK1 _ (aC (fun K2 hK2=>(aB (aE aA 1 rfl (aG rfl (iI rfl) (aJ hf rfl (aO rfl rfl uL rfl (pL aLw rfl (gK p) l hl (fun x _=>aN2 x p))) (aE aA 1 rfl ?_)))))))))))))))
 refine aD (hK2 _ (aI ?_))
 refine⟨_,rfl,?_⟩
 rfl
theorem aJ6 (l:List En) (p:Pr) (hl:l.length≤9223372036854775807) :Den Tryz.prog 153 [.sl 4 (l.map enC),.agg (prC p)]  (·=.s (.bool (onB l p))):=by
 refine aR Tryz.func153 rfl (Nat.le_of_ble_eq_true rfl) (fun w0 A hf=>(aC (fun K1 hK1=>(aB (aJ hf rfl (cE rfl rfl (lf rfl)) (aE aA 1 rfl (aD (hK1 _ (aC (fun K2 hK2=>(aB (aE aA 2 rfl (aJ hf rfl (aO rfl rfl aBa rfl (aGi _ _ (by omega))) (aE aA 2 rfl (aD ?_)))))))))))))))
 refine hK2 _ (aI ?_)
 refine⟨_,rfl,?_⟩
 refine aQ ?_
 exact aDw _ _
theorem aQ6 (a b:En) :Den Tryz.prog 140 [.agg (enC a),.agg (enC b)]  (·=.s (.int .i64 (mD a b))):=by
 refine aR Tryz.func140 rfl (Nat.le_of_ble_eq_true rfl) (fun w0 A hf=>(aC (fun K1 hK1=>(aB (aJ hf rfl (cE rfl rfl (lf rfl)) (aJ hf rfl (cE rfl rfl (lf rfl)) (aE aA 1 rfl (aD (hK1 _ (aC (fun K2 hK2=>(cU hf bF (by kernel_rfl) rfl (aT aA 4 rfl (bL [(6,_),(8,_)] rfl rfl ⟨⟨rfl,rfl⟩,⟨rfl,rfl⟩,trivial⟩ rfl (aO rfl rfl aL0 rfl (Nm.pairCmp_den _ _ _ _)) (aT aA 6 rfl ?_)))))))))))))))
 refine bL [(12,_),(15,_)] rfl rfl ⟨⟨rfl,rfl⟩,⟨rfl,rfl⟩,trivial⟩ rfl (aO rfl rfl lV rfl (jC _ _)) (bL [(9,_),(16,_)] rfl rfl ⟨⟨rfl,rfl⟩,⟨rfl,rfl⟩,trivial⟩ rfl (aP fD rfl rfl rfl rfl (l2 rfl)) (bL [(17,_)] rfl rfl ⟨⟨rfl,rfl⟩,trivial⟩ rfl (aO rfl rfl uM rfl (Nm.or_den [_,_] (by simp))) ?_))
 refine aT aA 1 rfl (cY [4] rfl rfl rfl (hK2 _ (aI ?_)))
 refine⟨_,rfl,?_⟩
 rfl
theorem aNz (x e:En) :Den Tryz.prog 154 [.agg (enC x),.adr (enC e)]  (·=.s (.bool (decide (0<mD x e)))):=by
 refine aR Tryz.func154 rfl (Nat.le_of_ble_eq_true rfl) (fun w0 A hf=>(aC (fun K1 hK1=>(aB (aJ hf rfl (cE rfl rfl (lf rfl)) (aE aA 1 rfl (aD (hK1 _ (aC (fun K2 hK2=>(aB (aE aA 2 rfl (aJ hf rfl (aO rfl rfl aMl rfl (aQ6 _ _)) (aE aA 2 rfl (aD ?_)))))))))))))))
 refine hK2 _ (aI ?_)
 refine⟨_,rfl,?_⟩
 rfl
theorem aGy (e:En) (u:ByteArray) :Den Tryz.prog 181 [.agg (enC e),.adr [.s (.string u)]]  (·=.s (.bool (aDx u e))):=by
 refine aR Tryz.func181 rfl (Nat.le_of_ble_eq_true rfl) (fun w0 A hf=>(aC (fun K1 hK1=>(aB (aJ hf rfl (cE rfl rfl (lf rfl)) (aE aA 1 rfl (aD (hK1 _ (aC (fun K2 hK2=>(aB (aE aA 3 rfl (aJ hf rfl (aO rfl rfl aLs rfl (Nm.pairHas_den _ _ _)) (aE aA 1 rfl (aD ?_)))))))))))))))
 refine hK2 _ (aI ?_)
 refine⟨_,rfl,?_⟩
 rfl
end Go.Proofs.YtpkanhklapfajaaGreat
set_option linter.unusedVariables false
set_option linter.unusedSimpArgs false
namespace Go.Abs
theorem aRm {l:List En} {p:Pr} {t:Int}:(jQ l p t).length=l.length+1:=aJ4 _ _
theorem aI9 (p:Pr) (t:Int):∀ l:List En,(kX l p t).length≤l.length
  | []=>Nat.le_refl _
  | e::l=>by
    rw[kX]; split
    · have:(tL e t).length≤1:=by unfold tL; split <;> simp
      simp only[List.length_append,List.length_cons]; omega
    · have:=aI9 p t l
      simp only[List.length_cons]; omega
theorem aJz (l:List En) (p:Pr) (t:Int):(if onB l p=true then [] else jQ l p t).length≤l.length+1:=by
  split
  · simp
  · rw[aRm]; omega
theorem aJy (l:List En) (p:Pr) (t:Int):(if onB l p=true then kX l p t else []).length≤l.length:=by
  split
  · exact aI9 p t l
  · simp
end Go.Abs
set_option linter.unusedVariables false
set_option linter.unusedSimpArgs false
namespace Go.Abs
abbrev Us:=ByteArray×List bC
abbrev Tm:=ByteArray×Int
def usC (x:Us):List AV:=[.s (.string x.1),.sl 4 (x.2.map stC)]
def tmC (x:Tm):List AV:=[.s (.string x.1),.s (.int .i64 x.2)]
structure Sta where
  now:Int
  hor:Int
  opn:List Se
  usr:List Us
  sub:List En
  tmb:List Tm
  deriving DecidableEq
def rW:Sta:=⟨0,0,[],[],[],[]⟩
def bJ (s:Sta):List AV:=[.s (.int .i64 s.now),.s (.int .i64 s.hor),.sl 4 (s.opn.map seC),.sl 2 (s.usr.map usC),.sl 4 (s.sub.map enC),.sl 2 (s.tmb.map tmC)]
def eH (s:Sta) (a b:Nat):List AV:=[.s (.int .i64 s.now),.s (.int .i64 s.hor),.sl 4 (s.opn.map seC),.own a 2 0 (s.usr.map usC).length,.sl 4 (s.sub.map enC),.own b 2 0 (s.tmb.map tmC).length]
structure SzS (n:Nat) (s:Sta):Prop where
  o:s.opn.length*40≤n
  u:s.usr.length*40≤n
  b:s.sub.length*48≤n
  t:s.tmb.length*24≤n
  y:∀ x∈s.usr,x.2.length*32≤n
theorem SzS.mono {n m:Nat} {s:Sta} (h:SzS n s) (hm:n≤m):SzS m s:=⟨Nat.le_trans h.o hm,Nat.le_trans h.u hm,Nat.le_trans h.b hm,Nat.le_trans h.t hm,fun x hx=>Nat.le_trans (h.y x hx) hm⟩
section
variable {α:Type} (key:α→ByteArray)
def isK (u:ByteArray) (x:α):Bool:=decide (key x=u)
def loK (u:ByteArray) (x:α):Bool:=decide (eJ (key x) u<0)
def hiK (u:ByteArray) (x:α):Bool:=decide (0<eJ (key x) u)
def dI (l:List α):Prop:=l.Pairwise fun a b=>eJ (key a) (key b)<0
def aBn (l:List α) (u:ByteArray) (ys:List α):List α:=l.filter (loK key u)++(ys++l.filter (hiK key u))
def cZ (l:List α) (u:ByteArray):Nat:=(l.filter (loK key u)).length
def lX (l:List α) (u:ByteArray):Bool:=l.any (isK key u)
end
section
variable {α:Type} {key:α→ByteArray}
theorem pQ (u:ByteArray):eJ u u=0:=(sM u u).2 rfl
theorem aGk (x u:ByteArray):(eJ x u<0∧x≠u)∨x=u∨(0<eJ x u∧x≠u):=by
  by_cases h:x=u
  · exact .inr (.inl h)
  · have h0:eJ x u≠0:=fun e=>h ((sM x u).1 e)
    by_cases h1:eJ x u<0
    · exact .inl ⟨h1,h⟩
    · exact .inr (.inr ⟨by omega,h⟩)
theorem qU {u:ByteArray}:∀ {l:List α},dI key l→l=l.filter (loK key u)++(l.filter (isK key u)++l.filter (hiK key u))∧(l.filter (isK key u)).length≤1
  | [],_=>⟨rfl,by simp⟩
  | x::l,h=>by
    obtain ⟨h1,h2⟩:=List.pairwise_cons.1 h
    obtain ⟨e1,e2⟩:=qU (u:=u) h2
    rcases aGk (key x) u with ⟨a,b⟩ | a | ⟨a,b⟩
    · have c1:loK key u x=true:=by simp [loK,a]
      have c2:isK key u x=false:=by simp [isK,b]
      have c3:hiK key u x=false:=by simp only[hiK,decide_eq_false_iff_not]; omega
      simp only[List.filter_cons,c1,c2,c3,if_true,Bool.false_eq_true,if_false,List.cons_append]
      exact⟨by rw[← e1],e2⟩
    · have hlo:l.filter (loK key u)=[]:=List.filter_eq_nil_iff.2 fun y hy=>by
        have:=h1 y hy
        have:=oR (key x) (key y)
        rw[a] at *
        simp only[loK,decide_eq_true_eq]; omega
      have hm:l.filter (isK key u)=[]:=List.filter_eq_nil_iff.2 fun y hy=>by
        have:=h1 y hy
        rw[a] at this
        simp only[isK,decide_eq_true_eq]
        intro e
        rw[e,pQ] at this
        omega
      have c1:loK key u x=false:=by simp [loK,a,pQ]
      have c2:isK key u x=true:=by simp [isK,a]
      have c3:hiK key u x=false:=by simp [hiK,a,pQ]
      simp only[List.filter_cons,c1,c2,c3,if_true,Bool.false_eq_true,if_false,hlo,hm] at e1 ⊢
      exact⟨by simpa using e1,by simp⟩
    · have hlo:l.filter (loK key u)=[]:=List.filter_eq_nil_iff.2 fun y hy=>by
        have:=h1 y hy
        have h3:=oR u (key x)
        have h4:=oR u (key y)
        have:=gR (a:=u) (b:=key x) (c:=key y) (by omega) this
        simp only[loK,decide_eq_true_eq]; omega
      have hm:l.filter (isK key u)=[]:=List.filter_eq_nil_iff.2 fun y hy=>by
        have:=h1 y hy
        have h3:=oR u (key x)
        have h5:=gR (a:=u) (b:=key x) (c:=key y) (by omega) this
        simp only[isK,decide_eq_true_eq]
        intro e
        rw[e,pQ] at h5
        omega
      have c1:loK key u x=false:=by simp only[loK,decide_eq_false_iff_not]; omega
      have c2:isK key u x=false:=by simp [isK,b]
      have c3:hiK key u x=true:=by simp [hiK,a]
      simp only[List.filter_cons,c1,c2,c3,if_true,Bool.false_eq_true,if_false,hlo,hm] at e1 ⊢
      exact⟨by simp only[List.nil_append] at e1 ⊢; rw[← e1],by simp⟩
theorem mU {l:List α} (h:dI key l) (q:α→Bool):dI key (l.filter q):=h.filter q
theorem xE {l:List α} {u:ByteArray} {ys:List α} (h:dI key l) (hy:∀ y∈ys,key y=u) (h1:ys.length≤1):dI key (aBn key l u ys):=by
  have hb:∀ x∈l.filter (loK key u),eJ (key x) u<0:=fun x hx=>by have:=(List.mem_filter.1 hx).2; simpa [loK] using this
  have ha:∀ x∈l.filter (hiK key u),eJ u (key x)<0:=fun x hx=>by
    have:=(List.mem_filter.1 hx).2
    have h2:=oR u (key x)
    simp only[hiK,decide_eq_true_eq] at this; omega
  refine List.pairwise_append.2 ⟨mU h _,List.pairwise_append.2 ⟨?_,mU h _,fun y hm z hz=>by rw[hy y hm]; exact ha z hz⟩,fun x hx z hz=>?_⟩
  · match ys,h1 with
    | [],_=>exact List.Pairwise.nil
    | [y],_=>exact List.pairwise_singleton _ _
  · rcases List.mem_append.1 hz with hz | hz
    · rw[hy z hz]; exact hb x hx
    · exact gR (hb x hx) (ha z hz)
theorem mA {l:List α} {u:ByteArray} {ys:List α} {x:α}:x∈aBn key l u ys↔(x∈l∧key x≠u)∨x∈ys:=by
  simp only[aBn,List.mem_append,List.mem_filter,loK,hiK,decide_eq_true_eq]
  constructor
  · rintro (⟨h,h1⟩ | h | ⟨h,h1⟩)
    · exact .inl ⟨h,fun e=>by rw[e,pQ] at h1; omega⟩
    · exact .inr h
    · exact .inl ⟨h,fun e=>by rw[e,pQ] at h1; omega⟩
  · rintro (⟨h,h1⟩ | h)
    · rcases aGk (key x) u with ⟨a,_⟩ | a | ⟨a,_⟩
      · exact .inl ⟨h,a⟩
      · exact absurd a h1
      · exact .inr (.inr ⟨h,a⟩)
    · exact .inr (.inl h)
theorem vY:∀ {a b:List α},dI key a→dI key b→(∀ x,x∈a↔x∈b)→a=b
  | [],[],_,_,_=>rfl
  | [],y::b,_,_,h=>absurd ((h y).2 (by simp)) (by simp)
  | x::a,[],_,_,h=>absurd ((h x).1 (by simp)) (by simp)
  | x::a,y::b,ha,hb,h=>by
    obtain ⟨a1,a2⟩:=List.pairwise_cons.1 ha
    obtain ⟨b1,b2⟩:=List.pairwise_cons.1 hb
    have irr:∀ z:α,¬ eJ (key z) (key z)<0:=fun z=>by rw[pQ]; omega
    have hxy:x=y:=by
      rcases List.mem_cons.1 ((h x).1 (by simp)) with e | e
      · exact e
      · rcases List.mem_cons.1 ((h y).2 (by simp)) with e' | e'
        · exact e'.symm
        · exact absurd (gR (b1 x e) (a1 y e')) (irr y)
    subst hxy
    rw[vY a2 b2 fun z=>?_]
    have:=h z
    simp only[List.mem_cons] at this
    constructor
    · intro hz
      rcases this.1 (.inr hz) with e | e
      · subst e; exact absurd (a1 z hz) (irr z)
      · exact e
    · intro hz
      rcases this.2 (.inr hz) with e | e
      · subst e; exact absurd (b1 z hz) (irr z)
      · exact e
theorem xM (l:List α) (u:ByteArray):cZ key l u≤l.length:=List.length_filter_le _ _
theorem oY {l:List α} (h:dI key l) (u:ByteArray):l.take (cZ key l u)=l.filter (loK key u)∧l.drop (cZ key l u)=l.filter (isK key u)++l.filter (hiK key u):=by
  have e:=(qU (u:=u) h).1
  constructor
  · have:l.take (cZ key l u)=(l.filter (loK key u)++(l.filter (isK key u)++l.filter (hiK key u))).take (l.filter (loK key u)).length:=by rw[← e]; rfl
    rw[this,List.take_left]
  · have:l.drop (cZ key l u)=(l.filter (loK key u)++(l.filter (isK key u)++l.filter (hiK key u))).drop (l.filter (loK key u)).length:=by rw[← e]; rfl
    rw[this,List.drop_left]
theorem aNw {l:List α} {u:ByteArray} (h:lX key l u=false):l.filter (isK key u)=[]:=by
  rw[lX,List.any_eq_false] at h
  exact List.filter_eq_nil_iff.2 h
theorem aNx {l:List α} (h:dI key l) {u:ByteArray} (hh:lX key l u=true):∃ hk:cZ key l u<l.length,key (l[cZ key l u])=u∧l.filter (isK key u)=[l[cZ key l u]]:=by
  obtain ⟨x,hx,hxu⟩:=List.any_eq_true.1 hh
  have h1:x∈l.filter (isK key u):=List.mem_filter.2 ⟨hx,hxu⟩
  obtain ⟨e1,e2⟩:=qU (u:=u) h
  have e3:l.filter (isK key u)=[x]:=by
    match hl:l.filter (isK key u),h1,e2 with
    | [],h1,_=>cases h1
    | [y],h1,_=>rw[List.mem_singleton.1 h1]
    | y::z::r,_,e2=>simp at e2
  have hd:=(oY h u).2
  rw[e3] at hd
  have hlt:cZ key l u<l.length:=by
    have:=congrArg List.length hd
    simp only[List.length_drop,List.length_append,List.length_cons,List.length_nil] at this
    omega
  have hg:l[cZ key l u]=x:=by
    have:=congrArg (fun r=>r[0]?) hd
    simp only[List.getElem?_drop,Nat.add_zero,List.cons_append,List.getElem?_cons_zero] at this
    rw[List.getElem?_eq_getElem hlt] at this
    exact Option.some.inj this
  refine⟨hlt,?_,?_⟩
  · rw[hg]; simpa [isK] using hxu
  · rw[e3,hg]
theorem aJl {l:List α} (h:dI key l) {u:ByteArray} (hh:lX key l u=true):l.drop (cZ key l u+1)=l.filter (hiK key u):=by
  obtain ⟨hk,_,e⟩:=aNx h hh
  have hd:=(oY h u).2
  rw[e] at hd
  rw[← List.drop_drop,hd]; rfl
theorem aG3 {l:List α} (h:dI key l) {u:ByteArray} (hh:lX key l u=true) (y:α):l.set (cZ key l u) y=aBn key l u [y]:=by
  obtain ⟨hk,_,_⟩:=aNx h hh
  rw[List.set_eq_take_append_cons_drop,if_pos hk,(oY h u).1,aJl h hh]; rfl
theorem aPr {l:List α} (h:dI key l) {u:ByteArray} (hh:lX key l u=false) (y:α):l.take (cZ key l u)++y::l.drop (cZ key l u)=aBn key l u [y]:=by
  rw[(oY h u).1,(oY h u).2,aNw hh]; rfl
theorem aIz {l:List α} (h:dI key l) (u:ByteArray):l.filter (fun x=>!isK key u x)=aBn key l u []:=by
  refine vY (key:=key) (mU h _) (xE h (by simp) (by simp)) fun x=>?_
  rw[mA,List.mem_filter]
  simp [isK]
theorem has_set {l:List α} {u v:ByteArray} {ys:List α} (hy:∀ y∈ys,key y=u):lX key (aBn key l u ys) v=if v=u then !ys.isEmpty else lX key l v:=by
  rw[Bool.eq_iff_iff]
  simp only[lX,List.any_eq_true,mA,isK,decide_eq_true_eq]
  by_cases hv:v=u
  · subst hv
    rw[if_pos rfl]
    constructor
    · rintro ⟨x,⟨_,h⟩ | h,e⟩
      · exact absurd e h
      · cases ys with
        | nil=>cases h
        | cons y r=>rfl
    · intro h
      cases ys with
      | nil=>cases h
      | cons y r=>exact⟨y,.inr (by simp),hy y (by simp)⟩
  · rw[if_neg hv,List.any_eq_true]
    constructor
    · rintro ⟨x,⟨h,_⟩ | h,e⟩
      · exact⟨x,h,by simp [isK,e]⟩
      · exact absurd ((hy x h).symm.trans e).symm hv
    · rintro ⟨x,h,e⟩
      have e':key x=v:=by simpa [isK] using e
      exact⟨x,.inl ⟨h,by rw[e']; exact hv⟩,e'⟩
end
abbrev cW:Us→ByteArray:=Prod.fst
abbrev eO:Tm→ByteArray:=Prod.fst
def ofU (l:List Us) (u:ByteArray):List bC:=((l.find? (isK cW u)).map Prod.snd).getD []
def tI (u:ByteArray) (ys:List bC):List Us:=if ys=[] then [] else [(u,ys)]
def rX (l:List Us) (u:ByteArray) (ys:List bC):List Us:=aBn cW l u (tI u ys)
theorem aCw {u:ByteArray} {ys:List bC}:∀ y∈tI u ys,cW y=u:=by
  intro y hy; unfold tI at hy; split at hy
  · cases hy
  · rw[List.mem_singleton.1 hy]
theorem aI5 {u:ByteArray} {ys:List bC}:(tI u ys).length≤1:=by unfold tI; split <;> simp
theorem tF {l:List Us} {u:ByteArray} {ys:List bC} (h:dI cW l):dI cW (rX l u ys):=xE h aCw aI5
theorem rB {l:List Us} {u:ByteArray} (h:lX cW l u=false):ofU l u=[]:=by
  rw[lX,List.any_eq_false] at h
  rw[ofU,List.find?_eq_none.2 h]; rfl
theorem aP2 {l:List Us} (h:dI cW l) {x:Us} (hx:x∈l):ofU l x.1=x.2:=by
  have:l.find? (isK cW x.1)=some x:=by
    have hs:(l.find? (isK cW x.1)).isSome=true:=List.find?_isSome.2 ⟨x,hx,by simp [isK]⟩
    obtain ⟨y,hy⟩:=Option.isSome_iff_exists.1 hs
    have h1:=List.mem_of_find?_eq_some hy
    have h2:=List.find?_some hy
    simp only[isK,decide_eq_true_eq] at h2
    rw[hy]
    have e:=(qU (u:=x.1) h).2
    have m1:x∈l.filter (isK cW x.1):=List.mem_filter.2 ⟨hx,by simp [isK]⟩
    have m2:y∈l.filter (isK cW x.1):=List.mem_filter.2 ⟨h1,by simp [isK,h2]⟩
    match hl:l.filter (isK cW x.1),m1,m2,e with
    | [z],m1,m2,_=>rw[List.mem_singleton.1 m1,List.mem_singleton.1 m2]
    | z::z'::r,_,_,e=>simp at e
  rw[ofU,this]; rfl
theorem aDl {l:List Us} (h:dI cW l) {u:ByteArray} (hh:lX cW l u=true):∃ hk:cZ cW l u<l.length,l[cZ cW l u]=(u,ofU l u):=by
  obtain ⟨hk,e,_⟩:=aNx h hh
  have:=aP2 h (List.getElem_mem hk)
  have e':l[cZ cW l u].1=u:=e
  rw[e'] at this
  exact⟨hk,Prod.ext e' this.symm⟩
theorem setU_of {l:List Us} (h:dI cW l) {u v:ByteArray} {ys:List bC}:ofU (rX l u ys) v=if v=u then ys else ofU l v:=by
  by_cases hh:lX cW (rX l u ys) v=true
  · obtain ⟨hk,e⟩:=aDl (tF h) hh
    have hm:=List.getElem_mem hk
    rw[e,rX,mA] at hm
    by_cases hv:v=u
    · subst hv
      rw[if_pos rfl]
      rcases hm with ⟨_,h2⟩ | hm
      · exact absurd rfl h2
      · unfold tI at hm
        split at hm
        · cases hm
        · have:=(Prod.ext_iff.1 (List.mem_singleton.1 hm)).2
          simpa [rX,tI, *] using this
    · rw[if_neg hv]
      rcases hm with ⟨h1,_⟩ | hm
      · exact(aP2 h h1).symm
      · exact absurd (aCw _ hm) hv
  · have hf:=Bool.eq_false_iff.2 hh
    rw[rB hf]
    rw[rX,has_set aCw] at hf
    by_cases hv:v=u
    · rw[if_pos hv] at hf ⊢
      unfold tI at hf
      split at hf
      · rename_i e; exact e.symm
      · simp at hf
    · rw[if_neg hv] at hf ⊢
      exact(rB hf).symm
def mO (l:List Us) (u:ByteArray) (x:bC):List Us:=if x.1.2≤x.1.1 then l else rX l u (gA (ofU l u) x)
def tC (l:List Tm) (u:ByteArray) (t:Int):List Tm:=aBn eO l u [(u,t)]
def kA (s:Sta) (x:bC):Bool:=!(s.opn.any fun e=>decide (e.1.1=x.2.1)&&decide (e.2.2<x.1.2))&&(decide (0≤x.1.1)&&(decide (x.1.2≤s.now)&&(decide (1≤x.2.1)&&(decide (x.2.1≤999)&&(decide (1≤x.2.2)&&decide (x.2.2≤4))))))
def aBq (s:Sta) (x:Us):Bool:=!x.2.isEmpty&&(yX x.2&&x.2.all (kA s))
def aDk (s:Sta) (e:En):Bool:=decide (0≤e.2.1)&&(decide (e.2.1≤s.now)&&(decide (e.2.2≤s.now)||decide (e.2.2=1099511627776)))
def aTf (s:Sta) (x:Tm):Bool:=decide (0≤x.2)&&decide (x.2≤s.now)
def nxK {α:Type} (key:α→ByteArray) (a b:α):Bool:=decide (eJ (key a) (key b)<0)
def risN {α:Type} (key:α→ByteArray) (l:List α):Bool:=oH (fun x=>cI (key x)) (nxK key) none l
def oV (s:Sta):Bool:=decide (0≤s.now)&&(decide (s.now<1099511627776)&&(decide (0≤s.hor)&&(decide (s.hor<1099511627776)&&(jY s.opn&&(s.opn.all (fun e=>decide (e.2.2≤s.now))&&(risN cW s.usr&&(s.usr.all (aBq s)&&(aE7 s.sub&&(s.sub.all (aDk s)&&(risN eO s.tmb&&s.tmb.all (aTf s)))))))))))
theorem aS0 {α:Type} {key:α→ByteArray} (l:List α):risN key l=true↔(∀ x∈l,cI (key x)=true)∧dI key l:=by
  rw[risN,qV (fun a b=>eJ (key a) (key b)<0) (fun x y=>by simp [nxK]) (fun x y z _ h1 h2=>gR h1 h2)]
  simp [dI]
structure RightP (s:Sta):Prop where
  n0:0≤s.now
  n1:s.now<1099511627776
  h0:0≤s.hor
  h1:s.hor<1099511627776
  opn:jY s.opn=true
  late:∀ e∈s.opn,e.2.2≤s.now
  unm:∀ x∈s.usr,cI x.1=true
  usr:dI cW s.usr
  uok:∀ x∈s.usr,aBq s x=true
  sub:aE7 s.sub=true
  sok:∀ e∈s.sub,aDk s e=true
  tnm:∀ x∈s.tmb,cI x.1=true
  tmb:dI eO s.tmb
  tok:∀ x∈s.tmb,aTf s x=true
theorem mR {s:Sta}:oV s=true↔RightP s:=by
  simp only[oV,Bool.and_eq_true,decide_eq_true_eq,List.all_eq_true,aS0]
  constructor
  · rintro ⟨a,b,c,d,e,f,⟨g,g'⟩,h,i,j,⟨k,k'⟩,l⟩
    exact⟨a,b,c,d,e,f,g,g',h,i,j,k,k',l⟩
  · rintro ⟨a,b,c,d,e,f,g,g',h,i,j,k,k',l⟩
    exact⟨a,b,c,d,e,f,⟨g,g'⟩,h,i,j,⟨k,k'⟩,l⟩
structure Ev where
  kind:Int
  at':Int
  user:ByteArray
  other:ByteArray
  n:Int
  st:Int
  deriving DecidableEq
def evC (e:Ev):List AV:=[.s (.int .i64 e.kind),.s (.int .i64 e.at'),.s (.string e.user),.s (.string e.other),.s (.int .i64 e.n),.s (.int .i64 e.st)]
abbrev bs0:ByteArray:=⟨#[]⟩
def dW (e:Ev):Bool:=decide (1≤e.n)&&(decide (e.n≤999)&&(cI e.user&&decide (e.other=bs0)))
def cG (e:Ev):Bool:=decide (0≤e.at')&&(decide (e.at'<1099511627776)&&(
  if e.kind=1∨e.kind=2 then dW e&&(decide (1≤e.st)&&decide (e.st≤4))
  else if e.kind=3 then dW e&&decide (e.st=0)
  else if e.kind=4∨e.kind=5 then cI e.user&&(cI e.other&&(decide (e.n=0)&&decide (e.st=0)))
  else if e.kind=6 then decide (e.user=bs0)&&(decide (e.other=bs0)&&(decide (e.st=0)&&(decide (0≤e.n)&&decide (e.n<1099511627776))))
  else if e.kind=7 then cI e.user&&(decide (e.other=bs0)&&(decide (e.n=0)&&decide (e.st=0)))
  else false))
def hP (s:Sta) (u:ByteArray) (t:Int):Sta:=⟨s.now,s.hor,s.opn.filter (fun e=>!pJ u e),rX s.usr u [],s.sub.filter (fun e=>!aDx u e),tC s.tmb u t⟩
def bN (s:Sta) (e:Ev):Sta×Int :=
  if e.kind=1 then ({ s with opn:=pW s.opn ((e.n,e.user),(e.st,e.at')) },wC s.opn ((e.n,e.user),(e.st,e.at')))
  else if e.kind=2 then ({ s with opn:=pY s.opn e.n e.user e.st e.at',usr:=mO s.usr e.user (stR s.opn e.n e.user e.at') },iV s.opn e.n e.user)
  else if e.kind=3 then ({ s with opn:=pX s.opn e.n e.user,usr:=mO s.usr e.user (stR s.opn e.n e.user e.at') },iV s.opn e.n e.user)
  else if e.kind=4 then ({ s with sub:=if onB s.sub (e.user,e.other)=true then [] else jQ s.sub (e.user,e.other) e.at' },if onB s.sub (e.user,e.other)=true then 90 else 0)
  else if e.kind=5 then ({ s with sub:=if onB s.sub (e.user,e.other)=true then kX s.sub (e.user,e.other) e.at' else [] },if onB s.sub (e.user,e.other)=true then 0 else 91)
  else if e.kind=6 then ({ s with hor:=max s.hor e.n },0)
  else (hP s e.user e.at',0)
def fC (s:Sta) (e:Ev):Sta×Int :=
  if cG e=true then (if e.at'<s.now then (rW,111) else (if (bN s e).2=0 then ({ (bN s e).1 with now:=e.at' },0) else (rW,(bN s e).2))) else (rW,110)
def dN (s:Sta) (u:ByteArray) (t:Int):List bC:=(eG s.opn u t).foldl gA (ofU s.usr u)
def mI (l:List Us):Nat:=(l.map fun x=>x.2.length).sum
def fG (s:Sta):Nat:=s.opn.length+s.sub.length+s.tmb.length+mI s.usr
section
variable {α:Type} {key:α→ByteArray}
def BsI (l:List α) (key:α→ByteArray) (u:ByteArray) (i j:Nat):Prop:=i≤j∧j≤l.length∧(∀ (q:Nat) (hq:q<l.length),q<i→eJ (key l[q]) u<0)∧(∀ (q:Nat) (hq:q<l.length),j≤q→¬ eJ (key l[q]) u<0)
theorem BsI.start (l:List α) (u:ByteArray):BsI l key u 0 l.length:=⟨Nat.zero_le _,Nat.le_refl _,fun _ _ h=>absurd h (Nat.not_lt_zero _),fun q hq h=>absurd hq (by omega)⟩
theorem BsI.lo {l:List α} {u:ByteArray} {i j m:Nat} (h:BsI l key u i j) (hr:dI key l) (h1:i≤m) (h2:m<j) (hm:m<l.length) (hc:eJ (key l[m]) u<0):BsI l key u (m+1) j:=by
  refine⟨h2,h.2.1,fun q hq hqm=>?_,h.2.2.2⟩
  by_cases e:q=m
  · subst e; exact hc
  · exact gR (List.pairwise_iff_getElem.1 hr q m hq hm (by omega)) hc
theorem BsI.hi {l:List α} {u:ByteArray} {i j m:Nat} (h:BsI l key u i j) (hr:dI key l) (h1:i≤m) (h2:m<j) (hm:m<l.length) (hc:¬ eJ (key l[m]) u<0):BsI l key u i m:=by
  refine⟨h1,by have:=h.2.1; omega,h.2.2.1,fun q hq hqm=>?_⟩
  by_cases e:q=m
  · subst e; exact hc
  · have h3:=List.pairwise_iff_getElem.1 hr m q hm hq (by omega)
    intro h4
    exact hc (gR h3 h4)
theorem BsI.fin {l:List α} {u:ByteArray} {i j:Nat} (h:BsI l key u i j) (hr:dI key l) (hij:j≤i):cZ key l u=i∧lX key l u=(decide (i<l.length)&&decide (∃ hi:i<l.length,eJ (key l[i]) u=0)):=by
  have e:i=j:=by have:=h.1; omega
  subst e
  obtain ⟨_,h1,h2,h3⟩:=h
  have hp:l.filter (loK key u)=l.take i:=by
    conv=>lhs; rw[← List.take_append_drop i l]
    rw[List.filter_append]
    have a:(l.take i).filter (loK key u)=l.take i:=List.filter_eq_self.2 fun x hx=>by
      obtain ⟨q,hq,rfl⟩:=List.getElem_of_mem hx
      rw[List.length_take] at hq
      rw[List.getElem_take]
      simp only[loK,decide_eq_true_eq]
      exact h2 q (by omega) (by omega)
    have b:(l.drop i).filter (loK key u)=[]:=List.filter_eq_nil_iff.2 fun x hx=>by
      obtain ⟨q,hq,rfl⟩:=List.getElem_of_mem hx
      rw[List.length_drop] at hq
      rw[List.getElem_drop]
      simp only[loK,decide_eq_true_eq]
      exact h3 (i+q) (by omega) (by omega)
    rw[a,b,List.append_nil]
  refine⟨by rw[cZ,hp,List.length_take]; omega,?_⟩
  rw[Bool.eq_iff_iff]
  simp only[lX,List.any_eq_true,isK,decide_eq_true_eq,Bool.and_eq_true]
  constructor
  · rintro ⟨x,hx,e⟩
    obtain ⟨q,hq,rfl⟩:=List.getElem_of_mem hx
    have hc:eJ (key l[q]) u=0:=(sM _ _).2 e
    have hqi:i≤q:=by
      rcases Nat.lt_or_ge q i with h | h
      · have:=h2 q hq h; omega
      · exact h
    have hil:i<l.length:=by omega
    refine⟨hil,hil,?_⟩
    by_cases e2:q=i
    · subst e2; exact hc
    · exfalso
      have h4:=List.pairwise_iff_getElem.1 hr i q hil hq (by omega)
      have h5:=h3 i hil (Nat.le_refl _)
      have h6:=vH h4 (show eJ (key l[q]) u≤0 by omega)
      exact h5 h6
  · rintro ⟨_,hi,e⟩
    exact⟨l[i],List.getElem_mem _,(sM _ _).1 e⟩
theorem BsI.fin_t {l:List α} {u:ByteArray} {i j:Nat} (h:BsI l key u i j) (hr:dI key l) (hij:j≤i) (hi:i<l.length):lX key l u=(eJ (key l[i]) u == 0):=by
  rw[(h.fin hr hij).2,Bool.eq_iff_iff]
  simp only[Bool.and_eq_true,decide_eq_true_eq,beq_iff_eq]
  exact⟨fun⟨_,_,e⟩=>e,fun e=>⟨hi,hi,e⟩⟩
theorem BsI.fin_f {l:List α} {u:ByteArray} {i j:Nat} (h:BsI l key u i j) (hr:dI key l) (hij:j≤i) (hi:¬ i<l.length):lX key l u=false:=by
  rw[(h.fin hr hij).2]
  simp [hi]
end
def dZ (s:Sta) (u:ByteArray) (x:bC):Sta:={ s with usr:=mO s.usr u x }
theorem lT {s:Sta} {u:ByteArray} {x:bC} (h:x.1.2≤x.1.1):dZ s u x=s:=by rw[dZ,mO,if_pos h]
theorem aQm {l:List bC} {x:bC} (h:¬ x.1.2≤x.1.1):gA l x≠[]:=fun e=>by
  have h1:=aDt l x
  rw[gA,if_neg h] at e
  rw[e] at h1; simp at h1
theorem aQl {l:List Us} {u:ByteArray} {x:bC} (hr:dI cW l) (hh:lX cW l u=true) (h:¬ x.1.2≤x.1.1) (hk:cZ cW l u<l.length):l.set (cZ cW l u) (l[cZ cW l u].1,gA l[cZ cW l u].2 x)=mO l u x:=by
  obtain ⟨_,e⟩:=aDl hr hh
  rw[e,mO,if_neg h,rX,tI,if_neg (aQm h),aG3 hr hh]
theorem aUk {x:bC} (h:¬ x.1.2≤x.1.1):gA [] x=[x]:=by
  rw[gA,if_neg h]
  have h1:=gI x []
  exact List.perm_singleton.1 h1
theorem aUi {l:List Us} {u:ByteArray} {x:bC} (hr:dI cW l) (hh:lX cW l u=false) (h:¬ x.1.2≤x.1.1):List.flatten [l.take (cZ cW l u),[(u,[x])],l.drop (cZ cW l u)]=mO l u x:=by
  rw[mO,if_neg h,rX,tI,if_neg (aQm h),rB hh,aUk h,← aPr hr hh]
  simp
end Go.Abs
set_option linter.unusedVariables false
set_option linter.unusedSimpArgs false
namespace Go.Proofs.YtpkanhklapfajaaGreat
open Go Go.Abs
theorem aCg {g:Nat} {cap:List AV} (hent:∀ args w,(callFunc g args).run Tryz.prog w=.ok (.enter g args) w) (hcl:cleanL (fun _=>false) cap=true) (p:Tm→Bool) (l:List Tm) (hl:l.length≤9223372036854775807) (hp:∀ x∈l,Den Tryz.prog g (.agg (tmC x)::cap) (·=.s (.bool (p x)))) :Den Tryz.prog 142 [.sl 2 (l.map tmC),.fn g cap]  (·=.s (.int .i64 (pI p l))):=by
 refine aR Tryz.func142 rfl (Nat.le_of_ble_eq_true rfl) (fun w0 A hf=>(aC (fun K1 hK1=>(aB (aE aA 1 rfl (aD (hK1 _ (aC (fun K2 hK2=>(aC (fun K3 hK3=>(aB (aE aA 3 rfl (aD (hK3 _ (aM ?_))))))))))))))))
 refine bM (ι:=Nat) (fun k=>⟨19,[(0,.sl 2 (l.map tmC)),(1,.fn g cap),(7,.s (.int .i64 ((l.map tmC).length:Nat))),(8,.s (.int .i64 (k:Nat)))],[]⟩) (fun k=>k≤l.length∧∀ (j:Nat) (hj:j<l.length),j<k→p l[j]=false) (fun k=>l.length - k) 0 ?_ ?_ ?_
 · exact⟨by omega,by omega⟩
 · exact cN rfl
 ·
  rintro k hC
  obtain ⟨h1,h2⟩:=hC
  refine aC (fun K4 hK4=>(aB (aE aA 1 rfl (aD (hK4 _ (aC (fun K5 hK5=>(aK rfl (fun hc1=>?_) (fun hc1=>?_)))))))))
  ·
   simp only[bs] at hc1
   refine aL (hK5 _ (aC (fun K6 hK6=>(aM (aC (fun K7 hK7=>(aB (aE aA 2 rfl (aD (hK7 _ (aC (fun K8 hK8=>(aB (aE aA 3 rfl ?_))))))))))))))
   refine aG rfl (aY rfl rfl kL gU (by first | exact ixm (by omega) | assumption | exact⟨by decide,rfl⟩)) ?_
   refine aE aA 1 rfl (aJ hf rfl (aO rfl rfl hent (by rw[gS,hcl]; rfl) (hp _ (List.getElem_mem _))) ?_)
   refine aD (hK8 _ (aK rfl (fun hc2=>?_) (fun hc2=>?_)))
   ·
    refine aC (fun K9 hK9=>(aB (aE aA 2 rfl (aD (hK9 _ (aI ?_))))))
    refine⟨_,rfl,?_⟩
    refine dG ?_
    rw[pH (by omega) h2 (by assumption)]
   ·
    refine aL (hK6 _ (aB ?_))
    refine aG rfl (bK rfl rfl (by omega) (by omega)) ?_
    refine aE aA 1 rfl (aD ?_)
    exact⟨k+1,⟨by omega,fun j hj hjk=>by
      by_cases e:j=k
      · subst e; simp_all
      · exact h2 j hj (by omega)⟩,by omega,cN rfl⟩
  ·
   simp only[bs] at hc1
   refine aX (hK2 _ (aC (fun K10 hK10=>(aB (aE aA 1 rfl (aD (hK10 _ (aI ?_))))))))
   refine⟨_,rfl,?_⟩
   refine dG ?_
   rw[rG (fun j hj=>h2 j hj (by omega))]
theorem aBm {g:Nat} {cap:List AV} (hent:∀ args w,(callFunc g args).run Tryz.prog w=.ok (.enter g args) w) (hcl:cleanL (fun _=>false) cap=true) (hcv:∀ m,convL m cap=cap) (p:Tm→Bool) (l:List Tm) (n:Nat) (hn:n=l.length) (hl:l.length≤9223372036854775807) (hp:∀ x∈l,Den Tryz.prog g (.agg (tmC x)::cap) (·=.s (.bool (p x)))) :DenM Tryz.prog 162 [.own E0 2 0 n,.fn g cap] 2 ((l.map tmC)) (fun r ys=>r=.own E0 2 0 (l.filter fun x=>!p x).length∧ys=((l.filter fun x=>!p x).map tmC)):=by
 subst hn
 have hq0:∀ j,((l.take j).filter fun x=>!p x).length≤j:=fun j=>iU _ l j
 have hq1:∀ j,((l.take j).filter fun x=>!p x).length≤l.length:=fun j=>hZ _ l j
 refine hJ Tryz.func162 rfl (Nat.le_of_ble_eq_true rfl) (fun w0 x0 A hf=>?_)
 refine aC (fun K1 hK1=>(aB (aG rfl (bD) (aD (hK1 _ (aC (fun K2 hK2=>(aB (aE aA 2 rfl (aJ hf rfl (sD rfl rfl (by show [AV.conv _ _,AV.fn g (convL _ cap)]=_; rw[hcv,cJ (g:=E0) rfl (by simp)]) aMk (aCg hent hcl p l hl hp) rfl) ?_))))))))))
 refine aE aA 1 rfl (aD (hK2 _ (aC (fun K3 hK3=>(aC (fun K4 hK4=>(aB (aE aA 2 rfl (aD (hK4 _ (aK rfl (fun hc1=>?_) (fun hc1=>?_))))))))))))
 ·
  simp only[bs] at hc1
  refine aC (fun K5 hK5=>(aB (aE aA 2 rfl (aD (hK5 _ (aI ?_))))))
  have hno:pI p l=-1:=by simpa using hc1
  rcases eL p l with ⟨_,hn⟩ | ⟨k,hk,e,_⟩
  · exact⟨_,.own E0 2 0 l.length,(l.map tmC),Le.refl _,rfl,rfl,by rw[gQ p l hn],by rw[gQ p l hn]⟩
  · exfalso; omega
 ·
  simp only[bs] at hc1
  refine aL (hK3 _ (aC (fun K6 hK6=>(aC (fun K7 hK7=>(aB ?_))))))
  rcases eL p l with ⟨e0,_⟩ | ⟨k0,hk0,ek0,hpk0,hbef⟩
  · exact absurd e0 (by simpa using hc1)
  have hst:=mH (fun x=>!p x) l k0 hk0 (fun j hj hjk=>by simp [hbef j hj hjk]) (by simp [hpk0])
  rw[ek0]
  refine aE aA 1 rfl ?_
  refine aG rfl (bK rfl rfl (by omega) (by omega)) ?_
  refine aE aA 1 rfl (aD (hK7 _ (aM (bM (ι:=Nat) (fun j=>⟨42,[(0,.own E0 2 0 l.length),(1,.fn g cap),(5,.s (.int .i64 (((l.take j).filter fun x=>!p x).length:Nat))),(6,.s (.int .i64 (j:Nat)))],[(E0,.buf 2 ((jF (fun x=>!p x) l j).map tmC))]⟩) (fun j=>j≤l.length) (fun j=>l.length - j) (k0+1) ?_ ?_ ?_))))
  · exact hk0
  · rw[hst.1,hst.2]; exact gN ⟨rfl,rfl,rfl,rfl,trivial⟩
  ·
   rintro j hC
   let q:=fun x=>!p x
   have hle:((l.take j).filter q).length≤j:=hq0 j
   have hle2:((l.take j).filter fun x=>!p x).length≤j:=hq0 j
   refine aC (fun K8 hK8=>(aC (fun K9 hK9=>(aB (aE aA 4 rfl (aD (hK9 _ (aK rfl (fun hc2=>?_) (fun hc2=>?_)))))))))
   ·
    simp only[bs] at hc2
    refine aL (hK8 _ (aC (fun K10 hK10=>(aM (aC (fun K11 hK11=>(aB (aE aA 2 rfl ?_))))))))
    refine aG rfl (bX rfl rfl kL gU (by omega)) ?_
    refine aG rfl (bZ rfl aSj gU rfl (sF (c:=2) (k:=j) (enc:=tmC) (by omega) (by rw[eU]; omega) rfl) (cs':=tmC l[j]) (by rw[oZ (c:=2) (k:=j) (enc:=tmC) (by omega) (by rw[eU]; omega) rfl,rI q l j j (by omega) hle])) ?_
    refine cA hf rfl zU rfl gU rfl rfl rfl rfl (lf rfl) (aD (hK11 _ (aC (fun K12 hK12=>(aB (aE aA 2 rfl (aJ hf rfl (aO rfl rfl hent (by rw[gS,hcl]; rfl) (hp _ (List.getElem_mem _))) ?_)))))))
    refine aE aA 1 rfl (aD (hK12 _ (aK rfl (fun hc3=>?_) (fun hc3=>?_))))
    ·
     simp only[bs] at hc3
     refine aC (fun K13 hK13=>(aB (aE aA 3 rfl ?_)))
     refine aG rfl (bX rfl rfl kL gU (by omega)) ?_
     refine bB hf rfl rfl gU rfl rfl (by simp [tmC,AV.cells,AV.one,Value.oneCell',splice]) (by simp [tmC,AV.cells,AV.leaf,Value.oneCell',splice]) (hY (c:=2) (k:=((l.take j).filter fun x=>!p x).length) (enc:=tmC) (v:=l[j]) (by omega) (by rw[eU]; omega) rfl (Nat.le_refl _)) ?_
     refine aD (hK13 _ (aB ?_))
     rw[kZ (fun x=>!p x) l j (by omega) (by simp_all)]
     refine aE aA 1 rfl ?_
     refine aG rfl (bK rfl rfl (by omega) (by omega)) ?_
     rw[nR (fun x=>!p x) l j (by omega) (by simp_all)]
     refine aE aA 1 rfl ?_
     refine bH ?_
     refine hK10 _ (aB (aE aA 1 rfl ?_))
     refine aG rfl (bK rfl rfl (by omega) (by omega)) ?_
     refine aE aA 1 rfl (aD ?_)
     exact⟨j+1,(by omega),by omega,cN rfl⟩
    ·
     simp only[bs] at hc3
     rw[lA (fun x=>!p x) l j (by omega) (by simp_all),nS (fun x=>!p x) l j (by omega) (by simp_all)]
     refine aL (hK10 _ (aB (aE aA 1 rfl ?_)))
     refine aG rfl (bK rfl rfl (by omega) (by omega)) ?_
     refine aE aA 1 rfl (aD ?_)
     exact⟨j+1,(by omega),by omega,cN rfl⟩
   ·
    simp only[bs] at hc2
    refine aX (hK6 _ (aC (fun K14 hK14=>(aB (aE aA 2 rfl ?_)))))
    refine aG rfl (eW rfl kL gU rfl rfl (by omega) (by omega)) ?_
    refine wZ hf kS zU (by simp [Value.oneCell']) rfl rfl ?_
    refine aD (hK14 _ (aC (fun K15 hK15=>(aB (aE aA 2 rfl ?_)))))
    refine aG rfl (eW rfl kL gU rfl rfl (by omega) (by omega)) ?_
    refine aE aA 1 rfl (aD (hK15 _ (aI ?_)))
    have hjl:l.length≤j:=by omega
    have he:=pN (fun x=>!p x) l j hjl
    refine⟨_,_,_,Le.refl _,rfl,rfl,?_,?_⟩
    · rw[List.take_of_length_le hjl]; rfl
    · rw[List.take_of_length_le hjl,Nat.zero_add,Int.toNat_natCast,← List.map_take,he]
theorem aCh (l:List Tm) (hl:l.length*24≤140737488355328) :DenO Tryz.prog 120 [.sl 2 (l.map tmC)] 2 (·=(l.map tmC)):=by
 refine fN Tryz.func120 rfl (Nat.le_of_ble_eq_true rfl) (fun w0 A hf=>?_)
 refine aC (fun K1 hK1=>(aB (aG rfl (bD) (aD (hK1 _ (aC (fun K2 hK2=>(aC (fun K3 hK3=>(aB (aE aA 1 rfl ?_)))))))))))
 refine mP rfl rfl rfl kL (fun b hb1=>?_)
 refine aD (hK3 _ (aK rfl (fun hc2=>?_) (fun hc2=>?_)))
 ·
  have hl0:l=[]:=by simpa using hb1 (by assumption)
  refine aC (fun K4 hK4=>(aB (kW hf 2 rfl rfl rfl (aD (hK4 _ (aI ?_))))))
  exact⟨2,[],by decide,rfl,rfl,by rw[hl0]; rfl⟩
 ·
  refine aL (hK2 _ (aC (fun K5 hK5=>(aB (cT hf rfl rfl rfl kS rfl rfl rfl rfl (l2 rfl) ?_)))))
  refine aE aA 1 rfl (aZ hf rfl kS rfl rfl rfl (.inl rfl) rfl rfl (by first | rfl | simp [dJ,bG]) (by first | (simp only[maxLen,List.length_map,List.length_append,List.length_cons,List.length_nil]; omega) | (simp [maxLen] <;> omega)) (by first | (simp only[List.length_map,List.length_append,List.length_cons,List.length_nil]; omega) | (simp <;> omega)) ?_)
  refine aU (cM [7] rfl) (aE aA 1 rfl (aD (hK5 _ (aI ?_))))
  refine⟨5,(l.map tmC),by decide,rfl,?_,rfl⟩
  show some (AV.own 5 2 0 (0+(l.map tmC).length))=_
  rw[Nat.zero_add]
end Go.Proofs.YtpkanhklapfajaaGreat
set_option linter.unusedVariables false
set_option linter.unusedSimpArgs false
namespace Go.Proofs.YtpkanhklapfajaaGreat
open Go Go.Abs
theorem aRd (l:List bC) (hl:l.length*32+32≤140737488355328) :Den Tryz.prog 47 [.sl 4 (l.map stC)]  (·=.sl 4 (l.map stC)):=by
 refine aR Tryz.func47 rfl (Nat.le_of_ble_eq_true rfl) (fun w0 A hf=>(aC (fun K1 hK1=>(aB (aG rfl (bD) (aD (hK1 _ (aC (fun K2 hK2=>(aB (kW hf 4 rfl rfl rfl (aD (hK2 _ (aC (fun K3 hK3=>(aC (fun K4 hK4=>?_)))))))))))))))))
 refine aB (aE aA 3 rfl (aD (hK4 _ (aM (bM (ι:=Nat) (fun k=>⟨19,[(3,.own 3 4 0 (l.take k).length),(6,.sl 4 (l.map stC)),(7,.s (.int .i64 ((l.map stC).length:Nat))),(8,.s (.int .i64 (k:Nat)))],[(3,.buf 4 ((l.take k).map stC))]⟩) (fun k=>k≤l.length) (fun k=>l.length - k) 0 ?_ ?_ ?_)))))
 · exact Nat.zero_le _
 · exact cN rfl
 ·
  rintro k hC
  refine aC (fun K5 hK5=>(aB (aE aA 1 rfl (aD (hK5 _ (aC (fun K6 hK6=>(aK rfl (fun hc1=>?_) (fun hc1=>?_)))))))))
  ·
   simp only[bs] at hc1
   refine aL (hK6 _ (aC (fun K7 hK7=>(aM (aC (fun K8 hK8=>(aB ?_)))))))
   refine aG rfl (aY rfl rfl dC cS (by first | exact ixm (by omega) | assumption | exact⟨by decide,rfl⟩)) ?_
   refine aE aA 1 rfl (cA hf rfl nU rfl cS rfl rfl rfl rfl (lf rfl) (aD (hK8 _ (aB ?_))))
   have htl:(l.take k).length=k:=by rw[List.length_take]; omega
   refine aE aA 2 rfl (aJ hf rfl (aO rfl rfl aO9 rfl (aTi l[k])) (aJ hf rfl (aP gW rfl rfl rfl rfl (l2 rfl)) (aZ hf rfl gW rfl rfl rfl (.inl rfl) (by rw[List.length_map]) rfl (by first | rfl | simp [dJ,bG]) (by first | (simp only[maxLen,List.length_map,List.length_append,List.length_cons,List.length_nil]; omega) | (simp [maxLen] <;> omega)) (by first | (simp only[List.length_map,List.length_append,List.length_cons,List.length_nil]; omega) | (simp <;> omega)) ?_)))
   refine aU (cM [6,7,8,16] rfl) (aE aA 1 rfl ?_)
   refine bH ?_
   refine hK7 _ (aB ?_)
   refine aG rfl (bK rfl rfl (by omega) (by omega)) ?_
   refine aE aA 1 rfl (aD ?_)
   exact⟨k+1,by omega,by omega,cF ⟨(by rw[oN l k (by omega)]; rfl),rfl,rfl,rfl,trivial⟩ (by rw[nI l stC k (by omega)]; rfl)⟩
  ·
   simp only[bs] at hc1
   refine aX (hK3 _ (aC (fun K9 hK9=>(aB (aE aA 2 rfl (aD (hK9 _ (aI ?_))))))))
   refine⟨_,rfl,?_⟩
   refine(cJ (g:=3) rfl (by rw[List.length_map])).trans ?_
   rw[List.take_of_length_le (by omega)]
theorem aQ9 (l:List bC) (hl:l.length*32+32≤140737488355328) :Den Tryz.prog 19 [.sl 4 (l.map stC)]  (·=.sl 4 (l.map stC)):=by
 refine aR Tryz.func19 rfl (Nat.le_of_ble_eq_true rfl) (fun w0 A hf=>(aC (fun K1 hK1=>(aB (aG rfl (bD) (aD (hK1 _ (aC (fun K2 hK2=>(aB (kW hf 4 rfl rfl rfl (aD (hK2 _ (aC (fun K3 hK3=>(aC (fun K4 hK4=>?_)))))))))))))))))
 refine aB (aE aA 3 rfl (aD (hK4 _ (aM (bM (ι:=Nat) (fun k=>⟨19,[(3,.own 3 4 0 (l.take k).length),(6,.sl 4 (l.map stC)),(7,.s (.int .i64 ((l.map stC).length:Nat))),(8,.s (.int .i64 (k:Nat)))],[(3,.buf 4 ((l.take k).map stC))]⟩) (fun k=>k≤l.length) (fun k=>l.length - k) 0 ?_ ?_ ?_)))))
 · exact Nat.zero_le _
 · exact cN rfl
 ·
  rintro k hC
  refine aC (fun K5 hK5=>(aB (aE aA 1 rfl (aD (hK5 _ (aC (fun K6 hK6=>(aK rfl (fun hc1=>?_) (fun hc1=>?_)))))))))
  ·
   simp only[bs] at hc1
   refine aL (hK6 _ (aC (fun K7 hK7=>(aM (aC (fun K8 hK8=>(aB ?_)))))))
   refine aG rfl (aY rfl rfl cB bA (by first | exact ixm (by omega) | assumption | exact⟨by decide,rfl⟩)) ?_
   refine aE aA 1 rfl (cA hf rfl eE rfl bA rfl rfl rfl rfl (lf rfl) (aD (hK8 _ (aB ?_))))
   have htl:(l.take k).length=k:=by rw[List.length_take]; omega
   refine aE aA 2 rfl (aJ hf rfl (aO rfl rfl aOy rfl (aTe l[k])) (aJ hf rfl (aP eP rfl rfl rfl rfl (l2 rfl)) (aZ hf rfl eP rfl rfl rfl (.inl rfl) (by rw[List.length_map]) rfl (by first | rfl | simp [dJ,bG]) (by first | (simp only[maxLen,List.length_map,List.length_append,List.length_cons,List.length_nil]; omega) | (simp [maxLen] <;> omega)) (by first | (simp only[List.length_map,List.length_append,List.length_cons,List.length_nil]; omega) | (simp <;> omega)) ?_)))
   refine aU (cM [6,7,8,16] rfl) (aE aA 1 rfl ?_)
   refine bH ?_
   refine hK7 _ (aB ?_)
   refine aG rfl (bK rfl rfl (by omega) (by omega)) ?_
   refine aE aA 1 rfl (aD ?_)
   exact⟨k+1,by omega,by omega,cF ⟨(by rw[oN l k (by omega)]; rfl),rfl,rfl,rfl,trivial⟩ (by rw[nI l stC k (by omega)]; rfl)⟩
  ·
   simp only[bs] at hc1
   refine aX (hK3 _ (aC (fun K9 hK9=>(aB (aE aA 2 rfl (aD (hK9 _ (aI ?_))))))))
   refine⟨_,rfl,?_⟩
   refine(cJ (g:=3) rfl (by rw[List.length_map])).trans ?_
   rw[List.take_of_length_le (by omega)]
theorem aC7 (l:List bC) (hl:l.length≤9223372036854775807) :Den Tryz.prog 94 [.sl 4 (l.map stC)]  (·=.s (.bool (yX l))):=by
 refine aR Tryz.func94 rfl (Nat.le_of_ble_eq_true rfl) (fun w0 A hf=>(aC (fun K1 hK1=>(aB (aE aA 1 rfl (aD (hK1 _ (aC (fun K2 hK2=>(aC (fun K3 hK3=>(aB (aE aA 1 rfl (aD (hK3 _ (aM ?_))))))))))))))))
 refine bM (ι:=Nat) (fun k=>⟨38,[(0,.sl 4 (l.map stC)),(3,.s (.int .i64 (k:Nat)))],[]⟩) (fun k=>k≤l.length∧yX l=oH okS aDn (jP l k) (l.drop k)) (fun k=>l.length - k) 0 ?_ ?_ ?_
 · exact⟨Nat.zero_le _,rfl⟩
 · exact cN rfl
 ·
  rintro k hC
  obtain ⟨h1,h2⟩:=hC
  refine aC (fun K4 hK4=>(aC (fun K5 hK5=>(aB (aE aA 4 rfl (aD (hK5 _ (aK rfl (fun hc1=>?_) (fun hc1=>?_)))))))))
  ·
   simp only[bs] at hc1
   refine aL (hK4 _ (aC (fun K6 hK6=>(aM (aC (fun K7 hK7=>(cU hf bF (by kernel_rfl) rfl (aT aA 2 rfl ?_))))))))
   refine bI [(10,_),(11,_)] rfl rfl ⟨⟨rfl,rfl⟩,⟨rfl,rfl⟩,trivial⟩ rfl (aY rfl rfl dC cS (by first | exact ixm (by omega) | assumption | exact⟨by decide,rfl⟩)) ?_
   refine aT aA 4 rfl ?_
   refine bI [(15,_),(16,_)] rfl rfl ⟨⟨rfl,rfl⟩,⟨rfl,rfl⟩,trivial⟩ rfl (aY rfl rfl dC cS (by first | exact ixm (by omega) | assumption | exact⟨by decide,rfl⟩)) ?_
   refine aT aA 4 rfl (fZ 21 false rfl (fun hg2=>?_) (fun hg2=>?_))
   ·
    simp only[bs] at hg2
    refine aT aA 3 rfl (fZ 24 true rfl (fun hg3=>?_) (fun hg3=>?_))
    ·
     simp only[bs] at hg3
     refine aT aA 2 rfl ?_
     refine bI [(26,_)] rfl rfl ⟨⟨rfl,rfl⟩,trivial⟩ rfl (eZ rfl rfl (by omega) (by omega)) ?_
     refine bI [(25,_),(27,_)] rfl rfl ⟨⟨rfl,rfl⟩,⟨rfl,rfl⟩,trivial⟩ rfl (aY rfl rfl dC cS (iN (k:=k - 1) (by omega) (by omega))) (aT aA 3 rfl ?_)
     refine bI [(30,_),(31,_)] rfl rfl ⟨⟨rfl,rfl⟩,⟨rfl,rfl⟩,trivial⟩ rfl (aY rfl rfl dC cS (by first | exact ixm (by omega) | assumption | exact⟨by decide,rfl⟩)) ?_
     refine aT aA 1 rfl (bL [(29,_),(33,_)] rfl rfl ⟨⟨rfl,rfl⟩,⟨rfl,rfl⟩,trivial⟩ rfl (aO rfl rfl uN rfl (wO l[k - 1] l[k])) (aT aA 3 rfl (cY [0,3,37] rfl rfl rfl (hK7 _ (aK rfl (fun hc4=>?_) (fun hc4=>?_))))))
     ·
      simp only[bs] at hc4
      refine aC (fun K8 hK8=>(aB (aE aA 1 rfl (aD (hK8 _ (aI ?_))))))
      refine⟨_,rfl,?_⟩
      refine aQ ?_
      rw[jX h2 (by omega) (by omega) (show aDn _ _=false from by simp only[aDn,decide_eq_false_iff_not]; omega)]
     ·
      simp only[bs] at hc4
      refine aL (hK6 _ (aB (aE aA 1 rfl ?_)))
      refine aG rfl (bK rfl rfl (by omega) (by omega)) ?_
      refine aE aA 1 rfl (aD ?_)
      exact⟨k+1,⟨by omega,nJ h2 (by omega) (show okS l[k]=true from by simp only[okS,decide_eq_true_eq]; omega) (fun h0=>by simp only[aDn,decide_eq_true_eq]; omega)⟩,by omega,cN rfl⟩
    ·
     simp only[bs] at hg3
     refine aT aA 13 rfl (cY [0,3,37] rfl rfl rfl (hK7 _ (bT rfl (aL (hK6 _ (aB (aE aA 1 rfl ?_)))))))
     refine aG rfl (bK rfl rfl (by omega) (by omega)) ?_
     refine aE aA 1 rfl (aD ?_)
     exact⟨k+1,⟨by omega,nJ h2 (by omega) (show okS l[k]=true from by simp only[okS,decide_eq_true_eq]; omega) (fun h0=>by simp only[aDn,decide_eq_true_eq]; omega)⟩,by omega,cN rfl⟩
   ·
    simp only[bs] at hg2
    refine aT aA 3 rfl (bP rfl rfl ?_)
    refine bP rfl rfl ?_
    refine bP rfl rfl ?_
    refine bP rfl rfl ?_
    refine bP rfl rfl ?_
    refine bP rfl rfl ?_
    refine bP rfl rfl ?_
    refine bP rfl rfl ?_
    refine bP rfl rfl ?_
    refine bP rfl rfl ?_
    refine bP rfl rfl ?_
    refine aT aA 2 rfl (cY [0,3,37] rfl rfl rfl (hK7 _ (bY rfl (aC (fun K9 hK9=>(aB (aE aA 1 rfl (aD (hK9 _ (aI ?_))))))))))
    refine⟨_,rfl,?_⟩
    refine aQ ?_
    rw[jK h2 (by omega) (show okS l[k]=false from by simp only[okS,decide_eq_false_iff_not]; omega)]
  ·
   simp only[bs] at hc1
   refine aX (hK2 _ (aC (fun K10 hK10=>(aB (aE aA 1 rfl (aD (hK10 _ (aI ?_))))))))
   refine⟨_,rfl,?_⟩
   refine aQ ?_
   rw[aCx h2 (by omega)]
theorem aG7 (a b:List bC) (ha:a.length≤9223372036854775807) (hb:b.length≤9223372036854775807) :Den Tryz.prog 18 [.sl 4 (a.map stC),.sl 4 (b.map stC)]  (·=.s (.bool (decide (a=b)))):=by
 refine aR Tryz.func18 rfl (Nat.le_of_ble_eq_true rfl) (fun w0 A hf=>(aC (fun K1 hK1=>(aB (aE aA 1 rfl (aD (hK1 _ (aC (fun K2 hK2=>(aC (fun K3 hK3=>(aB (aE aA 5 rfl (aD (hK3 _ (aK rfl (fun hc1=>?_) (fun hc1=>?_)))))))))))))))))
 ·
  simp only[bs] at hc1
  refine aC (fun K4 hK4=>(aB (aE aA 1 rfl (aD (hK4 _ (aI ?_))))))
  refine⟨_,rfl,?_⟩
  refine aQ ?_
  rw[aRv (by omega)]
 ·
  simp only[bs] at hc1
  refine aL (hK2 _ (aC (fun K5 hK5=>(aC (fun K6 hK6=>(aB (aE aA 1 rfl (aD (hK6 _ (aM (bM (ι:=Nat) (fun k=>⟨26,[(0,.sl 4 (a.map stC)),(1,.sl 4 (b.map stC)),(5,.s (.int .i64 (k:Nat)))],[]⟩) (fun k=>k≤a.length∧a.take k=b.take k) (fun k=>a.length - k) 0 ?_ ?_ ?_)))))))))))
  · exact⟨Nat.zero_le _,rfl⟩
  · exact cN rfl
  ·
   rintro k hC
   obtain ⟨h1,h2⟩:=hC
   refine aC (fun K7 hK7=>(aC (fun K8 hK8=>(aB (aE aA 4 rfl (aD (hK8 _ (aK rfl (fun hc2=>?_) (fun hc2=>?_)))))))))
   ·
    simp only[bs] at hc2
    refine aL (hK7 _ (aC (fun K9 hK9=>(aM (aC (fun K10 hK10=>(cU hf bF (by kernel_rfl) rfl (aT aA 2 rfl ?_))))))))
    refine bI [(17,_),(18,_)] rfl rfl ⟨⟨rfl,rfl⟩,⟨rfl,rfl⟩,trivial⟩ rfl (aY rfl rfl dC cS (by first | exact ixm (by omega) | assumption | exact⟨by decide,rfl⟩)) ?_
    refine aT aA 3 rfl ?_
    refine bI [(21,_),(22,_)] rfl rfl ⟨⟨rfl,rfl⟩,⟨rfl,rfl⟩,trivial⟩ rfl (aY rfl rfl dC cS (by first | exact ixm (by omega) | assumption | exact⟨by decide,rfl⟩)) ?_
    refine aT aA 1 rfl (bI [(20,_),(24,_)] rfl rfl ⟨⟨rfl,rfl⟩,⟨rfl,rfl⟩,trivial⟩ rfl (p_neagg rfl rfl aUn rfl) ?_)
    rw[stC_eqF]
    refine cY [0,1,5,25] rfl rfl rfl (hK10 _ (aK rfl (fun hc3=>?_) (fun hc3=>?_)))
    ·
     simp only[bs] at hc3
     refine aC (fun K11 hK11=>(aB (aE aA 1 rfl (aD (hK11 _ (aI ?_))))))
     refine⟨_,rfl,?_⟩
     refine aQ ?_
     rw[aN6 (by omega) (by omega) (by assumption)]
    ·
     simp only[bs] at hc3
     refine aL (hK9 _ (aB (aE aA 1 rfl ?_)))
     refine aG rfl (bK rfl rfl (by omega) (by omega)) ?_
     refine aE aA 1 rfl (aD ?_)
     exact⟨k+1,⟨by omega,aN5 (by omega) (by omega) h2 (by assumption)⟩,by omega,cN rfl⟩
   ·
    simp only[bs] at hc2
    refine aX (hK5 _ (aC (fun K12 hK12=>(aB (aE aA 1 rfl (aD (hK12 _ (aI ?_))))))))
    refine⟨_,rfl,?_⟩
    refine aQ ?_
    rw[aRw (by omega) (by omega) h2]
theorem aRj (l:List bC) (hl:l.length≤9223372036854775807) :Den Tryz.prog 50 [.sl 4 (l.map stC)]  (·=.tup [.s (.int .i64 (aAp l).1),.s (.bool (aAp l).2)]):=by
 refine aR Tryz.func50 rfl (Nat.le_of_ble_eq_true rfl) (fun w0 A hf=>(aC (fun K1 hK1=>(aB (aE aA 2 rfl (aD (hK1 _ (aC (fun K2 hK2=>(aB (aE aA 2 rfl (aD (hK2 _ (aC (fun K3 hK3=>(aC (fun K4 hK4=>?_)))))))))))))))))
 refine aB (aE aA 3 rfl (aD (hK4 _ (aM (bM (ι:=Nat×Int×Bool) (fun(⟨k,n,b⟩:Nat×Int×Bool)=>⟨35,[(4,.s (.int .i64 n)),(5,.s (.bool b)),(8,.sl 4 (l.map stC)),(9,.s (.int .i64 ((l.map stC).length:Nat))),(10,.s (.int .i64 (k:Nat)))],[]⟩) (fun(⟨k,n,b⟩:Nat×Int×Bool)=>k≤l.length∧(n,b)=(l.take k).foldl dB (0,false)) (fun(⟨k,n,b⟩:Nat×Int×Bool)=>l.length - k) (0,0,false) ?_ ?_ ?_)))))
 · exact⟨Nat.zero_le _,rfl⟩
 · exact cN rfl
 ·
  rintro ⟨k,n,b⟩ hC
  obtain ⟨h1,h2⟩:=hC
  refine aC (fun K5 hK5=>(aB (aE aA 1 rfl (aD (hK5 _ (aC (fun K6 hK6=>(aK rfl (fun hc1=>?_) (fun hc1=>?_)))))))))
  ·
   simp only[bs] at hc1
   refine aL (hK6 _ (aC (fun K7 hK7=>(aM (aC (fun K8 hK8=>(aB ?_)))))))
   refine aG rfl (aY rfl rfl cB bA (by first | exact ixm (by omega) | assumption | exact⟨by decide,rfl⟩)) ?_
   refine aE aA 1 rfl (cA hf rfl eE rfl bA rfl rfl rfl rfl (lf rfl) (aD (hK8 _ (aC (fun K9 hK9=>(aB (aE aA 2 rfl (aJ hf rfl (aO rfl rfl lI rfl (pC _)) (aE aA 2 rfl (aW rfl rfl rfl (fun hg2=>?_) (fun hg2=>?_)))))))))))
   ·
    simp only[bs] at hg2
    refine aG rfl (fB rfl) (aE aA 2 rfl (aW rfl rfl rfl (fun hg3=>?_) (fun hg3=>?_)))
    ·
     simp only[bs] at hg3
     refine aG rfl (bW rfl aA2 dP rfl) ?_
     refine aE aA 6 rfl (aD (hK9 _ (aK rfl (fun hc4=>?_) (fun hc4=>?_))))
     ·
      simp only[bs] at hc4
      refine aB (aE aA 5 rfl ?_)
      refine bH ?_
      refine hK7 _ (aB ?_)
      refine aG rfl (bK rfl rfl (by omega) (by omega)) ?_
      refine aE aA 1 rfl (aD ?_)
      exact⟨(k+1,l[k].1.2,true),⟨by omega,by rw[dU l dB _ k (by omega),← h2,dB,if_pos (by simp only; first | exact⟨by omega,.inl (by assumption)⟩ | exact⟨by omega,.inr (by omega)⟩)]⟩,by simp only; omega,gN ⟨rfl,rfl,rfl,rfl,rfl,trivial⟩⟩
     ·
      simp only[bs] at hc4
      refine aL (hK7 _ (aB ?_))
      refine aG rfl (bK rfl rfl (by omega) (by omega)) ?_
      refine aE aA 1 rfl (aD ?_)
      exact⟨(k+1,n,b),⟨by omega,by rw[dU l dB _ k (by omega),← h2,dB,if_neg (by simp only; rintro ⟨e1,e2⟩; first | omega | (rcases e2 with e2 | e2; simp_all; omega))]⟩,by simp only; omega,gN ⟨rfl,rfl,rfl,rfl,rfl,trivial⟩⟩
    ·
     simp only[bs] at hg3
     refine aE aA 6 rfl (aD (hK9 _ (bY rfl (aB (aE aA 5 rfl ?_)))))
     refine bH ?_
     refine hK7 _ (aB ?_)
     refine aG rfl (bK rfl rfl (by omega) (by omega)) ?_
     refine aE aA 1 rfl (aD ?_)
     exact⟨(k+1,l[k].1.2,true),⟨by omega,by rw[dU l dB _ k (by omega),← h2,dB,if_pos (by simp only; first | exact⟨by omega,.inl (by assumption)⟩ | exact⟨by omega,.inr (by omega)⟩)]⟩,by simp only; omega,gN ⟨rfl,rfl,rfl,rfl,rfl,trivial⟩⟩
   ·
    simp only[bs] at hg2
    refine aE aA 2 rfl (fE rfl rfl rfl ?_)
    refine fE rfl rfl rfl ?_
    refine fE rfl rfl rfl ?_
    refine fE rfl rfl rfl ?_
    refine fE rfl rfl rfl ?_
    refine aE aA 2 rfl (aD (hK9 _ (bT rfl (aL (hK7 _ (aB ?_))))))
    refine aG rfl (bK rfl rfl (by omega) (by omega)) ?_
    refine aE aA 1 rfl (aD ?_)
    exact⟨(k+1,n,b),⟨by omega,by rw[dU l dB _ k (by omega),← h2,dB,if_neg (by simp only; rintro ⟨e1,e2⟩; first | omega | (rcases e2 with e2 | e2; simp_all; omega))]⟩,by simp only; omega,gN ⟨rfl,rfl,rfl,rfl,rfl,trivial⟩⟩
  ·
   simp only[bs] at hc1
   refine aX (hK3 _ (aC (fun K10 hK10=>(aB (aE aA 4 rfl (aD (hK10 _ (aI ?_))))))))
   refine⟨_,rfl,?_⟩
   show AV.tup [.s (.int .i64 n),.s (.bool b)]=_
   rw[aAp,← lZ l dB (0,false) k (by omega),← h2]
theorem aG8 (l:List bC) (hl:l.length≤9223372036854775807) :Den Tryz.prog 51 [.sl 4 (l.map stC)]  (·=.tup [.s (.int .i64 (aAp l).1),.s (.bool (aAp l).2)]):=by
 refine aR Tryz.func51 rfl (Nat.le_of_ble_eq_true rfl) (fun w0 A hf=>(aC (fun K1 hK1=>(aB (aE aA 2 rfl (aD (hK1 _ (aC (fun K2 hK2=>(aB (aE aA 1 rfl (aD (hK2 _ (aC (fun K3 hK3=>(aC (fun K4 hK4=>?_)))))))))))))))))
 refine aB (aE aA 1 rfl (aD (hK4 _ (aM (bM (ι:=Nat×Int) (fun(⟨k,b⟩:Nat×Int)=>⟨48,[(0,.sl 4 (l.map stC)),(4,.s (.int .i64 b)),(5,.s (.int .i64 (k:Nat)))],[]⟩) (fun(⟨k,b⟩:Nat×Int)=>k≤l.length∧((b=-1∧(l.take k).foldl dB (0,false)=(0,false))∨(∃ i:Nat,∃ hi:i<l.length,i<k∧b=(i:Int)∧(l.take k).foldl dB (0,false)=(l[i].1.2,true)))) (fun(⟨k,b⟩:Nat×Int)=>l.length - k) (0,-1) ?_ ?_ ?_)))))
 · exact⟨Nat.zero_le _,.inl ⟨rfl,rfl⟩⟩
 · exact cN rfl
 ·
  rintro ⟨k,b⟩ hC
  obtain ⟨h1,h2⟩:=hC
  refine aC (fun K5 hK5=>(aC (fun K6 hK6=>(aB (aE aA 4 rfl (aD (hK6 _ (aK rfl (fun hc1=>?_) (fun hc1=>?_)))))))))
  ·
   simp only[bs] at hc1
   refine aL (hK5 _ (aC (fun K7 hK7=>(aM (aC (fun K8 hK8=>(cU hf bF (by kernel_rfl) rfl (aT aA 2 rfl ?_))))))))
   refine bI [(12,_),(13,_)] rfl rfl ⟨⟨rfl,rfl⟩,⟨rfl,rfl⟩,trivial⟩ rfl (aY rfl rfl dC cS (by first | exact ixm (by omega) | assumption | exact⟨by decide,rfl⟩)) ?_
   refine aT aA 4 rfl ?_
   refine bI [(17,_),(18,_)] rfl rfl ⟨⟨rfl,rfl⟩,⟨rfl,rfl⟩,trivial⟩ rfl (aY rfl rfl dC cS (by first | exact ixm (by omega) | assumption | exact⟨by decide,rfl⟩)) ?_
   refine aT aA 4 rfl (fZ 23 true rfl (fun hg2=>?_) (fun hg2=>?_))
   ·
    simp only[bs] at hg2
    refine aT aA 3 rfl (fZ 26 false rfl (fun hg3=>?_) (fun hg3=>?_))
    ·
     simp only[bs] at hg3
     obtain ⟨i0,hi0,hik0,h2b,h2e⟩:∃ i:Nat,∃ hi:i<l.length,i<k∧b=(i:Int)∧(l.take k).foldl dB (0,false)=(l[i].1.2,true):=by
      rcases h2 with ⟨e,h2⟩ | h2
      · exfalso; omega
      · exact h2
     refine aT aA 2 rfl ?_
     refine bI [(27,_),(28,_)] rfl rfl ⟨⟨rfl,rfl⟩,⟨rfl,rfl⟩,trivial⟩ rfl (aY rfl rfl dC cS (by first | exact ixm (by omega) | assumption | exact⟨by decide,rfl⟩)) ?_
     refine aT aA 4 rfl (bI [(32,_),(33,_)] rfl rfl ⟨⟨rfl,rfl⟩,⟨rfl,rfl⟩,trivial⟩ rfl (aY rfl rfl dC cS (iN (k:=i0) (by omega) (by omega))) (aT aA 5 rfl (cY [0,4,5,39] rfl rfl rfl (hK8 _ (aK rfl (fun hc4=>?_) (fun hc4=>?_))))))
     ·
      simp only[bs] at hc4
      refine aB (aE aA 2 rfl ?_)
      refine bH ?_
      refine hK7 _ (aB (aE aA 1 rfl ?_))
      refine aG rfl (bK rfl rfl (by omega) (by omega)) ?_
      refine aE aA 1 rfl (aD ?_)
      exact⟨(k+1,(k:Int)),⟨by omega,.inr ⟨k,by omega,by omega,rfl,by rw[dU l dB _ k (by omega)]; first | (rw[h2n,dB,if_pos ⟨by omega,.inl rfl⟩]) | (rw[h2e,dB,if_pos ⟨by omega,.inr (by simp only; omega)⟩])⟩⟩,by simp only; omega,gN ⟨rfl,rfl,rfl,trivial⟩⟩
     ·
      simp only[bs] at hc4
      refine aL (hK7 _ (aB (aE aA 1 rfl ?_)))
      refine aG rfl (bK rfl rfl (by omega) (by omega)) ?_
      refine aE aA 1 rfl (aD ?_)
      exact⟨(k+1,b),⟨by omega,by rw[dU l dB _ k (by omega)]; exact .inr ⟨i0,hi0,by omega,h2b,by rw[h2e,dB,if_neg (by simp only; rintro ⟨e1,e2⟩; simp only[Bool.true_eq_false,false_or] at e2; omega)]⟩⟩,by simp only; omega,gN ⟨rfl,rfl,rfl,trivial⟩⟩
    ·
     simp only[bs] at hg3
     have h2n:(l.take k).foldl dB (0,false)=(0,false):=by
      rcases h2 with ⟨_,h2⟩ | ⟨i,hi,hik,e,h2⟩
      · exact h2
      · exfalso; omega
     refine aT aA 13 rfl (cY [0,4,5,39] rfl rfl rfl (hK8 _ (bY rfl (aB (aE aA 2 rfl ?_)))))
     refine bH ?_
     refine hK7 _ (aB (aE aA 1 rfl ?_))
     refine aG rfl (bK rfl rfl (by omega) (by omega)) ?_
     refine aE aA 1 rfl (aD ?_)
     exact⟨(k+1,(k:Int)),⟨by omega,.inr ⟨k,by omega,by omega,rfl,by rw[dU l dB _ k (by omega)]; first | (rw[h2n,dB,if_pos ⟨by omega,.inl rfl⟩]) | (rw[h2e,dB,if_pos ⟨by omega,.inr (by simp only; omega)⟩])⟩⟩,by simp only; omega,gN ⟨rfl,rfl,rfl,trivial⟩⟩
   ·
    simp only[bs] at hg2
    refine aT aA 3 rfl (bP rfl rfl ?_)
    refine bP rfl rfl ?_
    refine bP rfl rfl ?_
    refine bP rfl rfl ?_
    refine bP rfl rfl ?_
    refine bP rfl rfl ?_
    refine bP rfl rfl ?_
    refine bP rfl rfl ?_
    refine bP rfl rfl ?_
    refine bP rfl rfl ?_
    refine bP rfl rfl ?_
    refine aT aA 2 rfl (cY [0,4,5,39] rfl rfl rfl (hK8 _ (bT rfl (aL (hK7 _ (aB (aE aA 1 rfl ?_)))))))
    refine aG rfl (bK rfl rfl (by omega) (by omega)) ?_
    refine aE aA 1 rfl (aD ?_)
    exact⟨(k+1,b),⟨by omega,by rw[dU l dB _ k (by omega)]; rcases h2 with ⟨e,h2⟩ | ⟨i,hi,hik,e,h2⟩; exact .inl ⟨e,by rw[h2,dB,if_neg (by simp only; rintro ⟨e1,_⟩; omega)]⟩; exact .inr ⟨i,hi,by omega,e,by rw[h2,dB,if_neg (by simp only; rintro ⟨e1,_⟩; omega)]⟩⟩,by simp only; omega,gN ⟨rfl,rfl,rfl,trivial⟩⟩
  ·
   simp only[bs] at hc1
   refine aX (hK3 _ (aC (fun K9 hK9=>(aC (fun K10 hK10=>(aB (aE aA 2 rfl (aD (hK10 _ (aK rfl (fun hc7=>?_) (fun hc7=>?_)))))))))))
   ·
    simp only[bs] at hc7
    have h2n:(l.take k).foldl dB (0,false)=(0,false):=by
     rcases h2 with ⟨_,h2⟩ | ⟨i,hi,hik,e,h2⟩
     · exact h2
     · exfalso; omega
    refine aC (fun K11 hK11=>(aB (aE aA 2 rfl (aD (hK11 _ (aI ?_))))))
    refine⟨_,rfl,?_⟩
    rw[aAp,← lZ l dB (0,false) k (by omega),h2n]; rfl
   ·
    simp only[bs] at hc7
    obtain ⟨i0,hi0,hik0,h2b,h2e⟩:∃ i:Nat,∃ hi:i<l.length,i<k∧b=(i:Int)∧(l.take k).foldl dB (0,false)=(l[i].1.2,true):=by
     rcases h2 with ⟨e,h2⟩ | h2
     · exfalso; omega
     · exact h2
    refine aL (hK9 _ (aC (fun K12 hK12=>(aB (aE aA 2 rfl (aG rfl (aY rfl rfl dC cS (iN (k:=i0) (by omega) (by omega))) (aE aA 4 rfl (aD (hK12 _ (aI ?_))))))))))
    refine⟨_,rfl,?_⟩
    rw[aAp,← lZ l dB (0,false) k (by omega),h2e]; rfl
end Go.Proofs.YtpkanhklapfajaaGreat
set_option linter.unusedVariables false
set_option linter.unusedSimpArgs false
namespace Go.Proofs.YtpkanhklapfajaaGreat
open Go Go.Abs
theorem jT (n a b:Int) :Den Tryz.prog 107 [.s (.int .i64 n),.s (.int .i64 a),.s (.int .i64 b)]  (·=.s (.bool (decide (a≤n)&&decide (n≤b)))):=by
 refine aR Tryz.func107 rfl (Nat.le_of_ble_eq_true rfl) (fun w0 A hf=>(aC (fun K1 hK1=>(aB (aE aA 1 rfl (aD (hK1 _ (aC (fun K2 hK2=>(aB (aE aA 4 rfl (aW rfl rfl rfl (fun hg1=>?_) (fun hg1=>?_)))))))))))))
 ·
  simp only[bs] at hg1
  refine aG rfl (fB rfl) (aE aA 4 rfl (aD (hK2 _ (aI ?_))))
  refine⟨_,rfl,?_⟩
  refine aQ ?_
  rw[Bool.eq_iff_iff]
  simp only[Bool.and_eq_true,decide_eq_true_eq,true_iff,Bool.false_eq_true,false_iff]
  omega
 ·
  simp only[bs] at hg1
  refine aE aA 4 rfl (aD (hK2 _ (aI ?_)))
  refine⟨_,rfl,?_⟩
  refine aQ ?_
  rw[Bool.eq_iff_iff]
  simp only[Bool.and_eq_true,decide_eq_true_eq,true_iff,Bool.false_eq_true,false_iff]
  omega
theorem aOd (x:Us) :Den Tryz.prog 86 [.agg (usC x)]  (·=.s (.string x.1)):=by
 refine aR Tryz.func86 rfl (Nat.le_of_ble_eq_true rfl) (fun w0 A hf=>(aC (fun K1 hK1=>(aB (aJ hf rfl (cE rfl rfl (lf rfl)) (aE aA 1 rfl (aD (hK1 _ (aC (fun K2 hK2=>(aB (aE aA 3 rfl (aD (hK2 _ (aI ?_)))))))))))))))
 refine⟨_,rfl,?_⟩
 rfl
theorem aNa (x:Tm) :Den Tryz.prog 91 [.agg (tmC x)]  (·=.s (.string x.1)):=by
 refine aR Tryz.func91 rfl (Nat.le_of_ble_eq_true rfl) (fun w0 A hf=>(aC (fun K1 hK1=>(aB (aJ hf rfl (cE rfl rfl (lf rfl)) (aE aA 1 rfl (aD (hK1 _ (aC (fun K2 hK2=>(aB (aE aA 3 rfl (aD (hK2 _ (aI ?_)))))))))))))))
 refine⟨_,rfl,?_⟩
 rfl
end Go.Proofs.YtpkanhklapfajaaGreat
set_option linter.unusedVariables false
set_option linter.unusedSimpArgs false
namespace Go.Proofs.YtpkanhklapfajaaGreat
open Go Go.Abs
theorem aIl {g:Nat} {cap:List AV} (hent:∀ args w,(callFunc g args).run Tryz.prog w=.ok (.enter g args) w) (hcl:cleanL (fun _=>false) cap=true) (l:List Us) (u:ByteArray) (hl:l.length≤4611686018427387903) (hr:dI cW l) (hp:∀ x∈l,Den Tryz.prog g (.agg (usC x)::.s (.string u)::cap) (·=.s (.int .i64 (eJ x.1 u)))) :Den Tryz.prog 143 [.sl 2 (l.map usC),.s (.string u),.fn g cap]  (·=.tup [.s (.int .i64 (cZ cW l u:Nat)),.s (.bool (lX cW l u))]):=by
 refine aR Tryz.func143 rfl (Nat.le_of_ble_eq_true rfl) (fun w0 A hf=>(aC (fun K1 hK1=>(aB (aE aA 2 rfl (aD (hK1 _ (aC (fun K2 hK2=>(aB (aE aA 3 rfl (aD (hK2 _ (aC (fun K3 hK3=>(aB ?_))))))))))))))))
 refine aE aA 3 rfl (aD (hK3 _ (aC (fun K4 hK4=>(aM (bM (ι:=Nat×Nat) (fun(⟨i,j⟩:Nat×Nat)=>⟨49,[(0,.sl 2 (l.map usC)),(1,.s (.string u)),(2,.fn g cap),(8,.s (.int .i64 (((l.map usC)).length:Nat))),(9,.s (.int .i64 (i:Nat))),(10,.s (.int .i64 (j:Nat)))],[]⟩) (fun(⟨i,j⟩:Nat×Nat)=>BsI l cW u i j) (fun(⟨i,j⟩:Nat×Nat)=>j - i) (0,l.length) ?_ ?_ ?_))))))
 · exact BsI.start l u
 · exact gN ⟨rfl,rfl,rfl,rfl,rfl,(by rw[List.length_map]; rfl),trivial⟩
 ·
  rintro ⟨i,j⟩ hC
  have hi1:=hC.1
  have hi2:=hC.2.1
  refine aC (fun K5 hK5=>(aC (fun K6 hK6=>(aB (aE aA 3 rfl (aD (hK6 _ (aK rfl (fun hc1=>?_) (fun hc1=>?_)))))))))
  ·
   simp only[bs] at hc1
   refine aL (hK5 _ (aM (aC (fun K7 hK7=>(aB ?_)))))
   have hz:=zK (a:=((i:Nat):Int)+((j:Nat):Int)) (b:=(((i+j) / 2:Nat):Int)) (by omega) (by omega) (by omega)
   have hm1:i≤(i+j) / 2:=by omega
   have hm2:(i+j) / 2<j:=by omega
   have hml:(i+j) / 2<l.length:=by omega
   refine aE aA 2 rfl (aG rfl (bK rfl rfl (by omega) (by omega)) (aG rfl (oE rfl Tryz.underlying3 Tryz.underlying228 hz.1) (aG rfl (zA rfl hz.2.1 (by decide)) (aG rfl (oE rfl Tryz.underlying228 Tryz.underlying3 hz.2.2) (aE aA 1 rfl (aD (hK7 _ (aC (fun K8 hK8=>(aB (aE aA 3 rfl (aG rfl (aY rfl rfl fR fS (iN (k:=(i+j) / 2) (by omega) (by omega))) (aE aA 2 rfl ?_)))))))))))))
   refine aJ hf rfl (aO rfl rfl hent (by show (true&&(true&&cleanL (fun _=>false) cap))=true; rw[hcl]; rfl) (hp _ (List.getElem_mem hml))) ?_
   refine aE aA 1 rfl (aD (hK8 _ (aK rfl (fun hc2=>?_) (fun hc2=>?_))))
   ·
    simp only[bs] at hc2
    refine aB (aE aA 1 rfl ?_)
    refine aG rfl (bK rfl rfl (by omega) (by omega)) ?_
    refine aE aA 1 rfl ?_
    refine bH ?_
    exact⟨((i+j) / 2+1,j),hC.lo hr hm1 hm2 hml (by show eJ l[(i+j) / 2].1 u<0; omega),by simp only; omega,gN ⟨rfl,rfl,rfl,rfl,rfl,rfl,trivial⟩⟩
   ·
    simp only[bs] at hc2
    refine aB (aE aA 2 rfl ?_)
    refine bH ?_
    exact⟨(i,(i+j) / 2),hC.hi hr hm1 hm2 hml (by show ¬ eJ l[(i+j) / 2].1 u<0; omega),by simp only; omega,gN ⟨rfl,rfl,rfl,rfl,rfl,rfl,trivial⟩⟩
  ·
   simp only[bs] at hc1
   refine aX (hK4 _ (aC (fun K9 hK9=>(aB (aE aA 5 rfl (aW rfl rfl rfl (fun hg3=>?_) (fun hg3=>?_)))))))
   ·
    simp only[bs] at hg3
    refine aG rfl (fB rfl) (aE aA 2 rfl (bE rfl rfl rfl ?_))
    refine aG rfl (aY rfl rfl fR fS (by first | exact ixm (by omega) | assumption | exact⟨by decide,rfl⟩)) ?_
    refine aE aA 2 rfl (bE rfl rfl rfl (aJ hf rfl (aO rfl rfl hent (by show (true&&(true&&cleanL (fun _=>false) cap))=true; rw[hcl]; rfl) (hp _ (List.getElem_mem (by omega)))) ?_))
    refine aE aA 4 rfl (aD (hK9 _ (aI ?_)))
    refine⟨_,rfl,?_⟩
    (rw[(hC.fin hr (by omega)).1,hC.fin_t hr (by omega) (show i<l.length by omega)]; rfl)
   ·
    simp only[bs] at hg3
    refine aE aA 10 rfl (aD (hK9 _ (aI ?_)))
    refine⟨_,rfl,?_⟩
    (rw[(hC.fin hr (by omega)).1,hC.fin_f hr (by omega) (by omega)]; rfl)
theorem aIm (x:Us) (u:ByteArray) :Den Tryz.prog 144 [.agg (usC x),.s (.string u),.adr [.fn 86 []]]  (·=.s (.int .i64 (eJ x.1 u))):=by
 refine aR Tryz.func144 rfl (Nat.le_of_ble_eq_true rfl) (fun w0 A hf=>(aC (fun K1 hK1=>(aB (aJ hf rfl (cE rfl rfl (lf rfl)) (aE aA 1 rfl (aD (hK1 _ (aC (fun K2 hK2=>(aB (aE aA 2 rfl (aJ hf rfl (aO rfl rfl aOq rfl (aOd x)) (aE aA 1 rfl (aJ hf rfl (aO rfl rfl qJ rfl (Nm.cmp_den x.1 u)) ?_)))))))))))))))
 refine aE aA 1 rfl (aD (hK2 _ (aI ?_)))
 refine⟨_,rfl,?_⟩
 rfl
theorem aCc (l:List Us) (u:ByteArray) (hl:l.length≤4611686018427387903) (hr:dI cW l) :Den Tryz.prog 96 [.sl 2 (l.map usC),.s (.string u),.fn 86 []]  (·=.tup [.s (.int .i64 (cZ cW l u:Nat)),.s (.bool (lX cW l u))]):=by
 refine aR Tryz.func96 rfl (Nat.le_of_ble_eq_true rfl) (fun w0 A hf=>(aC (fun K1 hK1=>(aB (aJ hf rfl (cE rfl rfl (lf rfl)) (aE aA 2 rfl (aD (hK1 _ (aC (fun K2 hK2=>(aB (aE aA 2 rfl (aG rfl (iI rfl) (aJ hf rfl (aO rfl rfl aMj rfl (aIl aMi rfl l u hl hr (fun x _=>aIm x u))) (aE aA 4 rfl ?_)))))))))))))))
 refine aD (hK2 _ (aI ?_))
 refine⟨_,rfl,?_⟩
 rfl
theorem aIt {g:Nat} {cap:List AV} (hent:∀ args w,(callFunc g args).run Tryz.prog w=.ok (.enter g args) w) (hcl:cleanL (fun _=>false) cap=true) (l:List Tm) (u:ByteArray) (hl:l.length≤4611686018427387903) (hr:dI eO l) (hp:∀ x∈l,Den Tryz.prog g (.agg (tmC x)::.s (.string u)::cap) (·=.s (.int .i64 (eJ x.1 u)))) :Den Tryz.prog 183 [.sl 2 (l.map tmC),.s (.string u),.fn g cap]  (·=.tup [.s (.int .i64 (cZ eO l u:Nat)),.s (.bool (lX eO l u))]):=by
 refine aR Tryz.func183 rfl (Nat.le_of_ble_eq_true rfl) (fun w0 A hf=>(aC (fun K1 hK1=>(aB (aE aA 2 rfl (aD (hK1 _ (aC (fun K2 hK2=>(aB (aE aA 3 rfl (aD (hK2 _ (aC (fun K3 hK3=>(aB ?_))))))))))))))))
 refine aE aA 3 rfl (aD (hK3 _ (aC (fun K4 hK4=>(aM (bM (ι:=Nat×Nat) (fun(⟨i,j⟩:Nat×Nat)=>⟨49,[(0,.sl 2 (l.map tmC)),(1,.s (.string u)),(2,.fn g cap),(8,.s (.int .i64 (((l.map tmC)).length:Nat))),(9,.s (.int .i64 (i:Nat))),(10,.s (.int .i64 (j:Nat)))],[]⟩) (fun(⟨i,j⟩:Nat×Nat)=>BsI l eO u i j) (fun(⟨i,j⟩:Nat×Nat)=>j - i) (0,l.length) ?_ ?_ ?_))))))
 · exact BsI.start l u
 · exact gN ⟨rfl,rfl,rfl,rfl,rfl,(by rw[List.length_map]; rfl),trivial⟩
 ·
  rintro ⟨i,j⟩ hC
  have hi1:=hC.1
  have hi2:=hC.2.1
  refine aC (fun K5 hK5=>(aC (fun K6 hK6=>(aB (aE aA 3 rfl (aD (hK6 _ (aK rfl (fun hc1=>?_) (fun hc1=>?_)))))))))
  ·
   simp only[bs] at hc1
   refine aL (hK5 _ (aM (aC (fun K7 hK7=>(aB ?_)))))
   have hz:=zK (a:=((i:Nat):Int)+((j:Nat):Int)) (b:=(((i+j) / 2:Nat):Int)) (by omega) (by omega) (by omega)
   have hm1:i≤(i+j) / 2:=by omega
   have hm2:(i+j) / 2<j:=by omega
   have hml:(i+j) / 2<l.length:=by omega
   refine aE aA 2 rfl (aG rfl (bK rfl rfl (by omega) (by omega)) (aG rfl (oE rfl Tryz.underlying3 Tryz.underlying228 hz.1) (aG rfl (zA rfl hz.2.1 (by decide)) (aG rfl (oE rfl Tryz.underlying228 Tryz.underlying3 hz.2.2) (aE aA 1 rfl (aD (hK7 _ (aC (fun K8 hK8=>(aB (aE aA 3 rfl (aG rfl (aY rfl rfl kL gU (iN (k:=(i+j) / 2) (by omega) (by omega))) (aE aA 2 rfl ?_)))))))))))))
   refine aJ hf rfl (aO rfl rfl hent (by show (true&&(true&&cleanL (fun _=>false) cap))=true; rw[hcl]; rfl) (hp _ (List.getElem_mem hml))) ?_
   refine aE aA 1 rfl (aD (hK8 _ (aK rfl (fun hc2=>?_) (fun hc2=>?_))))
   ·
    simp only[bs] at hc2
    refine aB (aE aA 1 rfl ?_)
    refine aG rfl (bK rfl rfl (by omega) (by omega)) ?_
    refine aE aA 1 rfl ?_
    refine bH ?_
    exact⟨((i+j) / 2+1,j),hC.lo hr hm1 hm2 hml (by show eJ l[(i+j) / 2].1 u<0; omega),by simp only; omega,gN ⟨rfl,rfl,rfl,rfl,rfl,rfl,trivial⟩⟩
   ·
    simp only[bs] at hc2
    refine aB (aE aA 2 rfl ?_)
    refine bH ?_
    exact⟨(i,(i+j) / 2),hC.hi hr hm1 hm2 hml (by show ¬ eJ l[(i+j) / 2].1 u<0; omega),by simp only; omega,gN ⟨rfl,rfl,rfl,rfl,rfl,rfl,trivial⟩⟩
  ·
   simp only[bs] at hc1
   refine aX (hK4 _ (aC (fun K9 hK9=>(aB (aE aA 5 rfl (aW rfl rfl rfl (fun hg3=>?_) (fun hg3=>?_)))))))
   ·
    simp only[bs] at hg3
    refine aG rfl (fB rfl) (aE aA 2 rfl (bE rfl rfl rfl ?_))
    refine aG rfl (aY rfl rfl kL gU (by first | exact ixm (by omega) | assumption | exact⟨by decide,rfl⟩)) ?_
    refine aE aA 2 rfl (bE rfl rfl rfl (aJ hf rfl (aO rfl rfl hent (by show (true&&(true&&cleanL (fun _=>false) cap))=true; rw[hcl]; rfl) (hp _ (List.getElem_mem (by omega)))) ?_))
    refine aE aA 4 rfl (aD (hK9 _ (aI ?_)))
    refine⟨_,rfl,?_⟩
    (rw[(hC.fin hr (by omega)).1,hC.fin_t hr (by omega) (show i<l.length by omega)]; rfl)
   ·
    simp only[bs] at hg3
    refine aE aA 10 rfl (aD (hK9 _ (aI ?_)))
    refine⟨_,rfl,?_⟩
    (rw[(hC.fin hr (by omega)).1,hC.fin_f hr (by omega) (by omega)]; rfl)
theorem aIu (x:Tm) (u:ByteArray) :Den Tryz.prog 184 [.agg (tmC x),.s (.string u),.adr [.fn 91 []]]  (·=.s (.int .i64 (eJ x.1 u))):=by
 refine aR Tryz.func184 rfl (Nat.le_of_ble_eq_true rfl) (fun w0 A hf=>(aC (fun K1 hK1=>(aB (aJ hf rfl (cE rfl rfl (lf rfl)) (aE aA 1 rfl (aD (hK1 _ (aC (fun K2 hK2=>(aB (aE aA 2 rfl (aJ hf rfl (aO rfl rfl aOp rfl (aNa x)) (aE aA 1 rfl (aJ hf rfl (aO rfl rfl qJ rfl (Nm.cmp_den x.1 u)) ?_)))))))))))))))
 refine aE aA 1 rfl (aD (hK2 _ (aI ?_)))
 refine⟨_,rfl,?_⟩
 rfl
theorem aNd (l:List Tm) (u:ByteArray) (hl:l.length≤4611686018427387903) (hr:dI eO l) :Den Tryz.prog 164 [.sl 2 (l.map tmC),.s (.string u),.fn 91 []]  (·=.tup [.s (.int .i64 (cZ eO l u:Nat)),.s (.bool (lX eO l u))]):=by
 refine aR Tryz.func164 rfl (Nat.le_of_ble_eq_true rfl) (fun w0 A hf=>(aC (fun K1 hK1=>(aB (aJ hf rfl (cE rfl rfl (lf rfl)) (aE aA 2 rfl (aD (hK1 _ (aC (fun K2 hK2=>(aB (aE aA 2 rfl (aG rfl (iI rfl) (aJ hf rfl (aO rfl rfl aLr rfl (aIt aLq rfl l u hl hr (fun x _=>aIu x u))) (aE aA 4 rfl ?_)))))))))))))))
 refine aD (hK2 _ (aI ?_))
 refine⟨_,rfl,?_⟩
 rfl
end Go.Proofs.YtpkanhklapfajaaGreat
set_option linter.unusedVariables false
set_option linter.unusedSimpArgs false
namespace Go.Proofs.YtpkanhklapfajaaGreat
open Go Go.Abs
theorem aEj (l:List bC) (s:bC) (hl:l.length*32+32≤140737488355328) :Den Tryz.prog 33 [.sl 4 (l.map stC),.agg (stC s)]  (·=.sl 4 ((gA l s).map stC)):=by
 refine aR Tryz.func33 rfl (Nat.le_of_ble_eq_true rfl) (fun w0 A hf=>(aC (fun K1 hK1=>(aB (aJ hf rfl (cE rfl rfl (lf rfl)) (aG rfl (bD) (aD (hK1 _ (aC (fun K2 hK2=>(aC (fun K3 hK3=>(aB (aE aA 2 rfl (aJ hf rfl (aO rfl rfl lI rfl (pC s.1)) (aD ?_))))))))))))))))
 refine hK3 _ (aK rfl (fun hc1=>?_) (fun hc1=>?_))
 ·
  simp only[bs] at hc1
  refine aC (fun K4 hK4=>(aB (aE aA 1 rfl (aJ hf rfl (aO rfl rfl wP rfl (cQ (vX _ (by omega)))) (aE aA 1 rfl (aD (hK4 _ (aI ?_))))))))
  refine⟨_,rfl,?_⟩
  rw[gA,if_pos (by assumption)]; rfl
 ·
  simp only[bs] at hc1
  refine aL (hK2 _ (aC (fun K5 hK5=>(aB (aE aA 3 rfl (aD (hK5 _ (aC (fun K6 hK6=>(aM (bM (ι:=Nat) (fun k=>⟨37,[(0,.sl 4 (l.map stC)),(3,.adr (stC s)),(5,.s (.int .i64 (k:Nat)))],[]⟩) (fun k=>k≤l.length∧∀ (j:Nat) (hj:j<l.length),k≤j→0<gL l[j] s) (fun k=>k) l.length ?_ ?_ ?_)))))))))))
  · exact⟨Nat.le_refl _,by omega⟩
  · exact cF ⟨rfl,rfl,aN (by rw[List.length_map]),trivial⟩ rfl
  ·
   rintro k hC
   obtain ⟨h1,h2⟩:=hC
   refine aC (fun K7 hK7=>(aC (fun K8 hK8=>(cU hf bF (by kernel_rfl) rfl (aT aA 3 rfl (fZ 15 true rfl (fun hg2=>?_) (fun hg2=>?_)))))))
   ·
    simp only[bs] at hg2
    refine aT aA 2 rfl ?_
    refine bI [(17,_)] rfl rfl ⟨⟨rfl,rfl⟩,trivial⟩ rfl (eZ rfl rfl (by omega) (by omega)) ?_
    refine bI [(16,_),(18,_)] rfl rfl ⟨⟨rfl,rfl⟩,⟨rfl,rfl⟩,trivial⟩ rfl (aY rfl rfl cB bA (iN (k:=k - 1) (by omega) (by omega))) (aT aA 2 rfl (bL [(20,_),(21,_)] rfl rfl ⟨⟨rfl,rfl⟩,⟨rfl,rfl⟩,trivial⟩ rfl (aO rfl rfl wQ rfl (aEc l[k - 1] s)) (aT aA 2 rfl (cY [0,3,5,24] rfl rfl rfl (hK8 _ (aK rfl (fun hc3=>?_) (fun hc3=>?_)))))))
    ·
     simp only[bs] at hc3
     refine aL (hK7 _ (aM (aB (aE aA 1 rfl ?_))))
     refine aG rfl (eZ rfl rfl (by omega) (by omega)) ?_
     refine aE aA 1 rfl ?_
     refine bH ?_
     exact⟨k - 1,⟨by omega,fun j hj hkj=>by
      by_cases e:j=k - 1
      · subst e; assumption
      · exact h2 j hj (by omega)⟩,by omega,cF ⟨rfl,rfl,aN (by omega),trivial⟩ rfl⟩
    ·
     simp only[bs] at hc3
     refine aX (hK6 _ (aC (fun K9 hK9=>(cU hf bF (by kernel_rfl) rfl ?_))))
     have hins:=aB4 s l k (by omega) h2 (fun h0 h=>by omega)
     refine aT aA 2 rfl (bI [(27,_),(28,_)] rfl rfl ⟨⟨rfl,rfl⟩,⟨rfl,rfl⟩,trivial⟩ rfl (dE rfl cB bA rfl (kH rfl (by omega)) (by omega) (by simp only[List.length_map,Int.toNat_natCast] <;> omega) (jW (k:=k) (by omega))) ?_)
     refine aT aA 1 rfl (bL [(30,_)] rfl rfl ⟨⟨rfl,rfl⟩,trivial⟩ rfl (aP gW rfl rfl rfl rfl (l2 rfl)) (aT aA 2 rfl (bI [(32,_),(33,_)] rfl rfl ⟨⟨rfl,rfl⟩,⟨rfl,rfl⟩,trivial⟩ rfl (dE rfl cB bA (kH rfl (by omega)) rfl (by simp only[List.length_map,Int.toNat_natCast] <;> omega) (by omega) (gX (k:=k) (by omega))) ?_)))
     refine bL [(29,_),(31,_),(34,_)] rfl rfl ⟨⟨rfl,rfl⟩,⟨rfl,rfl⟩,⟨rfl,rfl⟩,trivial⟩ rfl (aP aE3 rfl rfl rfl rfl (l2 rfl)) (bL [(35,_)] rfl rfl ⟨⟨rfl,rfl⟩,trivial⟩ rfl (aO rfl rfl aEo rfl ((show Den Tryz.prog _ _ (·=.sl 4 ((l.take k++s::l.drop k).map stC)) from (cQ (aAb [l.take k,[s],l.drop k] (by simp) (by simp only[List.flatten_cons,List.flatten_nil,List.length_append,List.length_take,List.length_drop,List.length_cons,List.length_nil]; omega))).mono fun r h=>h.trans (by simp)))) ?_)
     refine aT aA 1 rfl (cY [4] rfl rfl rfl (hK9 _ (aI ?_)))
     refine⟨_,rfl,?_⟩
     rw[gA,if_neg (by omega),hins]; rfl
   ·
    simp only[bs] at hg2
    refine aT aA 9 rfl (cY [0,3,5,24] rfl rfl rfl (hK8 _ (bT rfl (aX (hK6 _ (aC (fun K10 hK10=>(cU hf bF (by kernel_rfl) rfl ?_))))))))
    have hins:=aB4 s l k (by omega) h2 (fun h0 h=>by omega)
    refine aT aA 2 rfl (bI [(27,_),(28,_)] rfl rfl ⟨⟨rfl,rfl⟩,⟨rfl,rfl⟩,trivial⟩ rfl (dE rfl cB bA rfl (kH rfl (by omega)) (by omega) (by simp only[List.length_map,Int.toNat_natCast] <;> omega) (jW (k:=k) (by omega))) ?_)
    refine aT aA 1 rfl (bL [(30,_)] rfl rfl ⟨⟨rfl,rfl⟩,trivial⟩ rfl (aP gW rfl rfl rfl rfl (l2 rfl)) (aT aA 2 rfl (bI [(32,_),(33,_)] rfl rfl ⟨⟨rfl,rfl⟩,⟨rfl,rfl⟩,trivial⟩ rfl (dE rfl cB bA (kH rfl (by omega)) rfl (by simp only[List.length_map,Int.toNat_natCast] <;> omega) (by omega) (gX (k:=k) (by omega))) ?_)))
    refine bL [(29,_),(31,_),(34,_)] rfl rfl ⟨⟨rfl,rfl⟩,⟨rfl,rfl⟩,⟨rfl,rfl⟩,trivial⟩ rfl (aP aE3 rfl rfl rfl rfl (l2 rfl)) (bL [(35,_)] rfl rfl ⟨⟨rfl,rfl⟩,trivial⟩ rfl (aO rfl rfl aEo rfl ((show Den Tryz.prog _ _ (·=.sl 4 ((l.take k++s::l.drop k).map stC)) from (cQ (aAb [l.take k,[s],l.drop k] (by simp) (by simp only[List.flatten_cons,List.flatten_nil,List.length_append,List.length_take,List.length_drop,List.length_cons,List.length_nil]; omega))).mono fun r h=>h.trans (by simp)))) ?_)
    refine aT aA 1 rfl (cY [4] rfl rfl rfl (hK10 _ (aI ?_)))
    refine⟨_,rfl,?_⟩
    rw[gA,if_neg (by omega),hins]; rfl
theorem aAf (l:List bC) (s:bC) (hl:l.length*32+32≤140737488355328) :Den Tryz.prog 58 [.sl 4 (l.map stC),.agg (stC s)]  (·=.sl 4 ((gA l s).map stC)):=by
 refine aR Tryz.func58 rfl (Nat.le_of_ble_eq_true rfl) (fun w0 A hf=>(aC (fun K1 hK1=>(aB (aJ hf rfl (cE rfl rfl (lf rfl)) (aG rfl (bD) (aD (hK1 _ (aC (fun K2 hK2=>(aC (fun K3 hK3=>(aB (aE aA 5 rfl (aD (hK3 _ ?_))))))))))))))))
 refine aK rfl (fun hc1=>?_) (fun hc1=>?_)
 ·
  simp only[bs] at hc1
  refine aC (fun K4 hK4=>(aB (aE aA 2 rfl (aD (hK4 _ (aI ?_))))))
  refine⟨_,rfl,?_⟩
  rw[gA,if_pos (by assumption)]; rfl
 ·
  simp only[bs] at hc1
  refine aL (hK2 _ (aC (fun K5 hK5=>(aB (aE aA 1 rfl (aD (hK5 _ (aC (fun K6 hK6=>(aC (fun K7 hK7=>(aB (aE aA 1 rfl (aD (hK7 _ ?_)))))))))))))))
  refine aM (bM (ι:=Nat×Nat) (fun(⟨k,a⟩:Nat×Nat)=>⟨43,[(0,.sl 4 (l.map stC)),(3,.adr (stC s)),(5,.s (.int .i64 (a:Nat))),(6,.s (.int .i64 (k:Nat)))],[]⟩) (fun(⟨k,a⟩:Nat×Nat)=>k≤l.length∧a≤k∧(∀ (j:Nat) (hj:j<l.length),a≤j→j<k→0<gL l[j] s)∧(∀ z,l[a - 1]?=some z→0<a→gL z s≤0)) (fun(⟨k,a⟩:Nat×Nat)=>l.length - k) (0,0) ?_ ?_ ?_)
  · exact⟨Nat.zero_le _,Nat.le_refl _,by omega,by omega⟩
  · exact cN rfl
  ·
   rintro ⟨k,a⟩ hC
   obtain ⟨h1,h2,h3,h4⟩:=hC
   refine aC (fun K8 hK8=>(aC (fun K9 hK9=>(aB (aE aA 4 rfl (aD (hK9 _ (aK rfl (fun hc2=>?_) (fun hc2=>?_)))))))))
   ·
    simp only[bs] at hc2
    refine aL (hK8 _ (aC (fun K10 hK10=>(aM (aC (fun K11 hK11=>(cU hf bF (by kernel_rfl) rfl (aT aA 3 rfl ?_))))))))
    refine bI [(21,_),(22,_)] rfl rfl ⟨⟨rfl,rfl⟩,⟨rfl,rfl⟩,trivial⟩ rfl (aY rfl rfl dC cS (by first | exact ixm (by omega) | assumption | exact⟨by decide,rfl⟩)) ?_
    refine aT aA 1 rfl (bL [(20,_),(24,_)] rfl rfl ⟨⟨rfl,rfl⟩,⟨rfl,rfl⟩,trivial⟩ rfl (aO rfl rfl uN rfl (wO s l[k])) (aT aA 1 rfl (cY [0,3,5,6,26] rfl rfl rfl (hK11 _ (aK rfl (fun hc3=>?_) (fun hc3=>?_))))))
    ·
     simp only[bs] at hc3
     refine aB (aE aA 1 rfl ?_)
     refine aG rfl (bK rfl rfl (by omega) (by omega)) ?_
     refine aE aA 1 rfl ?_
     refine bH ?_
     refine hK10 _ (aB (aE aA 1 rfl ?_))
     refine aG rfl (bK rfl rfl (by omega) (by omega)) ?_
     refine aE aA 1 rfl (aD ?_)
     exact⟨(k+1,k+1),⟨by omega,Nat.le_refl _,by omega,fun z hz _=>by rw[Nat.add_sub_cancel,List.getElem?_eq_getElem (by omega)] at hz; cases hz; have:=cmpS_tri.swap l[k] s; omega⟩,by simp only; omega,gN ⟨rfl,rfl,rfl,rfl,trivial⟩⟩
    ·
     simp only[bs] at hc3
     refine aL (hK10 _ (aB (aE aA 1 rfl ?_)))
     refine aG rfl (bK rfl rfl (by omega) (by omega)) ?_
     refine aE aA 1 rfl (aD ?_)
     exact⟨(k+1,a),⟨by omega,by omega,fun j hj h5 h6=>by
      by_cases e:j=k
      · subst e; have:=cmpS_tri.swap l[j] s; omega
      · exact h3 j hj h5 (by omega),h4⟩,by simp only; omega,gN ⟨rfl,rfl,rfl,rfl,trivial⟩⟩
   ·
    simp only[bs] at hc2
    refine aX (hK6 _ (aC (fun K12 hK12=>(aB ?_))))
    have hins:=aB4 s l a (by omega) (fun j hj h5=>h3 j hj h5 (by omega)) (fun h0 h=>h4 _ (List.getElem?_eq_getElem h) h0)
    refine cT hf rfl rfl rfl eP rfl rfl rfl rfl (l2 rfl) ?_
    refine aE aA 2 rfl (aG rfl (dE rfl dC cS rfl (kH rfl (by omega)) (by omega) (by simp only[List.length_map,Int.toNat_natCast] <;> omega) (jW (k:=a) (by omega))) ?_)
    refine aZ hf rfl eP rfl rfl rfl (.inl rfl) (by first | rfl | (simp only[List.length_append,List.length_map,List.length_cons,List.length_nil,List.length_take] <;> omega)) rfl (by first | rfl | simp [dJ,bG]) (by first | (simp only[maxLen,List.length_map,List.length_append,List.length_cons,List.length_nil]; omega) | (simp [maxLen] <;> omega)) (by first | (simp only[List.length_map,List.length_append,List.length_cons,List.length_nil]; omega) | (simp <;> omega)) ?_
    refine aU (cM [0,3,5,33] rfl) (aE aA 1 rfl (aD (hK12 _ (aC (fun K13 hK13=>(aB (aE aA 2 rfl (aJ hf rfl (aP eP rfl rfl rfl rfl (l2 rfl)) (aZ hf rfl eP rfl rfl rfl (.inl rfl) (by first | rfl | (simp only[List.length_append,List.length_map,List.length_cons,List.length_nil,List.length_take] <;> omega)) rfl (by first | rfl | simp [dJ,bG]) (by first | (simp only[maxLen,List.length_map,List.length_append,List.length_cons,List.length_nil]; omega) | (simp [maxLen] <;> omega)) (by first | (simp only[List.length_map,List.length_append,List.length_cons,List.length_nil]; omega) | (simp <;> omega)) ?_)))))))))
    refine aU (cM [0,5,37] rfl) (aE aA 1 rfl (aD (hK13 _ (aC (fun K14 hK14=>(aB (aE aA 3 rfl (aG rfl (dE rfl dC cS (kH rfl (by omega)) rfl (by simp only[List.length_map,Int.toNat_natCast] <;> omega) (by omega) (gX (k:=a) (by omega))) ?_))))))))
    refine aZ hf rfl eP rfl rfl rfl (.inl rfl) (by first | rfl | (simp only[List.length_append,List.length_map,List.length_cons,List.length_nil,List.length_take] <;> omega)) rfl (by first | rfl | simp [dJ,bG]) (by first | (simp only[maxLen,List.length_map,List.length_append,List.length_cons,List.length_nil]; omega) | (simp [maxLen] <;> omega)) (by first | (simp only[List.length_map,List.length_append,List.length_cons,List.length_nil]; omega) | (simp <;> omega)) ?_
    refine aU (cM [42] rfl) (aE aA 1 rfl (aD (hK14 _ (aI ?_))))
    refine⟨_,rfl,?_⟩
    refine(cJ (g:=29) rfl ?_).trans ?_
    · simp only[List.length_append,List.length_map,List.length_cons,List.length_nil,List.length_take]
    · rw[gA,if_neg (by omega),hins]; first | (simp; done) | (simp; rfl)
theorem aT3 (l:List bC) (b:List Sp) (hl:l.length*32+32≤140737488355328) (hb0:b.length≤1000000000) (hlb:l.length*(dY b).length*32≤140737488351232) :Den Tryz.prog 29 [.sl 4 (l.map stC),.sl 2 (b.map spC)]  (·=.sl 4 ((aFq l b).map stC)):=by
 have hnb:=tT b
 refine aR Tryz.func29 rfl (Nat.le_of_ble_eq_true rfl) (fun w0 A hf=>(aC (fun K1 hK1=>(aB (aG rfl (bD) (aD (hK1 _ (aC (fun K2 hK2=>(aB (kW hf 4 rfl rfl rfl (aD (hK2 _ (aC (fun K3 hK3=>(aB ?_))))))))))))))))
 refine aE aA 1 rfl (aJ hf rfl (aO rfl rfl wS rfl (aDm b (by omega))) (aE aA 1 rfl (aD (hK3 _ (aC (fun K4 hK4=>(aC (fun K5 hK5=>(aB (aE aA 3 rfl (aD (hK5 _ (aM (bM (ι:=Nat×List bC) (fun(⟨k,out⟩:Nat×List bC)=>⟨46,[(1,.sl 2 ((dY b).map spC)),(5,.own 5 4 0 out.length),(13,.sl 4 (l.map stC)),(14,.s (.int .i64 ((l.map stC).length:Nat))),(15,.s (.int .i64 (k:Nat)))],[(5,.buf 4 (out.map stC))]⟩) (fun(⟨k,out⟩:Nat×List bC)=>k≤l.length∧out=pO (l.take k) (dY b)∧out.length≤k*(dY b).length) (fun(⟨k,out⟩:Nat×List bC)=>l.length - k) (0,[]) ?_ ?_ ?_))))))))))))))
 · exact⟨Nat.zero_le _,rfl,Nat.zero_le _⟩
 · exact cN rfl
 ·
  rintro ⟨k,out⟩ hC
  obtain ⟨h1,h2,h3⟩:=hC
  refine aC (fun K6 hK6=>(aB (aE aA 1 rfl (aD (hK6 _ (aC (fun K7 hK7=>(aK rfl (fun hc1=>?_) (fun hc1=>?_)))))))))
  ·
   simp only[bs] at hc1
   refine aL (hK7 _ (aC (fun K8 hK8=>(aM (aC (fun K9 hK9=>(aB ?_)))))))
   refine aG rfl (aY rfl rfl cB bA (by first | exact ixm (by omega) | assumption | exact⟨by decide,rfl⟩)) ?_
   refine aE aA 1 rfl (cA hf rfl eE rfl bA rfl rfl rfl rfl (lf rfl) (aD (hK9 _ (aC (fun K10 hK10=>(aB (aE aA 3 rfl (aD (hK10 _ (aM (bM (ι:=Nat×List bC) (fun(⟨j,o⟩:Nat×List bC)=>⟨46,[(1,.sl 2 ((dY b).map spC)),(5,.own 5 4 0 o.length),(7,.adr (stC l[k])),(13,.sl 4 (l.map stC)),(14,.s (.int .i64 ((l.map stC).length:Nat))),(15,.s (.int .i64 (k:Nat))),(19,.sl 2 ((dY b).map spC)),(20,.s (.int .i64 (((dY b).map spC).length:Nat))),(21,.s (.int .i64 (j:Nat)))],[(5,.buf 4 (o.map stC))]⟩) (fun(⟨j,o⟩:Nat×List bC)=>j≤(dY b).length∧o=out++((dY b).take j).flatMap (rC l[k])∧o.length≤k*(dY b).length+j) (fun(⟨j,o⟩:Nat×List bC)=>(dY b).length - j) (0,out) ?_ ?_ ?_)))))))))))
   · exact⟨Nat.zero_le _,by simp,by omega⟩
   · exact cN rfl
   ·
    rintro ⟨j,o⟩ hC
    obtain ⟨h4,h5,h6⟩:=hC
    refine aC (fun K11 hK11=>(aB (aE aA 1 rfl (aD (hK11 _ (aC (fun K12 hK12=>(aK rfl (fun hc2=>?_) (fun hc2=>?_)))))))))
    ·
     simp only[bs] at hc2
     refine aL (hK12 _ (aC (fun K13 hK13=>(aM (aC (fun K14 hK14=>(aB ?_)))))))
     have hm:=Nat.mul_le_mul_right (dY b).length (show k+1≤l.length by omega)
     rw[Nat.add_mul,Nat.one_mul] at hm
     have hj:j<(dY b).length:=by omega
     refine aG rfl (aY rfl rfl iZ dP (by first | exact ixm (by omega) | assumption | exact⟨by decide,rfl⟩)) ?_
     refine aE aA 1 rfl (cA hf rfl fW rfl dP rfl rfl rfl rfl (lf rfl) (aD (hK14 _ (aC (fun K15 hK15=>(aB (aE aA 3 rfl (aJ hf rfl (aO rfl rfl wR rfl (zD l[k].1 (dY b)[j])) (cA hf rfl fW rfl dP rfl rfl rfl rfl (lf rfl) (aD (hK15 _ (aC (fun K16 hK16=>(aB ?_))))))))))))))
     refine aE aA 1 rfl (aJ hf rfl (aO rfl rfl lI rfl (pC (gZ l[k].1 (dY b)[j]))) (aE aA 1 rfl (aD (hK16 _ (aK rfl (fun hc3=>?_) (fun hc3=>?_))))))
     ·
      simp only[bs] at hc3
      refine aB (aE aA 6 rfl (aG rfl (bO rfl eE rO (l3 rfl) rfl) (aJ hf rfl (aP gW rfl rfl rfl rfl (l2 rfl)) (aZ hf rfl gW rfl rfl rfl (.inl rfl) (by rw[List.length_map]) rfl (by first | rfl | simp [dJ,bG]) (by first | (simp only[maxLen,List.length_map,List.length_append,List.length_cons,List.length_nil]; omega) | (simp [maxLen] <;> omega)) (by first | (simp only[List.length_map,List.length_append,List.length_cons,List.length_nil]; omega) | (simp <;> omega)) ?_))))
      refine aU (cM [1,7,13,14,15,19,20,21,40] rfl) (aE aA 1 rfl ?_)
      refine bH ?_
      refine hK13 _ (aB ?_)
      refine aG rfl (bK rfl rfl (by omega) (by omega)) ?_
      refine aE aA 1 rfl (aD ?_)
      exact⟨(j+1,o++[(gZ l[k].1 (dY b)[j],l[k].2)]),⟨by omega,by rw[h5,jU _ _ j (by omega),aP6 (by omega),List.append_assoc],by rw[List.length_append]; simp only[List.length_cons,List.length_nil]; omega⟩,by simp only; omega,cF ⟨rfl,(by rw[List.length_append]; rfl),rfl,rfl,rfl,rfl,rfl,rfl,rfl,trivial⟩ (by rw[List.map_append]; rfl)⟩
     ·
      simp only[bs] at hc3
      refine aL (hK13 _ (aB ?_))
      refine aG rfl (bK rfl rfl (by omega) (by omega)) ?_
      refine aE aA 1 rfl (aD ?_)
      exact⟨(j+1,o),⟨by omega,by rw[h5,jU _ _ j (by omega),aP5 (by omega),List.append_nil],by omega⟩,by simp only; omega,cF ⟨rfl,rfl,rfl,rfl,rfl,rfl,rfl,rfl,rfl,trivial⟩ rfl⟩
    ·
     simp only[bs] at hc2
     refine aX (hK8 _ (aB ?_))
     refine aG rfl (bK rfl rfl (by omega) (by omega)) ?_
     refine aE aA 1 rfl (aD ?_)
     exact⟨(k+1,o),⟨by omega,by rw[h5,aKm (by omega),h2,List.take_of_length_le (show (dY b).length≤j by omega)],by rw[Nat.add_mul,Nat.one_mul]; omega⟩,by simp only; omega,cF ⟨rfl,rfl,rfl,rfl,rfl,trivial⟩ rfl⟩
  ·
   simp only[bs] at hc1
   refine aX (hK4 _ (aC (fun K17 hK17=>(aB ?_))))
   have hk:k=l.length:=by omega
   have hm:=Nat.mul_le_mul_right (dY b).length (show k≤l.length by omega)
   refine aE aA 1 rfl (gG hf 5 rfl rfl rfl rfl rfl aEq (qB wQ cmpS_tri (fun x y=>aEc x y) out _ rfl (by omega)) ?_)
   rintro r zs ⟨t,ht1,ht2,rfl⟩
   refine aD (hK17 _ (aC (fun K18 hK18=>(aB (aE aA 2 rfl (aD (hK18 _ (aI ?_))))))))
   refine⟨_,rfl,?_⟩
   refine(cJ (g:=5) rfl (by rw[List.length_map,ht1.length_eq])).trans ?_
   rw[aCq ht1 ht2,h2,List.take_of_length_le (by omega)]; rfl
end Go.Proofs.YtpkanhklapfajaaGreat
set_option linter.unusedVariables false
set_option linter.unusedSimpArgs false
namespace Go.Proofs.YtpkanhklapfajaaGreat
open Go Go.Abs
theorem zZ (l:List Se) (u:ByteArray) (t:Int) (hl:l.length*40+40≤140737488355328) :Den Tryz.prog 97 [.sl 4 (l.map seC),.s (.string u),.s (.int .i64 t)]  (·=.sl 4 ((eG l u t).map stC)):=by
 refine aR Tryz.func97 rfl (Nat.le_of_ble_eq_true rfl) (fun w0 A hf=>(aC (fun K1 hK1=>(aB (aG rfl (bD) (aD (hK1 _ (aC (fun K2 hK2=>(aB (kW hf 4 rfl rfl rfl (aD (hK2 _ (aC (fun K3 hK3=>(aC (fun K4 hK4=>?_)))))))))))))))))
 refine aB (aE aA 3 rfl (aD (hK4 _ (aM (bM (ι:=Nat×List bC) (fun(⟨k,out⟩:Nat×List bC)=>⟨38,[(1,.s (.string u)),(2,.s (.int .i64 t)),(7,.own 7 4 0 out.length),(11,.sl 4 (l.map seC)),(12,.s (.int .i64 ((l.map seC).length:Nat))),(13,.s (.int .i64 (k:Nat)))],[(7,.buf 4 (out.map stC))]⟩) (fun(⟨k,out⟩:Nat×List bC)=>k≤l.length∧out=gM (l.take k) u t∧out.length≤k) (fun(⟨k,out⟩:Nat×List bC)=>l.length - k) (0,[]) ?_ ?_ ?_)))))
 · exact⟨Nat.zero_le _,rfl,Nat.le_refl _⟩
 · exact cN rfl
 ·
  rintro ⟨k,out⟩ hC
  obtain ⟨h1,h2,h3⟩:=hC
  refine aC (fun K5 hK5=>(aB (aE aA 1 rfl (aD (hK5 _ (aC (fun K6 hK6=>(aK rfl (fun hc1=>?_) (fun hc1=>?_)))))))))
  ·
   simp only[bs,eB] at hc1
   refine aL (hK6 _ (aC (fun K7 hK7=>(aM (aC (fun K8 hK8=>(aB ?_)))))))
   refine aG rfl (aY rfl rfl eR dM (by first | exact ixm (by omega) | assumption | exact⟨by decide,rfl⟩)) ?_
   refine aE aA 1 rfl (cA hf rfl rN rfl dM rfl rfl rfl rfl (lf rfl) (aD (hK8 _ (aC (fun K9 hK9=>(aB (aE aA 2 rfl (aJ hf rfl (aO rfl rfl uK rfl (vS l[k] t)) (cA hf rfl eE rfl bA rfl rfl rfl rfl (lf rfl) (aD (hK9 _ (aC (fun K10 hK10=>(aB ?_))))))))))))))
   refine aE aA 5 rfl (aW rfl rfl rfl (fun hg2=>?_) (fun hg2=>?_))
   ·
    simp only[bs,eB] at hg2
    refine aG rfl (bW rfl aA2 dP rfl) ?_
    refine aE aA 1 rfl (bE rfl rfl rfl (aJ hf rfl (aO rfl rfl lI rfl (pC (eB l[k] t).1)) (aE aA 2 rfl (aD (hK10 _ (aK rfl (fun hc3=>?_) (fun hc3=>?_)))))))
    ·
     simp only[bs,eB] at hc3
     refine aB (aE aA 2 rfl (aJ hf rfl (aP gW rfl rfl rfl rfl (l2 rfl)) (aZ hf rfl gW rfl rfl rfl (.inl rfl) (by rw[List.length_map]) rfl (by first | rfl | simp [dJ,bG]) (by first | (simp only[maxLen,List.length_map,List.length_append,List.length_cons,List.length_nil]; omega) | (simp [maxLen] <;> omega)) (by first | (simp only[List.length_map,List.length_append,List.length_cons,List.length_nil]; omega) | (simp <;> omega)) ?_)))
     refine aU (cM [1,2,11,12,13,33] rfl) (aE aA 1 rfl ?_)
     refine bH ?_
     refine hK7 _ (aB ?_)
     refine aG rfl (bK rfl rfl (by omega) (by omega)) ?_
     refine aE aA 1 rfl (aD ?_)
     exact⟨(k+1,out++[eB l[k] t]),⟨by omega,by rw[h2,gM,gM,jU _ _ k (by omega),if_pos ⟨(show pJ u l[k]=true from by simp_all[pJ,toList_inj]),by first | omega | exact of_decide_eq_false hc3⟩],by rw[List.length_append]; simp only[List.length_cons,List.length_nil]; omega⟩,by simp only; omega,cF ⟨rfl,rfl,(by first | rfl | (rw[List.length_append]; rfl)),rfl,rfl,rfl,trivial⟩ (by rw[List.map_append]; rfl)⟩
    ·
     simp only[bs,eB] at hc3
     refine aL (hK7 _ (aB ?_))
     refine aG rfl (bK rfl rfl (by omega) (by omega)) ?_
     refine aE aA 1 rfl (aD ?_)
     exact⟨(k+1,out),⟨by omega,by rw[h2,gM,gM,jU _ _ k (by omega),if_neg (by first | exact(fun hh=>(show ¬ pJ u l[k]=true from by simp_all[pJ,toList_inj]) hh.1) | (rintro ⟨_,hh⟩; exact hh (by first | omega | exact of_decide_eq_true hc3))),List.append_nil],by omega⟩,by simp only; omega,cF ⟨rfl,rfl,(by first | rfl | (rw[List.length_append]; rfl)),rfl,rfl,rfl,trivial⟩ rfl⟩
   ·
    simp only[bs,eB] at hg2
    refine aE aA 4 rfl (aD (hK10 _ (bT rfl (aL (hK7 _ (aB ?_))))))
    refine aG rfl (bK rfl rfl (by omega) (by omega)) ?_
    refine aE aA 1 rfl (aD ?_)
    exact⟨(k+1,out),⟨by omega,by rw[h2,gM,gM,jU _ _ k (by omega),if_neg (by first | exact(fun hh=>(show ¬ pJ u l[k]=true from by simp_all[pJ,toList_inj]) hh.1) | (rintro ⟨_,hh⟩; exact hh (by first | omega | exact of_decide_eq_true hc3))),List.append_nil],by omega⟩,by simp only; omega,cF ⟨rfl,rfl,(by first | rfl | (rw[List.length_append]; rfl)),rfl,rfl,rfl,trivial⟩ rfl⟩
  ·
   simp only[bs,eB] at hc1
   refine aX (hK3 _ (aC (fun K11 hK11=>(aB (aE aA 1 rfl (gG hf 7 rfl rfl rfl rfl rfl aEq (qB wQ cmpS_tri (fun x y=>aEc x y) out _ rfl (by omega)) ?_))))))
   rintro r zs ⟨t0,ht1,ht2,rfl⟩
   refine aD (hK11 _ (aC (fun K12 hK12=>(aB (aE aA 2 rfl (aD (hK12 _ (aI ?_))))))))
   refine⟨_,rfl,?_⟩
   refine(cJ (g:=7) rfl (by rw[List.length_map,ht1.length_eq])).trans ?_
   rw[eG,aCq ht1 ht2,h2,List.take_of_length_le (by omega)]
theorem aC5 (l:List Se) (u:ByteArray) (t:Int) (hl:l.length*40+40≤140737488355328) :Den Tryz.prog 57 [.sl 4 (l.map seC),.s (.string u),.s (.int .i64 t)]  (·=.sl 4 ((eG l u t).map stC)):=by
 refine aR Tryz.func57 rfl (Nat.le_of_ble_eq_true rfl) (fun w0 A hf=>(aC (fun K1 hK1=>(aB (aG rfl (bD) (aD (hK1 _ (aC (fun K2 hK2=>(aB (aG rfl (qY (k:=4)) (aD (hK2 _ (aC (fun K3 hK3=>(aC (fun K4 hK4=>?_)))))))))))))))))
 refine aB (aE aA 1 rfl (aD (hK4 _ (aM (bM (ι:=Nat×List bC) (fun(⟨k,out⟩:Nat×List bC)=>⟨31,[(0,.sl 4 (l.map seC)),(1,.s (.string u)),(2,.s (.int .i64 t)),(7,.sl 4 (out.map stC)),(8,.s (.int .i64 (k:Nat)))],[]⟩) (fun(⟨k,out⟩:Nat×List bC)=>k≤l.length∧out=(l.take k).foldl (iQ u t) []∧out.length≤k) (fun(⟨k,out⟩:Nat×List bC)=>l.length - k) (0,[]) ?_ ?_ ?_)))))
 · exact⟨Nat.zero_le _,rfl,Nat.le_refl _⟩
 · exact cN rfl
 ·
  rintro ⟨k,out⟩ hC
  obtain ⟨h1,h2,h3⟩:=hC
  refine aC (fun K5 hK5=>(aC (fun K6 hK6=>(aB (aE aA 4 rfl (aD (hK6 _ (aK rfl (fun hc1=>?_) (fun hc1=>?_)))))))))
  ·
   simp only[bs] at hc1
   refine aL (hK5 _ (aC (fun K7 hK7=>(aM (aC (fun K8 hK8=>(aB (aE aA 2 rfl ?_))))))))
   refine aG rfl (aY rfl rfl nZ lC (by first | exact ixm (by omega) | assumption | exact⟨by decide,rfl⟩)) ?_
   refine aE aA 4 rfl (aD (hK8 _ (aK rfl (fun hc2=>?_) (fun hc2=>?_))))
   ·
    simp only[bs] at hc2
    refine aB (aE aA 3 rfl ?_)
    refine aG rfl (aY rfl rfl nZ lC (by first | exact ixm (by omega) | assumption | exact⟨by decide,rfl⟩)) ?_
    refine aE aA 2 rfl (aJ hf rfl (aO rfl rfl aM0 rfl (aE8 l[k] t)) (aJ hf rfl (aO rfl rfl aEs rfl (aAf out (eB l[k] t) (by omega))) (aE aA 1 rfl ?_)))
    refine bH ?_
    refine hK7 _ (aB (aE aA 1 rfl ?_))
    refine aG rfl (bK rfl rfl (by omega) (by omega)) ?_
    refine aE aA 1 rfl (aD ?_)
    exact⟨(k+1,gA out (eB l[k] t)),⟨by omega,by rw[dU l (iQ u t) [] k (by omega),← h2,iQ,if_pos (show pJ u l[k]=true from by simp_all[pJ,toList_inj])],by have:=uF out (eB l[k] t); show (gA out (eB l[k] t)).length≤k+1; omega⟩,by simp only; omega,gN ⟨rfl,rfl,rfl,rfl,rfl,trivial⟩⟩
   ·
    simp only[bs] at hc2
    refine aL (hK7 _ (aB (aE aA 1 rfl ?_)))
    refine aG rfl (bK rfl rfl (by omega) (by omega)) ?_
    refine aE aA 1 rfl (aD ?_)
    exact⟨(k+1,out),⟨by omega,by rw[dU l (iQ u t) [] k (by omega),← h2,iQ,if_neg (show ¬ pJ u l[k]=true from by simp_all[pJ,toList_inj])],by omega⟩,by simp only; omega,gN ⟨rfl,rfl,rfl,rfl,rfl,trivial⟩⟩
  ·
   simp only[bs] at hc1
   refine aX (hK3 _ (aC (fun K9 hK9=>(aB (aE aA 2 rfl (aD (hK9 _ (aI ?_))))))))
   refine⟨_,rfl,?_⟩
   show AV.sl 4 (out.map stC)=_
   rw[h2,List.take_of_length_le (by omega),aNf]
end Go.Proofs.YtpkanhklapfajaaGreat
set_option linter.unusedVariables false
set_option linter.unusedSimpArgs false
namespace Go.Proofs.YtpkanhklapfajaaGreat
open Go Go.Abs
theorem eT (l:List Se) (hl:l.length*40+40≤140737488355328) :Den Tryz.prog 45 [.sl 4 (l.map seC)]  (·=.sl 4 (l.map seC)):=by
 refine aR Tryz.func45 rfl (Nat.le_of_ble_eq_true rfl) (fun w0 A hf=>(aC (fun K1 hK1=>(aB (aG rfl (bD) (aD (hK1 _ (aC (fun K2 hK2=>(aB (kW hf 4 rfl rfl rfl (aD (hK2 _ (aC (fun K3 hK3=>(aC (fun K4 hK4=>?_)))))))))))))))))
 refine aB (aE aA 3 rfl (aD (hK4 _ (aM (bM (ι:=Nat) (fun k=>⟨18,[(3,.own 3 4 0 (l.take k).length),(6,.sl 4 (l.map seC)),(7,.s (.int .i64 ((l.map seC).length:Nat))),(8,.s (.int .i64 (k:Nat)))],[(3,.buf 4 ((l.take k).map seC))]⟩) (fun k=>k≤l.length) (fun k=>l.length - k) 0 ?_ ?_ ?_)))))
 · exact Nat.zero_le _
 · exact cN rfl
 ·
  rintro k hC
  refine aC (fun K5 hK5=>(aB (aE aA 1 rfl (aD (hK5 _ (aC (fun K6 hK6=>(aK rfl (fun hc1=>?_) (fun hc1=>?_)))))))))
  ·
   simp only[bs] at hc1
   refine aL (hK6 _ (aC (fun K7 hK7=>(aM (aC (fun K8 hK8=>(aB ?_)))))))
   refine aG rfl (aY rfl rfl nZ lC (by first | exact ixm (by omega) | assumption | exact⟨by decide,rfl⟩)) ?_
   refine aE aA 1 rfl (cA hf rfl aK8 rfl lC rfl rfl rfl rfl (lf rfl) (aD (hK8 _ (aB ?_))))
   have htl:(l.take k).length=k:=by rw[List.length_take]; omega
   refine aE aA 2 rfl (aJ hf rfl (aP kT rfl rfl rfl rfl (l2 rfl)) (aZ hf rfl kT rfl rfl rfl (.inl rfl) (by rw[List.length_map]) rfl (by first | rfl | simp [dJ,bG]) (by first | (simp only[maxLen,List.length_map,List.length_append,List.length_cons,List.length_nil]; omega) | (simp [maxLen] <;> omega)) (by first | (simp only[List.length_map,List.length_append,List.length_cons,List.length_nil]; omega) | (simp <;> omega)) ?_))
   refine aU (cM [6,7,8,15] rfl) (aE aA 1 rfl ?_)
   refine bH ?_
   refine hK7 _ (aB ?_)
   refine aG rfl (bK rfl rfl (by omega) (by omega)) ?_
   refine aE aA 1 rfl (aD ?_)
   exact⟨k+1,by omega,by omega,cF ⟨(by rw[oN l k (by omega)]; rfl),rfl,rfl,rfl,trivial⟩ (by rw[nI l seC k (by omega)]; rfl)⟩
  ·
   simp only[bs] at hc1
   refine aX (hK3 _ (aC (fun K9 hK9=>(aB (aE aA 2 rfl (aD (hK9 _ (aI ?_))))))))
   refine⟨_,rfl,?_⟩
   refine(cJ (g:=3) rfl (by rw[List.length_map])).trans ?_
   rw[List.take_of_length_le (by omega)]
theorem aE4 (l:List Se) (u:ByteArray) (hl:l.length*40+40≤140737488355328) :Den Tryz.prog 158 [.sl 4 (l.map seC),.s (.string u)]  (·=.sl 4 ((l.filter (fun e=>!pJ u e)).map seC)):=by
 refine aR Tryz.func158 rfl (Nat.le_of_ble_eq_true rfl) (fun w0 A hf=>(aC (fun K1 hK1=>(aB (aJ hf rfl (cE rfl rfl (lf rfl)) (aG rfl (bD) (aD (hK1 _ (aC (fun K2 hK2=>(aB (aE aA 1 rfl (iB hf rfl rfl rfl rfl rfl gT rfl (iH l (by omega)) ?_)))))))))))))
 rintro _ rfl
 refine aG rfl (iI rfl) (gG hf 6 rfl rfl rfl rfl rfl aLv (aBi aLu rfl (fun _=>rfl) (fun e=>pJ u e) l _ (by rw[List.length_map]) (by omega) (fun x _=>aBk x u)) ?_)
 rintro r zs ⟨rfl,rfl⟩
 refine aE aA 1 rfl (aD (hK2 _ (aI ?_)))
 refine⟨_,rfl,?_⟩
 exact cJ (g:=6) rfl (by rw[List.length_map])
end Go.Proofs.YtpkanhklapfajaaGreat
set_option linter.unusedVariables false
set_option linter.unusedSimpArgs false
namespace Go.Proofs.YtpkanhklapfajaaGreat
open Go Go.Abs
theorem aRn (l:List En) (p:Pr) (t:Int) (hl:l.length*48+48≤140737488355328) :Den Tryz.prog 113 [.sl 4 (l.map enC),.agg (prC p),.s (.int .i64 t)]  (·=.tup [.sl 4 ((if onB l p then [] else jQ l p t).map enC),.s (.int .i64 (if onB l p then 90 else 0))]):=by
 refine aR Tryz.func113 rfl (Nat.le_of_ble_eq_true rfl) (fun w0 A hf=>(aC (fun K1 hK1=>(aB (aJ hf rfl (cE rfl rfl (lf rfl)) (aG rfl (bD) (aE aA 1 rfl (aD (hK1 _ (aC (fun K2 hK2=>(aC (fun K3 hK3=>(aB (aE aA 2 rfl (aJ hf rfl (aO rfl rfl aMd rfl (aJ6 _ _ (by omega))) ?_))))))))))))))))
 refine aD (hK3 _ (aK rfl (fun hc1=>?_) (fun hc1=>?_)))
 ·
  refine aC (fun K4 hK4=>(aB (aG rfl (qY (k:=4)) (aE aA 1 rfl (aD (hK4 _ (aI ?_)))))))
  refine⟨_,rfl,?_⟩
  rw[show onB l p=true by assumption]; rfl
 ·
  refine aL (hK2 _ (aC (fun K5 hK5=>(aB (aE aA 2 rfl (aG rfl (bO rfl fW kR (l3 rfl) rfl) (aG rfl (bO rfl lU aEk (l3 rfl) rfl) (cA hf rfl lU rfl eK rfl rfl rfl rfl (lf rfl) (aD (hK5 _ (aC (fun K6 hK6=>(aB (aE aA 1 rfl ?_))))))))))))))
  refine aG rfl (iI rfl) (aJ hf rfl (aO rfl rfl uL rfl (pL aMc rfl (fun x=>decide (0<mD x (p,(t,1099511627776)))) l (by omega) (fun x _=>aNz x (p,(t,1099511627776))))) (aE aA 1 rfl (aD (hK6 _ (aC (fun K7 hK7=>(aC (fun K8 hK8=>(aB (aE aA 2 rfl (aD (hK8 _ (aK rfl (fun hc2=>?_) (fun hc2=>?_))))))))))))))
  ·
   simp only[bs] at hc2
   obtain ⟨k,hk⟩:∃ k:Nat,k=l.length:=⟨_,rfl⟩
   have hno:∀ x∈l,¬ 0<mD x (p,(t,1099511627776)):=by
     rcases eL (fun x=>decide (0<mD x (p,(t,1099511627776)))) l with ⟨_,h⟩ | ⟨k',_,e,_⟩
     · intro x hx; simpa using h x hx
     · exfalso; omega
   have hins:=aHl (p,(t,1099511627776)) l k (by omega) (fun j hj _=>hno _ (List.getElem_mem hj)) (fun h=>by omega)
   refine aB (aE aA 2 rfl ?_)
   rw[List.length_map,← hk]
   refine aE aA 1 rfl (aD (hK7 _ (aC (fun K9 hK9=>(cU hf bF (by kernel_rfl) rfl (aT aA 2 rfl (bI [(24,_),(25,_)] rfl rfl ⟨⟨rfl,rfl⟩,⟨rfl,rfl⟩,trivial⟩ rfl (dE rfl gF eK rfl (kH rfl (by omega)) (by omega) (by simp only[List.length_map,Int.toNat_natCast] <;> omega) (jW (k:=k) (by omega))) ?_)))))))
   refine aT aA 1 rfl (bL [(27,_)] rfl rfl ⟨⟨rfl,rfl⟩,trivial⟩ rfl (aP jN rfl rfl rfl rfl (l2 rfl)) (aT aA 2 rfl (bI [(29,_),(30,_)] rfl rfl ⟨⟨rfl,rfl⟩,⟨rfl,rfl⟩,trivial⟩ rfl (dE rfl gF eK (kH rfl (by omega)) rfl (by simp only[List.length_map,Int.toNat_natCast] <;> omega) (by omega) (gX (k:=k) (by omega))) ?_)))
   refine bL [(26,_),(28,_),(31,_)] rfl rfl ⟨⟨rfl,rfl⟩,⟨rfl,rfl⟩,⟨rfl,rfl⟩,trivial⟩ rfl (aP aE2 rfl rfl rfl rfl (l2 rfl)) (bL [(32,_)] rfl rfl ⟨⟨rfl,rfl⟩,trivial⟩ rfl (aO rfl rfl aBb rfl ((show Den Tryz.prog _ _ (·=.sl 4 ((l.take k++(p,(t,1099511627776))::l.drop k).map enC)) from (cQ (aAr [l.take k,[(p,(t,1099511627776))],l.drop k] (by simp) (by simp only[List.flatten_cons,List.flatten_nil,List.length_append,List.length_take,List.length_drop,List.length_cons,List.length_nil]; omega))).mono fun r h=>h.trans (by simp)))) ?_)
   refine aT aA 2 rfl (cY [6,7] rfl rfl rfl (hK9 _ (aI ?_)))
   refine⟨_,rfl,?_⟩
   rw[show onB l p=false from by first | assumption | (simp at *; assumption),← hins]; rfl
  ·
   simp only[bs] at hc2
   obtain ⟨k,hk,ek,hk1,hk2⟩:∃ k:Nat,∃ h:k<l.length,pI (fun x=>decide (0<mD x (p,(t,1099511627776)))) l=(k:Nat)∧0<mD l[k] (p,(t,1099511627776))∧∀ (j:Nat) (hj:j<l.length),j<k→¬ 0<mD l[j] (p,(t,1099511627776)):=by
     rcases eL (fun x=>decide (0<mD x (p,(t,1099511627776)))) l with ⟨e,_⟩ | ⟨k',h1,e,h2,h3⟩
     · exfalso; omega
     · exact⟨k',h1,e,by simpa using h2,fun j hj hjk=>by simpa using h3 j hj hjk⟩
   rw[ek]
   have hins:=aHl (p,(t,1099511627776)) l k (by omega) hk2 (fun _=>hk1)
   refine aL (hK7 _ (aC (fun K10 hK10=>(cU hf bF (by kernel_rfl) rfl (aT aA 2 rfl (bI [(24,_),(25,_)] rfl rfl ⟨⟨rfl,rfl⟩,⟨rfl,rfl⟩,trivial⟩ rfl (dE rfl gF eK rfl (kH rfl (by omega)) (by omega) (by simp only[List.length_map,Int.toNat_natCast] <;> omega) (jW (k:=k) (by omega))) ?_))))))
   refine aT aA 1 rfl (bL [(27,_)] rfl rfl ⟨⟨rfl,rfl⟩,trivial⟩ rfl (aP jN rfl rfl rfl rfl (l2 rfl)) (aT aA 2 rfl (bI [(29,_),(30,_)] rfl rfl ⟨⟨rfl,rfl⟩,⟨rfl,rfl⟩,trivial⟩ rfl (dE rfl gF eK (kH rfl (by omega)) rfl (by simp only[List.length_map,Int.toNat_natCast] <;> omega) (by omega) (gX (k:=k) (by omega))) ?_)))
   refine bL [(26,_),(28,_),(31,_)] rfl rfl ⟨⟨rfl,rfl⟩,⟨rfl,rfl⟩,⟨rfl,rfl⟩,trivial⟩ rfl (aP aE2 rfl rfl rfl rfl (l2 rfl)) (bL [(32,_)] rfl rfl ⟨⟨rfl,rfl⟩,trivial⟩ rfl (aO rfl rfl aBb rfl ((show Den Tryz.prog _ _ (·=.sl 4 ((l.take k++(p,(t,1099511627776))::l.drop k).map enC)) from (cQ (aAr [l.take k,[(p,(t,1099511627776))],l.drop k] (by simp) (by simp only[List.flatten_cons,List.flatten_nil,List.length_append,List.length_take,List.length_drop,List.length_cons,List.length_nil]; omega))).mono fun r h=>h.trans (by simp)))) ?_)
   refine aT aA 2 rfl (cY [6,7] rfl rfl rfl (hK10 _ (aI ?_)))
   refine⟨_,rfl,?_⟩
   rw[show onB l p=false from by first | assumption | (simp at *; assumption),← hins]; rfl
end Go.Proofs.YtpkanhklapfajaaGreat
set_option linter.unusedVariables false
set_option linter.unusedSimpArgs false
namespace Go.Proofs.YtpkanhklapfajaaGreat
open Go Go.Abs
theorem of_den (e:En) (p:Pr) :Den Tryz.prog 104 [.agg (enC e),.agg (prC p)]  (·=.s (.bool (ofB p e))):=by
 refine aR Tryz.func104 rfl (Nat.le_of_ble_eq_true rfl) (fun w0 A hf=>(aC (fun K1 hK1=>(aB (aJ hf rfl (cE rfl rfl (lf rfl)) (aJ hf rfl (cE rfl rfl (lf rfl)) (aE aA 1 rfl (aD (hK1 _ (aC (fun K2 hK2=>(aB (aE aA 6 rfl (aW rfl rfl rfl (fun hg1=>?_) (fun hg1=>?_)))))))))))))))
 ·
  simp only[bs] at hg1
  refine aG rfl (bW rfl yK cO rfl) ?_
  refine aE aA 6 rfl (aD (hK2 _ (aI ?_)))
  refine⟨_,rfl,?_⟩
  refine aQ ?_
  unfold ofB
  rw[Bool.eq_iff_iff]
  simp_all[Prod.ext_iff,toList_inj]
 ·
  simp only[bs] at hg1
  refine aE aA 6 rfl (aD (hK2 _ (aI ?_)))
  refine⟨_,rfl,?_⟩
  refine aQ ?_
  unfold ofB
  rw[Bool.eq_iff_iff]
  simp_all[Prod.ext_iff,toList_inj]
theorem aOg (a b:En) (h1:TS a.1.1) (h2:TS a.1.2) (h3:TS b.1.1) (h4:TS b.1.2) :Den Tryz.prog 93 [.agg (enC a),.agg (enC b)]  (·=.s (.bool (decide (mD a b<0)))):=by
 refine aR Tryz.func93 rfl (Nat.le_of_ble_eq_true rfl) (fun w0 A hf=>(aC (fun K1 hK1=>(aB (aJ hf rfl (cE rfl rfl (lf rfl)) (aJ hf rfl (cE rfl rfl (lf rfl)) (aE aA 1 rfl (aD (hK1 _ (aC (fun K2 hK2=>(aB (aE aA 4 rfl (aJ hf rfl (aO rfl rfl sQ rfl (Nm.refCmp_den _ _ (by first | assumption | exact(ht _ (List.getElem_mem _)).1 | exact(ht _ (List.getElem_mem _)).2) (by first | assumption | exact(ht _ (List.getElem_mem _)).1 | exact(ht _ (List.getElem_mem _)).2))) ?_))))))))))))))
 refine aE aA 1 rfl (aD (hK2 _ (aC (fun K3 hK3=>(aC (fun K4 hK4=>(aB (aE aA 2 rfl (aD (hK4 _ (aK rfl (fun hc1=>?_) (fun hc1=>?_))))))))))))
 ·
  simp only[bs] at hc1
  refine aC (fun K5 hK5=>(aB (aE aA 3 rfl (aD (hK5 _ (aI ?_))))))
  refine⟨_,rfl,?_⟩
  refine aQ ?_
  unfold mD qX uY
  simp only[orI,jB]
  rw[Bool.eq_iff_iff]
  (repeat' split) <;> simp_all <;> omega
 ·
  simp only[bs] at hc1
  refine aL (hK3 _ (aC (fun K6 hK6=>(aB (aE aA 4 rfl (aJ hf rfl (aO rfl rfl sQ rfl (Nm.refCmp_den _ _ (by first | assumption | exact(ht _ (List.getElem_mem _)).1 | exact(ht _ (List.getElem_mem _)).2) (by first | assumption | exact(ht _ (List.getElem_mem _)).1 | exact(ht _ (List.getElem_mem _)).2))) ?_))))))
  refine aE aA 1 rfl (aD (hK6 _ (aC (fun K7 hK7=>(aC (fun K8 hK8=>(aB (aE aA 2 rfl (aD (hK8 _ (aK rfl (fun hc2=>?_) (fun hc2=>?_))))))))))))
  ·
   simp only[bs] at hc2
   refine aC (fun K9 hK9=>(aB (aE aA 3 rfl (aD (hK9 _ (aI ?_))))))
   refine⟨_,rfl,?_⟩
   refine aQ ?_
   unfold mD qX uY
   simp only[orI,jB]
   rw[Bool.eq_iff_iff]
   (repeat' split) <;> simp_all <;> omega
  ·
   simp only[bs] at hc2
   refine aL (hK7 _ (aC (fun K10 hK10=>(aB (aE aA 6 rfl (aD (hK10 _ (aI ?_))))))))
   refine⟨_,rfl,?_⟩
   refine aQ ?_
   unfold mD qX uY
   simp only[orI,jB]
   rw[Bool.eq_iff_iff]
   (repeat' split) <;> simp_all <;> omega
end Go.Proofs.YtpkanhklapfajaaGreat
set_option linter.unusedVariables false
set_option linter.unusedSimpArgs false
namespace Go.Proofs.YtpkanhklapfajaaGreat
open Go Go.Abs
theorem aIi (l:List En) (u:ByteArray) (hl:l.length*48+48≤140737488355328) :Den Tryz.prog 159 [.sl 4 (l.map enC),.s (.string u)]  (·=.sl 4 ((l.filter fun e=>!aDx u e).map enC)):=by
 refine aR Tryz.func159 rfl (Nat.le_of_ble_eq_true rfl) (fun w0 A hf=>(aC (fun K1 hK1=>(aB (aJ hf rfl (cE rfl rfl (lf rfl)) (aG rfl (bD) (aD (hK1 _ (aC (fun K2 hK2=>(aB (aE aA 1 rfl (iB hf rfl rfl rfl rfl rfl nW rfl (pM _ (by omega)) ?_)))))))))))))
 rintro _ rfl
 refine aG rfl (iI rfl) (gG hf 6 rfl rfl rfl rfl rfl aMo (aBt aLt rfl (fun _=>rfl) (aDx u) l _ (by rw[List.length_map]) (by omega) (fun x _=>aGy x u)) ?_)
 rintro r zs ⟨rfl,rfl⟩
 refine aE aA 1 rfl (aD (hK2 _ (aI ?_)))
 refine⟨_,rfl,?_⟩
 exact cJ (g:=6) rfl (by rw[List.length_map])
theorem aAl (l:List En) (p:Pr) (hl:l.length*48+48≤140737488355328) :Den Tryz.prog 53 [.sl 4 (l.map enC),.agg (prC p)]  (·=.sl 2 (gB l p |>.map spC)):=by
 refine aR Tryz.func53 rfl (Nat.le_of_ble_eq_true rfl) (fun w0 A hf=>(aC (fun K1 hK1=>(aB (aJ hf rfl (cE rfl rfl (lf rfl)) (aG rfl (bD) (aD (hK1 _ (aC (fun K2 hK2=>(aB (kW hf 2 rfl rfl rfl (aD (hK2 _ (aC (fun K3 hK3=>?_))))))))))))))))
 refine aC (fun K4 hK4=>(aB (aE aA 3 rfl (aD (hK4 _ (aM (bM (ι:=Nat×List Sp) (fun(⟨k,out⟩:Nat×List Sp)=>⟨26,[(3,.adr (prC p)),(5,.own 5 2 0 out.length),(8,.sl 4 (l.map enC)),(9,.s (.int .i64 ((l.map enC).length:Nat))),(10,.s (.int .i64 (k:Nat)))],[(5,.buf 2 (out.map spC))]⟩) (fun(⟨k,out⟩:Nat×List Sp)=>k≤l.length∧out=(((l.take k).filter (ofB p)).map Prod.snd)∧out.length≤k) (fun(⟨k,out⟩:Nat×List Sp)=>l.length - k) (0,[]) ?_ ?_ ?_)))))))
 · exact⟨Nat.zero_le _,rfl,Nat.le_refl _⟩
 · exact cN rfl
 ·
  rintro ⟨k,out⟩ hC
  obtain ⟨h1,h2,h3⟩:=hC
  refine aC (fun K5 hK5=>(aB (aE aA 1 rfl (aD (hK5 _ (aC (fun K6 hK6=>(aK rfl (fun hc1=>?_) (fun hc1=>?_)))))))))
  ·
   simp only[bs] at hc1
   refine aL (hK6 _ (aC (fun K7 hK7=>(aM (aC (fun K8 hK8=>(aB ?_)))))))
   refine aG rfl (aY rfl rfl gF eK (by first | exact ixm (by omega) | assumption | exact⟨by decide,rfl⟩)) ?_
   refine aE aA 1 rfl (cA hf rfl lU rfl eK rfl rfl rfl rfl (lf rfl) (aD (hK8 _ (aC (fun K9 hK9=>(aB (aE aA 3 rfl (aG rfl (jE rfl rfl aLa (aeq_pr (x:=l[k].1) (y:=p))) (aD (hK9 _ (aK rfl (fun hc2=>?_) (fun hc2=>?_))))))))))))
   ·
    simp only[bs] at hc2
    refine aB (aE aA 3 rfl (aJ hf rfl (aP iA rfl rfl rfl rfl (l2 rfl)) (aZ hf rfl iA rfl rfl rfl (.inl rfl) (by rw[List.length_map]) rfl (by first | rfl | simp [dJ,bG]) (by first | (simp only[maxLen,List.length_map,List.length_append,List.length_cons,List.length_nil]; omega) | (simp [maxLen] <;> omega)) (by first | (simp only[List.length_map,List.length_append,List.length_cons,List.length_nil]; omega) | (simp <;> omega)) ?_)))
    refine aU (cM [3,8,9,10,22] rfl) (aE aA 1 rfl ?_)
    refine bH ?_
    refine hK7 _ (aB ?_)
    refine aG rfl (bK rfl rfl (by omega) (by omega)) ?_
    refine aE aA 1 rfl (aD ?_)
    exact⟨(k+1,out++[l[k].2]),⟨by omega,by rw[h2,aTx (by omega) (by simp_all[ofB]),List.map_append]; rfl,by rw[List.length_append]; simp only[List.length_cons,List.length_nil]; omega⟩,by simp only; omega,cF ⟨rfl,(by rw[List.length_append]; rfl),rfl,rfl,rfl,trivial⟩ (by rw[List.map_append]; rfl)⟩
   ·
    simp only[bs] at hc2
    refine aL (hK7 _ (aB ?_))
    refine aG rfl (bK rfl rfl (by omega) (by omega)) ?_
    refine aE aA 1 rfl (aD ?_)
    exact⟨(k+1,out),⟨by omega,by rw[h2,aTy (by omega) (by simp_all[ofB])],by omega⟩,by simp only; omega,cF ⟨rfl,rfl,rfl,rfl,rfl,trivial⟩ rfl⟩
  ·
   simp only[bs] at hc1
   refine aX (hK3 _ (aC (fun K10 hK10=>(aB (aU (mT (sl':=[(5,.sl 2 (out.map spC))]) ⟨⟨_,rfl,lG (g:=5) rfl (by rw[List.length_map])⟩,trivial⟩) ?_)))))
   refine aE aA 1 rfl (aJ hf rfl (aO rfl rfl wS rfl (aDm out (by omega))) (aE aA 1 rfl (aD (hK10 _ (aI ?_)))))
   refine⟨_,rfl,?_⟩
   show AV.sl 2 ((dY out).map spC)=_
   rw[h2,List.take_of_length_le (by omega)]; rfl
theorem tO (l:List En) (p:Pr) (hl:l.length≤100000000000) :Den Tryz.prog 55 [.sl 4 (l.map enC),.agg (prC p)]  (·=.sl 2 (gB l p |>.map spC)):=by
 refine aR Tryz.func55 rfl (Nat.le_of_ble_eq_true rfl) (fun w0 A hf=>(aC (fun K1 hK1=>(aB (aJ hf rfl (cE rfl rfl (lf rfl)) (aG rfl (bD) (aD (hK1 _ (aC (fun K2 hK2=>(aB (kW hf 2 rfl rfl rfl (aD (hK2 _ (aC (fun K3 hK3=>?_))))))))))))))))
 refine aC (fun K4 hK4=>(aB (aE aA 1 rfl (aD (hK4 _ (aM (bM (ι:=Nat×List Sp) (fun(⟨k,out⟩:Nat×List Sp)=>⟨35,[(0,.sl 4 (l.map enC)),(3,.adr (prC p)),(5,.own 5 2 0 out.length),(6,.s (.int .i64 (k:Nat)))],[(5,.buf 2 (out.map spC))]⟩) (fun(⟨k,out⟩:Nat×List Sp)=>k≤l.length∧out=(((l.take k).filter (ofB p)).map Prod.snd)∧out.length≤k) (fun(⟨k,out⟩:Nat×List Sp)=>l.length - k) (0,[]) ?_ ?_ ?_)))))))
 · exact⟨Nat.zero_le _,rfl,Nat.le_refl _⟩
 · exact cN rfl
 ·
  rintro ⟨k,out⟩ hC
  obtain ⟨h1,h2,h3⟩:=hC
  refine aC (fun K5 hK5=>(aC (fun K6 hK6=>(aB (aE aA 4 rfl (aD (hK6 _ (aK rfl (fun hc1=>?_) (fun hc1=>?_)))))))))
  ·
   simp only[bs] at hc1
   refine aL (hK5 _ (aC (fun K7 hK7=>(aM (aC (fun K8 hK8=>(cU hf bF (by kernel_rfl) rfl (aT aA 2 rfl ?_))))))))
   refine bI [(13,_),(14,_)] rfl rfl ⟨⟨rfl,rfl⟩,⟨rfl,rfl⟩,trivial⟩ rfl (aY rfl rfl lB gV (by first | exact ixm (by omega) | assumption | exact⟨by decide,rfl⟩)) ?_
   refine aT aA 2 rfl (bL [(16,_),(17,_)] rfl rfl ⟨⟨rfl,rfl⟩,⟨rfl,rfl⟩,trivial⟩ rfl (aO rfl rfl aM1 rfl (of_den _ _)) (cY [0,3,5,6,18] rfl rfl rfl (hK8 _ (aK rfl (fun hc2=>?_) (fun hc2=>?_)))))
   ·
    refine fO hf (L:=#[true,true,true,true,true,true,true,true,true,true,true,true,true,false,false]) 13 2 bF (by kernel_rfl) rfl (by kernel_rfl) rfl ?_
    refine aT aA 3 rfl ?_
    refine bI [(20,_),(21,_)] rfl rfl ⟨⟨rfl,rfl⟩,⟨rfl,rfl⟩,trivial⟩ rfl (aY rfl rfl lB gV (by first | exact ixm (by omega) | assumption | exact⟨by decide,rfl⟩)) ?_
    refine aT aA 4 rfl ?_
    refine bI [(25,_),(26,_)] rfl rfl ⟨⟨rfl,rfl⟩,⟨rfl,rfl⟩,trivial⟩ rfl (aY rfl rfl lB gV (by first | exact ixm (by omega) | assumption | exact⟨by decide,rfl⟩)) ?_
    refine aT aA 2 rfl (bI [(24,_),(29,_)] rfl rfl ⟨⟨rfl,rfl⟩,⟨rfl,rfl⟩,trivial⟩ rfl (bO rfl eA dF (l3 rfl) rfl) (bL [(30,_)] rfl rfl ⟨⟨rfl,rfl⟩,trivial⟩ rfl (aP aS rfl rfl rfl rfl (l2 rfl)) (pE [0,3,5,6,19,31] rfl rfl rfl ?_)))
    refine aH 13 [] (by kernel_rfl) ⟨?_,trivial⟩
    ·
     refine⟨_,rfl,rfl,(ao rfl (aZ hf rfl aS rfl rfl rfl (.inl rfl) (by rw[List.length_map]) rfl (by first | rfl | simp [dJ,bG]) (by first | (simp only[maxLen,List.length_map,List.length_append,List.length_cons,List.length_nil]; omega) | (simp [maxLen] <;> omega)) (by first | (simp only[List.length_map,List.length_append,List.length_cons,List.length_nil]; omega) | (simp <;> omega)) ?_))⟩
     refine aU (cM [0,3,5,6,32] rfl) (aF (aH 14 [] (by kernel_rfl) ⟨?_,trivial⟩))
     ·
      refine⟨_,rfl,rfl,(ao rfl (aE aA 1 rfl (aF (bS (by kernel_rfl) ?_))))⟩
      refine hK7 _ (aB (aE aA 1 rfl ?_))
      refine aG rfl (bK rfl rfl (by omega) (by omega)) ?_
      refine aE aA 1 rfl (aD ?_)
      exact⟨(k+1,out++[l[k].2]),⟨by omega,by rw[h2,aTx (by omega) (by simp_all[ofB]),List.map_append]; rfl,by rw[List.length_append]; simp only[List.length_cons,List.length_nil]; omega⟩,by simp only; omega,cF ⟨rfl,rfl,(by rw[List.length_append]; rfl),rfl,trivial⟩ (by rw[List.map_append]; rfl)⟩
   ·
    refine aL (hK7 _ (aB (aE aA 1 rfl ?_)))
    refine aG rfl (bK rfl rfl (by omega) (by omega)) ?_
    refine aE aA 1 rfl (aD ?_)
    exact⟨(k+1,out),⟨by omega,by rw[h2,aTy (by omega) (by simp_all[ofB])],by omega⟩,by simp only; omega,cF ⟨rfl,rfl,rfl,rfl,trivial⟩ rfl⟩
  ·
   simp only[bs] at hc1
   refine aX (hK3 _ (aC (fun K9 hK9=>(aB (aU (mT (sl':=[(5,.sl 2 (out.map spC))]) ⟨⟨_,rfl,lG (g:=5) rfl (by rw[List.length_map])⟩,trivial⟩) ?_)))))
   refine aE aA 1 rfl (aJ hf rfl (aO rfl rfl aBh rfl (aAd out (by omega))) (aE aA 1 rfl (aD (hK9 _ (aI ?_)))))
   refine⟨_,rfl,?_⟩
   show AV.sl 2 ((dY out).map spC)=_
   rw[h2,List.take_of_length_le (by omega)]; rfl
end Go.Proofs.YtpkanhklapfajaaGreat
set_option linter.unusedVariables false
set_option linter.unusedSimpArgs false
namespace Go.Abs
def aPp (x:List En) (p:Pr) (t:Int):List En:=if onB x p=true then kX x p t else jQ x p t
def aUt (x:List En) (a:Int):Prop:=aE7 x=true∧∀ e∈x,e.2.1≤a∧(e.2.2=1099511627776∨e.2.2≤a)∧TS e.1.1∧TS e.1.2
theorem ordE_eq {a b:En}:mD a b=0↔a.1=b.1∧a.2.1=b.2.1:=by
  rw[tS,rD,aDg]
  refine and_congr_right fun _=>?_
  unfold jB; (repeat' split) <;> omega
theorem xV {e:En}:∀ {l:List En},l.Pairwise RisR→(∀ x∈l,¬ 0<mD x e→RisR x e)→(∀ x∈l,0<mD x e→RisR e x)→(zI l e).Pairwise RisR
  | [],_,_,_=>by simp [zI]
  | x::l,h,h1,h2=>by
    obtain ⟨hx,hl⟩:=List.pairwise_cons.1 h
    rw[zI]
    split
    · rename_i h0
      refine List.pairwise_cons.2 ⟨fun y hy=>?_,h⟩
      rcases List.mem_cons.1 hy with rfl | hy
      · exact h2 _ (by simp) h0
      · refine h2 y (by simp [hy]) ?_
        have e1:=ordE_tri.lt_tr (show mD e x<0 by have:=ordE_tri.swap e x; omega) (hx y hy).1
        have:=ordE_tri.swap e y; omega
    · rename_i h0
      refine List.pairwise_cons.2 ⟨fun y hy=>?_,xV hl (fun z hz=>h1 z (by simp [hz])) (fun z hz=>h2 z (by simp [hz]))⟩
      rcases uA.1 hy with rfl | hy
      · exact h1 x (by simp) h0
      · exact hx y hy
theorem xG {p:Pr} {t:Int} {y:En}:∀ {l:List En},y∈kX l p t→y∈l∨∃ e∈l,gK p e=true∧e.2.1<t∧y=(e.1,(e.2.1,t))
  | [],h=>by simp [kX] at h
  | x::l,h=>by
    rw[kX] at h
    split at h
    · rename_i hf
      rcases List.mem_append.1 h with h | h
      · unfold tL at h
        split at h
        · simp at h
        · simp only[List.mem_singleton] at h
          exact .inr ⟨x,by simp,hf,by omega,h⟩
      · exact .inl (by simp [h])
    · rcases List.mem_cons.1 h with h | h
      · exact .inl (by simp [h])
      · rcases xG h with h | ⟨e,he,h⟩
        · exact .inl (by simp [h])
        · exact .inr ⟨e,by simp [he],h⟩
theorem aRp {p:Pr} {e:En}:gK p e=true↔e.1=p∧e.2.2=1099511627776:=by simp [gK]
theorem xF {p:Pr} {t:Int}:∀ {l:List En},l.Pairwise RisR→(∀ y∈l,y.2.1<1099511627776)→(kX l p t).Pairwise RisR
  | [],_,_=>by simp [kX]
  | x::l,h,h1=>by
    obtain ⟨hx,hl⟩:=List.pairwise_cons.1 h
    rw[kX]
    split
    · rename_i hf
      have hF:=(aRp.1 hf).2
      unfold tL
      split
      · exact hl
      · refine List.pairwise_cons.2 ⟨fun y hy=>⟨(hx y hy).1,fun e=>?_⟩,hl⟩
        have:=(hx y hy).2 e
        have:=h1 y (List.mem_cons_of_mem _ hy)
        omega
    · refine List.pairwise_cons.2 ⟨fun y hy=>?_,xF hl (fun z hz=>h1 z (by simp [hz]))⟩
      rcases xG hy with hy | ⟨e,he,_,_,rfl⟩
      · exact hx y hy
      · exact⟨(hx e he).1,fun e'=>(hx e he).2 e'⟩
theorem aGf {x:List En} {a t:Int} {p:Pr} (h:aUt x a) (h1:a≤t) (h2:t<1099511627776) (r1:cI p.1=true) (r2:cI p.2=true) (s1:TS p.1) (s2:TS p.2):aUt (aPp x p t) t:=by
  obtain ⟨hr,he⟩:=h
  obtain ⟨ho,hp⟩:=(tK x).1 hr
  have hT:∀ e∈x,e.2.1<e.2.2:=fun e hm=>by have:=ho e hm; simp only[okE,Bool.and_eq_true,decide_eq_true_eq] at this; exact this.1
  have hF:∀ e∈x,e.2.1<1099511627776:=fun e hm=>by have:=(he e hm).1; omega
  unfold aPp
  split
  · refine⟨(tK _).2 ⟨fun y hy=>?_,xF hp hF⟩,fun y hy=>?_⟩
    · rcases xG hy with hy | ⟨e,hm,_,hlt,rfl⟩
      · exact ho y hy
      · have:=ho e hm
        simp only[okE,Bool.and_eq_true,decide_eq_true_eq] at this ⊢
        exact⟨hlt,this.2⟩
    · rcases xG hy with hy | ⟨e,hm,_,hlt,rfl⟩
      · obtain ⟨q1,q2,q3⟩:=he y hy
        exact⟨by omega,by omega,q3⟩
      · obtain ⟨q1,q2,q3⟩:=he e hm
        exact⟨by simp only; omega,.inr (by simp),q3⟩
  · rename_i hon
    refine⟨(tK _).2 ⟨fun y hy=>?_,xV hp (fun y hy hle=>?_) (fun y hy hlt=>?_)⟩,fun y hy=>?_⟩
    · rcases uA.1 hy with rfl | hy
      · simp [okE,h2,r1,r2]
      · exact ho y hy
    · have hne:¬ (y.1=p∧y.2.2=1099511627776):=fun hh=>hon (onB_iff.2 ⟨y,hy,hh⟩)
      obtain ⟨q1,q2,_⟩:=he y hy
      have q4:=hT y hy
      have hyt:y.1=p→y.2.2≤t:=fun e=>by rcases q2 with q2 | q2; exact absurd ⟨e,q2⟩ hne; omega
      refine⟨?_,fun e=>by simp only at e ⊢; exact hyt e⟩
      rcases Int.lt_or_eq_of_le (show mD y (p,(t,1099511627776))≤0 by omega) with e | e
      · exact e
      · exfalso
        obtain ⟨e1,e2⟩:=ordE_eq.1 e
        have:=hyt e1
        simp only at e2; omega
    · refine⟨by have:=ordE_tri.swap y (p,(t,1099511627776)); omega,fun e=>?_⟩
      exfalso
      simp only at e
      have q1:=(he y hy).1
      have:mD y (p,(t,1099511627776))=jB y.2.1 t:=by
        rw[tS,tY,if_neg (by simp [aDg,← e])]
      rw[this] at hlt
      unfold jB at hlt
      (repeat' split at hlt) <;> omega
    · rcases uA.1 hy with rfl | hy
      · exact⟨Int.le_refl _,.inl rfl,s1,s2⟩
      · obtain ⟨q1,q2,q3⟩:=he y hy
        exact⟨by omega,by omega,q3⟩
end Go.Abs
set_option linter.unusedVariables false
set_option linter.unusedSimpArgs false
namespace Go.Abs
theorem qR {s:ByteArray} (h:cI s=true):TS s:=by
  simp only[cI,Bool.and_eq_true,decide_eq_true_eq] at h
  have:=h.1.2
  show s.size≤_
  omega
theorem mE {s:Sta} {x:bC}:kA s x=true↔(∀ e∈s.opn,e.1.1=x.2.1→x.1.2≤e.2.2)∧0≤x.1.1∧x.1.2≤s.now∧1≤x.2.1∧x.2.1≤999∧1≤x.2.2∧x.2.2≤4:=by
  simp only[kA,Bool.and_eq_true,decide_eq_true_eq,Bool.not_eq_true',List.any_eq_false,not_and,Int.not_lt]
theorem pA {s:Sta} {x:Us}:aBq s x=true↔x.2≠[]∧yX x.2=true∧∀ y∈x.2,kA s y=true:=by
  simp only[aBq,Bool.and_eq_true,Bool.not_eq_true',List.isEmpty_eq_false_iff,List.all_eq_true,ne_eq]
theorem fX {s:Sta} {e:En}:aDk s e=true↔0≤e.2.1∧e.2.1≤s.now∧(e.2.2≤s.now∨e.2.2=1099511627776):=by
  simp only[aDk,Bool.and_eq_true,Bool.or_eq_true,decide_eq_true_eq]
theorem jZ {s:Sta} {x:Tm}:aTf s x=true↔0≤x.2∧x.2≤s.now:=by
  simp only[aTf,Bool.and_eq_true,decide_eq_true_eq]
theorem zB {e:Se}:iR e=true↔cI e.1.2=true∧1≤e.1.1∧e.1.1≤999∧1≤e.2.1∧e.2.1≤4∧0≤e.2.2∧e.2.2≤1099511627775:=by
  simp only[iR,Bool.and_eq_true,decide_eq_true_eq,and_assoc]
theorem aQz {s:Sta} (h:RightP s) {e:Se} (he:e∈s.opn):cI e.1.2=true∧1≤e.1.1∧e.1.1≤999∧1≤e.2.1∧e.2.1≤4∧0≤e.2.2∧e.2.2≤1099511627775 :=
  zB.1 (((jL _).1 h.opn).1.1 e he)
theorem aB2 {l:List Us} {u:ByteArray} {p:Us→Prop} (h:dI cW l) (hp:∀ x∈l,p x) (h0:p (u,[])):p (u,ofU l u):=by
  by_cases hh:lX cW l u=true
  · obtain ⟨hk,e⟩:=aDl h hh
    rw[← e]; exact hp _ (List.getElem_mem hk)
  · rw[rB (Bool.eq_false_iff.2 hh)]; exact h0
theorem aGa {s:Sta} (h:RightP s) (u:ByteArray):yX (ofU s.usr u)=true∧∀ y∈ofU s.usr u,kA s y=true:=by
  have:=aB2 (u:=u) (p:=fun x=>yX x.2=true∧∀ y∈x.2,kA s y=true) h.usr (fun x hx=>(pA.1 (h.uok x hx)).2) ⟨rfl,by simp⟩
  exact this
theorem aUl {l:List bC} {x y:bC} (h:y∈gA l x):y=x∨y∈l:=by
  unfold gA at h
  split at h
  · exact .inr h
  · exact List.mem_cons.1 ((gI x l).mem_iff.1 h)
theorem aCi {s:Sta} {t:Int} {opn':List Se} {e:Se} (h:RightP s) (ht:s.now≤t) (ht1:t<1099511627776) (he:e∈s.opn) (hr:jY opn'=true) (hl:∀ x∈opn',x.2.2≤t)
    (hb:∀ x∈opn',(x∈s.opn∧x.1.1≠e.1.1)∨t≤x.2.2):RightP ⟨t,s.hor,opn',mO s.usr e.1.2 (eB e t),s.sub,s.tmb⟩:=by
  obtain ⟨g1,g2,g3,g4,g5,g6,g7⟩:=aQz h he
  have hold:∀ y,kA s y=true→kA ⟨t,s.hor,opn',mO s.usr e.1.2 (eB e t),s.sub,s.tmb⟩ y=true:=fun y hy=>by
    obtain ⟨a1,a2,a3,a4⟩:=mE.1 hy
    refine mE.2 ⟨fun x hx hn=>?_,a2,Int.le_trans a3 ht,a4⟩
    rcases hb x hx with ⟨h1,_⟩ | h1
    · exact a1 x h1 hn
    · exact Int.le_trans a3 (Int.le_trans ht h1)
  have hold2:∀ x,aBq s x=true→aBq ⟨t,s.hor,opn',mO s.usr e.1.2 (eB e t),s.sub,s.tmb⟩ x=true:=fun x hx=>by
    obtain ⟨a1,a2,a3⟩:=pA.1 hx
    exact pA.2 ⟨a1,a2,fun y hy=>hold y (a3 y hy)⟩
  have hmem:∀ x∈mO s.usr e.1.2 (eB e t),x∈s.usr∨(e.2.2<t∧x=(e.1.2,gA (ofU s.usr e.1.2) (eB e t))):=fun x hx=>by
    unfold mO at hx
    split at hx
    · exact .inl hx
    · rename_i hlt
      rcases mA.1 hx with ⟨hx,_⟩ | hx
      · exact .inl hx
      · unfold tI at hx
        split at hx
        · cases hx
        · exact .inr ⟨Int.not_le.1 hlt,List.mem_singleton.1 hx⟩
  refine⟨Int.le_trans h.n0 ht,ht1,h.h0,h.h1,hr,hl,fun x hx=>?_,?_,fun x hx=>?_,h.sub,fun y hy=>?_,h.tnm,h.tmb,fun x hx=>?_⟩
  · rcases hmem x hx with hx | ⟨_,rfl⟩
    · exact h.unm x hx
    · exact g1
  · show dI cW (mO s.usr e.1.2 (eB e t))
    unfold mO
    split
    · exact h.usr
    · exact tF h.usr
  · rcases hmem x hx with hx | ⟨hlt,rfl⟩
    · exact hold2 x (h.uok x hx)
    · obtain ⟨q1,q2⟩:=aGa h e.1.2
      refine pA.2 ⟨fun e0=>?_,?_,fun y hy=>?_⟩
      · have h1:=aDt (ofU s.usr e.1.2) (eB e t)
        simp only at e0
        rw[gA,if_neg (show ¬ (eB e t).1.2≤(eB e t).1.1 from Int.not_le.2 hlt)] at e0
        rw[e0] at h1; simp at h1
      · show yX (gA (ofU s.usr e.1.2) (eB e t))=true
        rw[ris_add q1,Bool.not_eq_true',List.any_eq_false]
        intro y hy hye
        simp only[decide_eq_true_eq] at hye
        have:=(mE.1 (q2 y hy)).1 e he (by rw[hye]; rfl)
        rw[hye] at this
        exact absurd hlt (Int.not_lt.2 this)
      · rcases aUl hy with rfl | hy
        · refine mE.2 ⟨fun x hx hn=>?_,g6,Int.le_refl _,g2,g3,g4,g5⟩
          rcases hb x hx with ⟨_,h1⟩ | h1
          · exact absurd hn h1
          · exact h1
        · exact hold y (q2 y hy)
  · obtain ⟨a,b,c⟩:=fX.1 (h.sok y hy)
    exact fX.2 ⟨a,Int.le_trans b ht,c.imp (fun c=>Int.le_trans c ht) id⟩
  · obtain ⟨a,b⟩:=jZ.1 (h.tok x hx)
    exact jZ.2 ⟨a,Int.le_trans b ht⟩
theorem oU {s s':Sta} (h:RightP s) (ht:s.now≤s'.now) (ht1:s'.now<1099511627776) (h0:0≤s'.hor) (h1:s'.hor<1099511627776) (hr:jY s'.opn=true) (hl:∀ x∈s'.opn,x.2.2≤s'.now)
    (hb:∀ x∈s'.opn,x∈s.opn∨s.now≤x.2.2) (hu:∀ x∈s'.usr,x∈s.usr) (hu2:dI cW s'.usr) (hs:aE7 s'.sub=true) (hs2:∀ e∈s'.sub,aDk s' e=true) (htm:dI eO s'.tmb) (htm2:∀ x∈s'.tmb,x∈s.tmb∨(cI x.1=true∧0≤x.2∧x.2≤s'.now)):RightP s':=by
  have hold:∀ y,kA s y=true→kA s' y=true:=fun y hy=>by
    obtain ⟨a1,a2,a3,a4⟩:=mE.1 hy
    refine mE.2 ⟨fun x hx hn=>?_,a2,Int.le_trans a3 ht,a4⟩
    rcases hb x hx with h1 | h1
    · exact a1 x h1 hn
    · exact Int.le_trans a3 h1
  refine⟨Int.le_trans h.n0 ht,ht1,h0,h1,hr,hl,fun x hx=>h.unm x (hu x hx),hu2,fun x hx=>?_,hs,hs2,fun x hx=>?_,htm,fun x hx=>?_⟩
  · obtain ⟨a1,a2,a3⟩:=pA.1 (h.uok x (hu x hx))
    exact pA.2 ⟨a1,a2,fun y hy=>hold y (a3 y hy)⟩
  · rcases htm2 x hx with h2 | h2
    · exact h.tnm x h2
    · exact h2.1
  · rcases htm2 x hx with h2 | h2
    · obtain ⟨a,b⟩:=jZ.1 (h.tok x h2)
      exact jZ.2 ⟨a,Int.le_trans b ht⟩
    · exact jZ.2 h2.2
theorem yY {s:Sta} (h:RightP s) {t:Int} (ht:s.now≤t) {u:List Us} {o:List Se} {hr:Int} {tm:List Tm}:∀ e∈s.sub,aDk ⟨t,hr,o,u,s.sub,tm⟩ e=true:=fun e he=>by
  obtain ⟨a,b,c⟩:=fX.1 (h.sok e he)
  exact fX.2 ⟨a,Int.le_trans b ht,c.imp (fun c=>Int.le_trans c ht) id⟩
theorem aCz {s:Sta} (h:RightP s):aUt s.sub s.now:=by
  refine⟨h.sub,fun e he=>?_⟩
  obtain ⟨a,b,c⟩:=fX.1 (h.sok e he)
  have:=((tK _).1 h.sub).1 e he
  simp only[okE,Bool.and_eq_true,decide_eq_true_eq] at this
  exact⟨b,c.symm,qR this.2.1,qR this.2.2⟩
theorem ev_at {e:Ev} (h:cG e=true):0≤e.at'∧e.at'<1099511627776:=by
  simp only[cG,Bool.and_eq_true,decide_eq_true_eq] at h
  exact⟨h.1,h.2.1⟩
theorem aD4 {e:Ev} (h:cG e=true):(e.kind=1∧dW e=true∧1≤e.st∧e.st≤4)∨(e.kind=2∧dW e=true∧1≤e.st∧e.st≤4)∨(e.kind=3∧dW e=true∧e.st=0)∨(e.kind=4∧cI e.user=true∧cI e.other=true∧e.n=0∧e.st=0)∨(e.kind=5∧cI e.user=true∧cI e.other=true∧e.n=0∧e.st=0)∨(e.kind=6∧e.user=bs0∧e.other=bs0∧e.st=0∧0≤e.n∧e.n<1099511627776)∨(e.kind=7∧cI e.user=true∧e.other=bs0∧e.n=0∧e.st=0):=by
  simp only[cG,Bool.and_eq_true,decide_eq_true_eq] at h
  obtain ⟨_,_,h⟩:=h
  split at h
  · rename_i hk
    simp only[Bool.and_eq_true,decide_eq_true_eq] at h
    rcases hk with hk | hk
    · exact .inl ⟨hk,h⟩
    · exact .inr (.inl ⟨hk,h⟩)
  · split at h
    · rename_i hk
      simp only[Bool.and_eq_true,decide_eq_true_eq] at h
      exact .inr (.inr (.inl ⟨hk,h⟩))
    · split at h
      · rename_i hk
        simp only[Bool.and_eq_true,decide_eq_true_eq] at h
        rcases hk with hk | hk
        · exact .inr (.inr (.inr (.inl ⟨hk,h⟩)))
        · exact .inr (.inr (.inr (.inr (.inl ⟨hk,h⟩))))
      · split at h
        · rename_i hk
          simp only[Bool.and_eq_true,decide_eq_true_eq] at h
          exact .inr (.inr (.inr (.inr (.inr (.inl ⟨hk,h⟩)))))
        · split at h
          · rename_i hk
            simp only[Bool.and_eq_true,decide_eq_true_eq] at h
            exact .inr (.inr (.inr (.inr (.inr (.inr ⟨hk,h⟩)))))
          · cases h
theorem aI0 {e:Ev}:dW e=true↔1≤e.n∧e.n≤999∧cI e.user=true∧e.other=bs0:=by
  simp only[dW,Bool.and_eq_true,decide_eq_true_eq]
theorem aEa {l:List Se} {n:Int} {u:ByteArray} (h:iV l n u=0):∃ pre e post,l=pre++e::post∧e.1=(n,u)∧aN3 l n=e∧(∀ st t,aKx l n st t=pre++(e.1,(st,t))::post)∧aKt l n=pre++post:=by
  obtain ⟨k,hk,ek,h1,h2,h3⟩:=aH4 h
  refine⟨l.take k,l[k],l.drop (k+1),?_,?_,?_,fun st t=>?_,?_⟩
  · rw[← List.drop_eq_getElem_cons hk,List.take_append_drop]
  · exact Prod.ext (by simpa [isN] using h1) h2
  · exact(oL n u 0 0 l k hk h3 h1).2.1
  · rw[(oL n u st t l k hk h3 h1).2.2.2.1,List.set_eq_take_append_cons_drop,if_pos hk]
  · exact(oL n u 0 0 l k hk h3 h1).2.2.2.2
theorem aQg {pre post:List Se} {e:Se} (h:jY (pre++e::post)=true):jY (pre++post)=true∧∀ x∈pre++post,x∈pre++e::post∧x.1.1≠e.1.1:=by
  obtain ⟨⟨h1,h2⟩,h3⟩:=(jL _).1 h
  have hm:∀ x∈pre++post,x∈pre++e::post:=fun x hx=>by
    rcases List.mem_append.1 hx with hx | hx
    · exact List.mem_append_left _ hx
    · exact List.mem_append_right _ (List.mem_cons_of_mem _ hx)
  obtain ⟨p1,p2,p3⟩:=List.pairwise_append.1 h2
  obtain ⟨p4,p5⟩:=List.pairwise_cons.1 p2
  refine⟨(jL _).2 ⟨⟨fun x hx=>h1 x (hm x hx),List.pairwise_append.2 ⟨p1,p5,fun a ha b hb=>p3 a ha b (List.mem_cons_of_mem _ hb)⟩⟩,by simp only[List.length_append,List.length_cons] at h3 ⊢; omega⟩,fun x hx=>⟨hm x hx,?_⟩⟩
  rcases List.mem_append.1 hx with hx | hx
  · have:=p3 x hx e (by simp); omega
  · have:=p4 x hx; omega
theorem chg_ris {pre post:List Se} {e e':Se} (h:jY (pre++e::post)=true) (he:iR e'=true) (hn:e'.1.1=e.1.1):jY (pre++e'::post)=true:=by
  obtain ⟨⟨h1,h2⟩,h3⟩:=(jL _).1 h
  obtain ⟨p1,p2,p3⟩:=List.pairwise_append.1 h2
  obtain ⟨p4,p5⟩:=List.pairwise_cons.1 p2
  refine(jL _).2 ⟨⟨fun x hx=>?_,List.pairwise_append.2 ⟨p1,List.pairwise_cons.2 ⟨fun b hb=>by rw[hn]; exact p4 b hb,p5⟩,fun a ha b hb=>?_⟩⟩,by simp only[List.length_append,List.length_cons] at h3 ⊢; omega⟩
  · rcases List.mem_append.1 hx with hx | hx
    · exact h1 x (List.mem_append_left _ hx)
    · rcases List.mem_cons.1 hx with rfl | hx
      · exact he
      · exact h1 x (List.mem_append_right _ (List.mem_cons_of_mem _ hx))
  · rcases List.mem_cons.1 hb with rfl | hb
    · rw[hn]; exact p3 a ha e (by simp)
    · exact p3 a ha b (List.mem_cons_of_mem _ hb)
theorem aI6 {l:List Se} (q:Se→Bool) (h:jY l=true):jY (l.filter q)=true:=by
  obtain ⟨⟨h1,h2⟩,h3⟩:=(jL _).1 h
  exact(jL _).2 ⟨⟨fun x hx=>h1 x (List.mem_filter.1 hx).1,h2.filter q⟩,Nat.le_trans (List.length_filter_le _ _) h3⟩
theorem aSq {l:List Tm} {u:ByteArray} {t:Int} (h:dI eO l):dI eO (tC l u t):=xE h (by simp) (by simp)
theorem aN8 {s:Sta} {e:Ev} (h:RightP s) (he:cG e=true) (ht:s.now≤e.at') (h0:(bN s e).2=0):RightP { (bN s e).1 with now:=e.at' }:=by
  obtain ⟨t0,t1⟩:=ev_at he
  rcases aD4 he with ⟨hk,hs,s1,s2⟩ | ⟨hk,hs,s1,s2⟩ | ⟨hk,hs,s1⟩ | ⟨hk,r1,r2,n0,s0⟩ | ⟨hk,r1,r2,n0,s0⟩ | ⟨hk,r1,r2,s0,n0,n1⟩ | ⟨hk,r1,r2,n0,s0⟩
  · obtain ⟨m1,m2,m3,m4⟩:=aI0.1 hs
    rw[bN,if_pos hk] at h0 ⊢
    simp only at h0 ⊢
    rw[show pW s.opn ((e.n,e.user),(e.st,e.at'))=aHd s.opn ((e.n,e.user),(e.st,e.at')) from if_pos h0]
    have hm:∀ x∈aHd s.opn ((e.n,e.user),(e.st,e.at')),x=((e.n,e.user),(e.st,e.at'))∨x∈s.opn:=fun x hx=>xW.1 hx
    have h1:jY [((e.n,e.user),(e.st,e.at'))]=true:=(jL _).2 ⟨⟨fun x hx=>by rw[List.mem_singleton.1 hx]; exact zB.2 ⟨m3,m1,m2,s1,s2,t0,by show e.at'≤_; omega⟩,List.pairwise_singleton _ _⟩,by simp⟩
    refine oU h ht t1 h.h0 h.h1 (opn_ris h.opn h1 h0) (fun x hx=>?_) (fun x hx=>?_) (fun _ hx=>hx) h.usr h.sub (yY h ht) h.tmb (fun _ hx=>.inl hx)
    · rcases hm x hx with rfl | hx
      · exact Int.le_refl _
      · exact Int.le_trans (h.late x hx) ht
    · rcases hm x hx with rfl | hx
      · exact .inr ht
      · exact .inl hx
  · obtain ⟨m1,m2,m3,m4⟩:=aI0.1 hs
    rw[bN,if_neg (by omega),if_pos hk] at h0 ⊢
    simp only at h0 ⊢
    obtain ⟨pre,x,post,e1,e2,e3,e4,e5⟩:=aEa h0
    have hx:x∈s.opn:=by rw[e1]; simp
    have hn:x.1.1=e.n∧x.1.2=e.user:=by rw[e2]; exact⟨rfl,rfl⟩
    have hr:=h.opn
    rw[e1] at hr
    obtain ⟨q1,q2⟩:=aQg hr
    rw[show pY s.opn e.n e.user e.st e.at'=pre++(x.1,(e.st,e.at'))::post from by rw[pY,if_pos h0,e4],show stR s.opn e.n e.user e.at'=eB x e.at' from by rw[stR,if_pos h0,e3],← hn.2]
    have hm:∀ y∈pre++(x.1,(e.st,e.at'))::post,y=(x.1,(e.st,e.at'))∨y∈pre++post:=fun y hy=>by
      rcases List.mem_append.1 hy with hy | hy
      · exact .inr (List.mem_append_left _ hy)
      · rcases List.mem_cons.1 hy with hy | hy
        · exact .inl hy
        · exact .inr (List.mem_append_right _ hy)
    refine aCi h ht t1 hx (chg_ris hr (zB.2 ⟨by show cI x.1.2=true; rw[hn.2]; exact m3,by show 1≤x.1.1; omega,by show x.1.1≤999; omega,s1,s2,t0,by show e.at'≤_; omega⟩) rfl) (fun y hy=>?_) (fun y hy=>?_)
    · rcases hm y hy with rfl | hy
      · exact Int.le_refl _
      · exact Int.le_trans (h.late y (by rw[e1]; exact(q2 y hy).1)) ht
    · rcases hm y hy with rfl | hy
      · exact .inr (Int.le_refl _)
      · exact .inl ⟨by rw[e1]; exact(q2 y hy).1,(q2 y hy).2⟩
  · rw[bN,if_neg (by omega),if_neg (by omega),if_pos hk] at h0 ⊢
    simp only at h0 ⊢
    obtain ⟨pre,x,post,e1,e2,e3,e4,e5⟩:=aEa h0
    have hx:x∈s.opn:=by rw[e1]; simp
    have hn:x.1.2=e.user:=by rw[e2]
    have hr:=h.opn
    rw[e1] at hr
    obtain ⟨q1,q2⟩:=aQg hr
    rw[show pX s.opn e.n e.user=pre++post from by rw[pX,if_pos h0,e5],show stR s.opn e.n e.user e.at'=eB x e.at' from by rw[stR,if_pos h0,e3],← hn]
    exact aCi h ht t1 hx q1 (fun y hy=>Int.le_trans (h.late y (by rw[e1]; exact(q2 y hy).1)) ht) (fun y hy=>.inl ⟨by rw[e1]; exact(q2 y hy).1,(q2 y hy).2⟩)
  · rw[bN,if_neg (by omega),if_neg (by omega),if_neg (by omega),if_pos hk] at h0 ⊢
    simp only at h0 ⊢
    have hon:¬ onB s.sub (e.user,e.other)=true:=fun hh=>by rw[if_pos hh] at h0; omega
    rw[if_neg hon]
    have hg:=aGf (p:=(e.user,e.other)) (aCz h) ht t1 r1 r2 (qR r1) (qR r2)
    rw[aPp,if_neg hon] at hg
    refine oU h ht t1 h.h0 h.h1 h.opn (fun x hx=>Int.le_trans (h.late x hx) ht) (fun _ hx=>.inl hx) (fun _ hx=>hx) h.usr hg.1 (fun y hy=>fX.2 ⟨?_,(hg.2 y hy).1,(hg.2 y hy).2.1.symm⟩) h.tmb (fun _ hx=>.inl hx)
    rcases uA.1 hy with rfl | hy
    · exact t0
    · exact(fX.1 (h.sok y hy)).1
  · rw[bN,if_neg (by omega),if_neg (by omega),if_neg (by omega),if_neg (by omega),if_pos hk] at h0 ⊢
    simp only at h0 ⊢
    have hon:onB s.sub (e.user,e.other)=true:=by
      by_cases hh:onB s.sub (e.user,e.other)=true
      · exact hh
      · rw[if_neg hh] at h0; omega
    rw[if_pos hon]
    have hg:=aGf (p:=(e.user,e.other)) (aCz h) ht t1 r1 r2 (qR r1) (qR r2)
    rw[aPp,if_pos hon] at hg
    refine oU h ht t1 h.h0 h.h1 h.opn (fun x hx=>Int.le_trans (h.late x hx) ht) (fun _ hx=>.inl hx) (fun _ hx=>hx) h.usr hg.1 (fun y hy=>fX.2 ⟨?_,(hg.2 y hy).1,(hg.2 y hy).2.1.symm⟩) h.tmb (fun _ hx=>.inl hx)
    rcases xG hy with hy | ⟨z,hz,_,_,rfl⟩
    · exact(fX.1 (h.sok y hy)).1
    · exact(fX.1 (h.sok z hz)).1
  · rw[bN,if_neg (by omega),if_neg (by omega),if_neg (by omega),if_neg (by omega),if_neg (by omega),if_pos hk] at h0 ⊢
    have:=h.h0
    have:=h.h1
    exact oU h ht t1 (by show 0≤max s.hor e.n; omega) (by show max s.hor e.n<_; omega) h.opn (fun x hx=>Int.le_trans (h.late x hx) ht) (fun _ hx=>.inl hx) (fun _ hx=>hx) h.usr h.sub (yY h ht) h.tmb (fun _ hx=>.inl hx)
  · rw[bN,if_neg (by omega),if_neg (by omega),if_neg (by omega),if_neg (by omega),if_neg (by omega),if_neg (by omega)] at h0 ⊢
    refine oU h ht t1 h.h0 h.h1 (aI6 _ h.opn) (fun x hx=>Int.le_trans (h.late x (List.mem_filter.1 hx).1) ht) (fun x hx=>.inl (List.mem_filter.1 hx).1) (fun x hx=>?_) (tF h.usr) (aI7 _ h.sub) (fun y hy=>yY (o:=[]) (u:=[]) (hr:=0) (tm:=[]) h ht y (List.mem_filter.1 hy).1) (aSq h.tmb) (fun x hx=>?_)
    · rcases mA.1 hx with hx | hx
      · exact hx.1
      · unfold tI at hx; rw[if_pos rfl] at hx; cases hx
    · rcases mA.1 hx with hx | hx
      · exact .inl hx.1
      · rw[List.mem_singleton.1 hx]; exact .inr ⟨r1,t0,Int.le_refl _⟩
theorem aK0 {s:Sta} {e:Ev} (h:RightP s) (h0:(fC s e).2=0):RightP (fC s e).1:=by
  unfold fC at h0 ⊢
  split at h0
  · rename_i he
    rw[if_pos he]
    split at h0
    · simp at h0
    · rename_i ht
      rw[if_neg ht]
      split at h0
      · rename_i h2
        rw[if_pos h2]
        exact aN8 h he (Int.not_lt.1 ht) h2
      · rename_i h2; exact absurd h0 h2
  · simp at h0
theorem aCm:RightP rW:=mR.1 (by decide)
theorem aUj (l:List Us) (u:ByteArray) (x:bC) (h:dI cW l):(mO l u x).length≤l.length+1:=by
  unfold mO; split
  · omega
  · have e:=(qU (u:=u) h).1
    have e2:=congrArg List.length e
    have:=@aI5 u (gA (ofU l u) x)
    simp only[rX,aBn,List.length_append] at *
    omega
end Go.Abs
set_option linter.unusedVariables false
set_option linter.unusedSimpArgs false
namespace Go.Abs
open Go
theorem aSm (a b:Int):IntKind.i64.wrap (IntKind.i64.wrap a+b)=IntKind.i64.wrap (a+b):=by
  rw[IntKind.wrap_i64,IntKind.wrap_i64,IntKind.wrap_i64]; omega
theorem aKo {l:List Us} {k:Nat} (hk:k<l.length):mI (l.take (k+1))=mI (l.take k)+l[k].2.length:=by
  rw[mI,mI,nI l _ k hk,List.sum_append]; simp
theorem bU {a:ByteArray}:a.toList=[]↔a=bs0:=by
  have:bs0.toList=[]:=by rw[nH]
  rw[← this,toList_inj]
theorem has_not {α:Type} {key:α→ByteArray} {l:List α} {u:ByteArray}:lX key (l.filter fun x=>!isK key u x) u=false:=by
  rw[lX,List.any_eq_false]
  intro x hx
  have:=(List.mem_filter.1 hx).2
  simpa using this
theorem aIo {l:List Tm} {u:ByteArray} {t:Int} (h:dI eO l):(l.filter fun x=>!isK eO u x).take (cZ eO (l.filter fun x=>!isK eO u x) u)++(u,t)::(l.filter fun x=>!isK eO u x).drop (cZ eO (l.filter fun x=>!isK eO u x) u)=tC l u t:=by
  rw[aPr (key:=eO) (mU h _) has_not,tC]
  refine vY (key:=eO) (xE (mU h _) (by simp) (by simp)) (xE h (by simp) (by simp)) fun x=>?_
  rw[mA,mA,List.mem_filter]
  simp only[isK,Bool.not_eq_true',decide_eq_false_iff_not]
  constructor
  · rintro (⟨⟨a,_⟩,b⟩ | a)
    · exact .inl ⟨a,b⟩
    · exact .inr a
  · rintro (⟨a,b⟩ | a)
    · exact .inl ⟨⟨a,b⟩,b⟩
    · exact .inr a
theorem aQr {l:List Tm} {u:ByteArray} {t:Int} (h:dI eO l):((l.filter fun x=>!isK eO u x).map tmC).take (cZ eO (l.filter fun x=>!isK eO u x) u)++[.s (.string u),.s (.int .i64 t)]::((l.filter fun x=>!isK eO u x).map tmC).drop (cZ eO (l.filter fun x=>!isK eO u x) u)=(tC l u t).map tmC:=by
  rw[← aIo h]
  simp only[List.map_append,List.map_cons,List.map_take,List.map_drop]; rfl
theorem aSr {l:List Tm} {u:ByteArray} {t:Int}:(tC l u t).length≤l.length+1:=by
  have:(tC l u t).length=(l.filter (loK eO u)).length+((l.filter (hiK eO u)).length+1):=by simp [tC,aBn]
  have h2:(l.filter (loK eO u)).length+(l.filter (hiK eO u)).length≤l.length:=by
    induction l with
    | nil=>simp
    | cons x l ih =>
      simp only[List.filter_cons]
      have:¬ (loK eO u x=true∧hiK eO u x=true):=by
        rintro ⟨a,b⟩
        simp only[loK,hiK,decide_eq_true_eq] at a b
        omega
      have ih:=ih (by simp [tC,aBn])
      by_cases a:loK eO u x=true <;> by_cases b:hiK eO u x=true <;> simp [a,b] <;> first | omega | exact absurd ⟨a,b⟩ this
  omega
theorem erU {s:Sta} {u:ByteArray} {t:Int} (hr:dI cW s.usr):(s.usr.filter fun x=>!isK cW u x)=(hP s u t).usr:=by
  show _=rX s.usr u []
  rw[rX,tI,if_pos rfl]
  exact aIz hr u
theorem erUl {s:Sta} {u:ByteArray} {t:Int} (hr:dI cW s.usr):(s.usr.filter fun x=>!isK cW u x).length=((hP s u t).usr.map usC).length:=by rw[List.length_map,erU hr]
theorem erTl {l:List Tm} {u:ByteArray} {t:Int} (h:dI eO l):(l.filter fun x=>!isK eO u x).length+1=((tC l u t).map tmC).length:=by
  have hp:=xM (key:=eO) (l.filter fun x=>!isK eO u x) u
  rw[← aIo h,List.length_map,List.length_append,List.length_cons,List.length_take,List.length_drop]
  omega
theorem fY {P:Program} {t:TypeId} {k:IntKind} {a b:Int} (h:a≠b):sO P .eql t (.int k a) (.int k b)=some (.bool false):=by
  simp [sO,zS,h]
theorem aSy {l:List Us} {u:ByteArray} (h:dI cW l):(rX l u []).length≤l.length:=by
  have e:rX l u []=l.filter fun x=>!isK cW u x:=by rw[rX,tI,if_pos rfl]; exact(aIz h u).symm
  rw[e]; exact List.length_filter_le _ _
theorem erSz {n m:Nat} {s:Sta} {u:ByteArray} {t:Int} (hz:SzS n s) (hr:dI cW s.usr) (hm:n+24≤m):SzS m (hP s u t):=by
  have h1:=List.length_filter_le (fun e=>!pJ u e) s.opn
  have h2:=List.length_filter_le (fun e=>!aDx u e) s.sub
  have h3:=aSy (u:=u) hr
  have h4:=aSr (l:=s.tmb) (u:=u) (t:=t)
  have z1:=hz.o
  have z2:=hz.u
  have z3:=hz.b
  have z4:=hz.t
  refine⟨?_,?_,?_,?_,fun x hx=>?_⟩
  · show (s.opn.filter fun e=>!pJ u e).length*40≤m
    omega
  · show (rX s.usr u []).length*40≤m
    omega
  · show (s.sub.filter fun e=>!aDx u e).length*48≤m
    omega
  · show (tC s.tmb u t).length*24≤m
    omega
  · have hx':x∈rX s.usr u []:=hx
    rcases mA.1 hx' with ⟨hx',_⟩ | hx'
    · have:=hz.y x hx'; omega
    · unfold tI at hx'; rw[if_pos rfl] at hx'; cases hx'
theorem addSz {n m:Nat} {s:Sta} {u:ByteArray} {x:bC} (hz:SzS n s) (hr:dI cW s.usr) (hm:n+40≤m):SzS m (dZ s u x):=by
  have z1:=hz.o
  have z2:=hz.u
  have z3:=hz.b
  have z4:=hz.t
  have q:=aUj s.usr u x hr
  refine⟨by show s.opn.length*40≤m; omega,by show (mO s.usr u x).length*40≤m; omega,by show s.sub.length*48≤m; omega,by show s.tmb.length*24≤m; omega,fun y hy=>?_⟩
  have hy':y∈mO s.usr u x:=hy
  unfold mO at hy'
  split at hy'
  · have:=hz.y y hy'; omega
  · rcases mA.1 hy' with ⟨hy',_⟩ | hy'
    · have:=hz.y y hy'; omega
    · unfold tI at hy'
      split at hy'
      · cases hy'
      · rw[List.mem_singleton.1 hy']
        have h1:(ofU s.usr u).length*32≤n:=aB2 (p:=fun x=>x.2.length*32≤n) hr hz.y (by simp)
        have h2:=uF (ofU s.usr u) x
        show (gA (ofU s.usr u) x).length*32≤m
        omega
theorem aUh {l:List Us} {u:ByteArray} {x:bC} (h:dI cW l):dI cW (mO l u x):=by
  unfold mO; split
  · exact h
  · exact tF h
end Go.Abs
set_option linter.unusedVariables false
set_option linter.unusedSimpArgs false
namespace Go.Proofs.YtpkanhklapfajaaGreat
open Go Go.Abs
theorem aIx (s:Sta) (u:ByteArray) (t:Int) (hz:SzS 140737488353280 s) (ho:s.opn.length≤50) (hr:dI cW s.usr) :Den Tryz.prog 43 [.agg (bJ s),.s (.string u),.s (.int .i64 t)]  (·=.sl 4 ((dN s u t).map stC)):=by
 have z1:=hz.o
 have z2:=hz.u
 have hlm:(s.usr.map usC).length=s.usr.length:=List.length_map _
 have hpl:=xM (key:=cW) s.usr u
 have hsl:=yS s.opn u t
 have hou:(ofU s.usr u).length*32≤140737488353280:=aB2 (p:=fun x=>x.2.length*32≤140737488353280) hr hz.y (by simp)
 refine aR Tryz.func43 rfl (Nat.le_of_ble_eq_true rfl) (fun w0 A hf=>(aC (fun K1 hK1=>(aB (aJ hf rfl (cE rfl rfl (lf rfl)) (aG rfl (bD) (aD (hK1 _ (aC (fun K2 hK2=>(aB (aG rfl (qY (k:=4)) (aD (hK2 _ (aC (fun K3 hK3=>?_))))))))))))))))
 refine aC (fun K4 hK4=>(aB (aE aA 3 rfl (aJ hf rfl (aO rfl rfl aEn rfl (aCc s.usr u (by omega) hr)) (aE aA 5 rfl (aD (hK4 _ (aC (fun K5 hK5=>(aB (aE aA 1 rfl (aD (hK5 _ (aK rfl (fun hc1=>?_) (fun hc1=>?_)))))))))))))))
 ·
  obtain ⟨hk0,he⟩:=aDl hr (show lX cW s.usr u=true by assumption)
  refine aB (aE aA 3 rfl (aG rfl (aY rfl rfl fR fS (iN (k:=cZ cW s.usr u) (by omega) hk0)) (aE aA 2 rfl (aJ hf rfl (aO rfl rfl wP rfl (cQ (vX s.usr[cZ cW s.usr u].2 (by rw[he]; show (ofU s.usr u).length*32≤_; omega)))) ?_))))
  refine aE aA 1 rfl (aD (hK3 _ (aC (fun K6 hK6=>(aC (fun K7 hK7=>(aB (aE aA 4 rfl (aJ hf rfl (aO rfl rfl aEm rfl (zZ s.opn u t (by omega))) (aE aA 2 rfl (aD (hK7 _ (aM (bM (ι:=Nat×List bC) (fun(⟨k,out⟩:Nat×List bC)=>⟨42,[(7,.sl 4 (out.map stC)),(31,.sl 4 ((eG s.opn u t).map stC)),(32,.s (.int .i64 (((eG s.opn u t).map stC).length:Nat))),(33,.s (.int .i64 (k:Nat)))],[]⟩) (fun(⟨k,out⟩:Nat×List bC)=>k≤(eG s.opn u t).length∧out=((eG s.opn u t).take k).foldl gA (ofU s.usr u)∧out.length≤(ofU s.usr u).length+k) (fun(⟨k,out⟩:Nat×List bC)=>(eG s.opn u t).length - k) (0,ofU s.usr u) ?_ ?_ ?_))))))))))))))
  · exact⟨Nat.zero_le _,rfl,Nat.le_refl _⟩
  · first | exact gN ⟨(by rw[show (ofU s.usr u)=(s.usr[cZ cW s.usr u]).2 from by rw[he]]; rfl),rfl,rfl,rfl,trivial⟩ | exact gN ⟨(by rw[rB hno]; rfl),rfl,rfl,rfl,trivial⟩
  ·
   rintro ⟨k,out⟩ hC
   obtain ⟨h1,h2,h3⟩:=hC
   refine aC (fun K8 hK8=>(aB (aE aA 1 rfl (aD (hK8 _ (aC (fun K9 hK9=>(aK rfl (fun hc2=>?_) (fun hc2=>?_)))))))))
   ·
    simp only[bs] at hc2
    refine aL (hK9 _ (aC (fun K10 hK10=>(aM (aC (fun K11 hK11=>(aB ?_)))))))
    refine aG rfl (aY rfl rfl cB bA (by first | exact ixm (by omega) | assumption | exact⟨by decide,rfl⟩)) ?_
    refine aE aA 1 rfl (cA hf rfl eE rfl bA rfl rfl rfl rfl (lf rfl) (aD (hK11 _ (aB (aE aA 2 rfl (aJ hf rfl (aO rfl rfl wT rfl (aEj out (eG s.opn u t)[k] (by omega))) (aE aA 1 rfl ?_)))))))
    refine bH ?_
    refine hK10 _ (aB ?_)
    refine aG rfl (bK rfl rfl (by omega) (by omega)) ?_
    refine aE aA 1 rfl (aD ?_)
    exact⟨(k+1,gA out (eG s.opn u t)[k]),⟨by omega,by rw[dU (eG s.opn u t) gA _ k (by omega),← h2],by have:=uF out (eG s.opn u t)[k]; omega⟩,by simp only; omega,cN rfl⟩
   ·
    simp only[bs] at hc2
    refine aX (hK6 _ (aC (fun K12 hK12=>(aB (aE aA 2 rfl (aD (hK12 _ (aI ?_))))))))
    refine⟨_,rfl,?_⟩
    show AV.sl 4 (out.map stC)=_
    rw[h2,List.take_of_length_le (by omega)]; rfl
 ·
  have hno:lX cW s.usr u=false:=by simp_all
  refine aL (hK3 _ (aC (fun K13 hK13=>(aC (fun K14 hK14=>(aB (aE aA 4 rfl (aJ hf rfl (aO rfl rfl aEm rfl (zZ s.opn u t (by omega))) (aE aA 2 rfl (aD (hK14 _ (aM (bM (ι:=Nat×List bC) (fun(⟨k,out⟩:Nat×List bC)=>⟨42,[(7,.sl 4 (out.map stC)),(31,.sl 4 ((eG s.opn u t).map stC)),(32,.s (.int .i64 (((eG s.opn u t).map stC).length:Nat))),(33,.s (.int .i64 (k:Nat)))],[]⟩) (fun(⟨k,out⟩:Nat×List bC)=>k≤(eG s.opn u t).length∧out=((eG s.opn u t).take k).foldl gA (ofU s.usr u)∧out.length≤(ofU s.usr u).length+k) (fun(⟨k,out⟩:Nat×List bC)=>(eG s.opn u t).length - k) (0,ofU s.usr u) ?_ ?_ ?_)))))))))))))
  · exact⟨Nat.zero_le _,rfl,Nat.le_refl _⟩
  · first | exact gN ⟨(by rw[show (ofU s.usr u)=(s.usr[cZ cW s.usr u]).2 from by rw[he]]; rfl),rfl,rfl,rfl,trivial⟩ | exact gN ⟨(by rw[rB hno]; rfl),rfl,rfl,rfl,trivial⟩
  ·
   rintro ⟨k,out⟩ hC
   obtain ⟨h1,h2,h3⟩:=hC
   refine aC (fun K15 hK15=>(aB (aE aA 1 rfl (aD (hK15 _ (aC (fun K16 hK16=>(aK rfl (fun hc3=>?_) (fun hc3=>?_)))))))))
   ·
    simp only[bs] at hc3
    refine aL (hK16 _ (aC (fun K17 hK17=>(aM (aC (fun K18 hK18=>(aB ?_)))))))
    refine aG rfl (aY rfl rfl cB bA (by first | exact ixm (by omega) | assumption | exact⟨by decide,rfl⟩)) ?_
    refine aE aA 1 rfl (cA hf rfl eE rfl bA rfl rfl rfl rfl (lf rfl) (aD (hK18 _ (aB (aE aA 2 rfl (aJ hf rfl (aO rfl rfl wT rfl (aEj out (eG s.opn u t)[k] (by omega))) (aE aA 1 rfl ?_)))))))
    refine bH ?_
    refine hK17 _ (aB ?_)
    refine aG rfl (bK rfl rfl (by omega) (by omega)) ?_
    refine aE aA 1 rfl (aD ?_)
    exact⟨(k+1,gA out (eG s.opn u t)[k]),⟨by omega,by rw[dU (eG s.opn u t) gA _ k (by omega),← h2],by have:=uF out (eG s.opn u t)[k]; omega⟩,by simp only; omega,cN rfl⟩
   ·
    simp only[bs] at hc3
    refine aX (hK13 _ (aC (fun K19 hK19=>(aB (aE aA 2 rfl (aD (hK19 _ (aI ?_))))))))
    refine⟨_,rfl,?_⟩
    show AV.sl 4 (out.map stC)=_
    rw[h2,List.take_of_length_le (by omega)]; rfl
theorem aC9 (s:Sta) (hz:SzS 140737488353280 s) :Den Tryz.prog 36 [.agg (bJ s)]  (·=.s (.int .i64 (IntKind.i64.wrap ((fG s:Nat):Int)))):=by
 have z1:=hz.o
 have z2:=hz.u
 have z3:=hz.b
 have z4:=hz.t
 have y1:(s.opn.map seC).length=s.opn.length:=List.length_map _
 have y2:(s.sub.map enC).length=s.sub.length:=List.length_map _
 have y3:(s.tmb.map tmC).length=s.tmb.length:=List.length_map _
 refine aR Tryz.func36 rfl (Nat.le_of_ble_eq_true rfl) (fun w0 A hf=>(aC (fun K1 hK1=>(aB (aJ hf rfl (cE rfl rfl (lf rfl)) (aE aA 1 rfl (aD (hK1 _ (aC (fun K2 hK2=>(aB (aE aA 6 rfl ?_))))))))))))
 refine aG rfl (bK rfl rfl (by omega) (by omega)) ?_
 refine aE aA 3 rfl ?_
 refine aG rfl (bK rfl rfl (by omega) (by omega)) ?_
 refine aE aA 1 rfl (aD (hK2 _ (aC (fun K3 hK3=>(aC (fun K4 hK4=>(aB (aE aA 1 rfl (aD (hK4 _ (aM (bM (ι:=Nat) (fun k=>⟨33,[(1,.adr (bJ s)),(3,.s (.int .i64 (IntKind.i64.wrap ((s.opn.length+s.sub.length+s.tmb.length+mI (s.usr.take k):Nat):Int)))),(4,.s (.int .i64 (k:Nat)))],[]⟩) (fun k=>k≤s.usr.length) (fun k=>s.usr.length - k) 0 ?_ ?_ ?_))))))))))))
 · exact Nat.zero_le _
 · exact gN ⟨rfl,(aN (by rw[List.take_zero,show mI []=0 from rfl,wrap_i64 (by omega) (by omega)]; simp only[List.length_map]; omega)),rfl,trivial⟩
 ·
  rintro k hC
  refine aC (fun K5 hK5=>(aC (fun K6 hK6=>(aB (aE aA 5 rfl (aD (hK6 _ (aK rfl (fun hc1=>?_) (fun hc1=>?_)))))))))
  ·
   simp only[bs] at hc1
   refine aL (hK5 _ (aC (fun K7 hK7=>(aM (aB (aE aA 4 rfl ?_))))))
   refine aG rfl (aY rfl rfl rR oA (by first | exact ixm (by omega) | assumption | exact⟨by decide,rfl⟩)) ?_
   refine aE aA 3 rfl (aG rfl (eN rfl rfl rfl) (aE aA 1 rfl ?_))
   refine bH ?_
   refine hK7 _ (aB (aE aA 1 rfl ?_))
   refine aG rfl (bK rfl rfl (by omega) (by omega)) ?_
   refine aE aA 1 rfl (aD ?_)
   exact⟨k+1,by omega,by omega,gN ⟨rfl,(aN (by rw[aSm,aKo (by omega)]; congr 1; simp only[List.length_map]; omega)),rfl,trivial⟩⟩
  ·
   simp only[bs] at hc1
   refine aX (hK3 _ (aC (fun K8 hK8=>(aB (aE aA 2 rfl (aD (hK8 _ (aI ?_))))))))
   refine⟨_,rfl,?_⟩
   unfold fG
   rw[List.take_of_length_le (by omega)]; rfl
end Go.Proofs.YtpkanhklapfajaaGreat
set_option linter.unusedVariables false
set_option linter.unusedSimpArgs false
namespace Go.Proofs.YtpkanhklapfajaaGreat
open Go Go.Abs
theorem aFa (l:List En) (hl:l.length≤9223372036854775807) (ht:∀ e∈l,TS e.1.1∧TS e.1.2) :Den Tryz.prog 38 [.sl 4 (l.map enC)]  (·=.s (.bool (aE7 l))):=by
 refine aR Tryz.func38 rfl (Nat.le_of_ble_eq_true rfl) (fun w0 A hf=>(aC (fun K1 hK1=>(aB (aE aA 1 rfl (aD (hK1 _ (aC (fun K2 hK2=>(aC (fun K3 hK3=>(aB (aE aA 1 rfl (aD (hK3 _ (aM ?_))))))))))))))))
 refine bM (ι:=Nat) (fun k=>⟨75,[(0,.sl 4 (l.map enC)),(3,.s (.int .i64 (k:Nat)))],[]⟩) (fun k=>k≤l.length∧aE7 l=oH okE aJs (jP l k) (l.drop k)) (fun k=>l.length - k) 0 ?_ ?_ ?_
 · exact⟨Nat.zero_le _,rfl⟩
 · exact cN rfl
 ·
  rintro k hC
  obtain ⟨h1,h2⟩:=hC
  refine aC (fun K4 hK4=>(aC (fun K5 hK5=>(aB (aE aA 4 rfl (aD (hK5 _ (aK rfl (fun hc1=>?_) (fun hc1=>?_)))))))))
  ·
   simp only[bs] at hc1
   refine aL (hK4 _ (aC (fun K6 hK6=>(aM (aC (fun K7 hK7=>(aB (aE aA 2 rfl ?_))))))))
   refine aG rfl (aY rfl rfl lB gV (by first | exact ixm (by omega) | assumption | exact⟨by decide,rfl⟩)) ?_
   refine aE aA 1 rfl (cA hf rfl zV rfl gV rfl rfl rfl rfl (lf rfl) (aD (hK7 _ (aC (fun K8 hK8=>(aC (fun K9 hK9=>(aB (aE aA 6 rfl (aW rfl rfl rfl (fun hg2=>?_) (fun hg2=>?_)))))))))))
   ·
    simp only[bs] at hg2
    refine aG rfl (bW rfl aIf cO rfl) ?_
    refine aE aA 1 rfl (bE rfl rfl rfl (aJ hf rfl (aO rfl rfl lJ rfl (Nm.refRight_den _ (by first | assumption | exact(ht _ (List.getElem_mem _)).1 | exact(ht _ (List.getElem_mem _)).2))) ?_))
    refine aE aA 3 rfl (aW rfl rfl rfl (fun hg3=>?_) (fun hg3=>?_))
    ·
     simp only[bs] at hg3
     refine aG rfl (bW rfl yK cO rfl) ?_
     refine aE aA 1 rfl (bE rfl rfl rfl (aJ hf rfl (aO rfl rfl lJ rfl (Nm.refRight_den _ (by first | assumption | exact(ht _ (List.getElem_mem _)).1 | exact(ht _ (List.getElem_mem _)).2))) ?_))
     refine aE aA 2 rfl (aD (hK9 _ (aK rfl (fun hc4=>?_) (fun hc4=>?_))))
     ·
      simp only[bs] at hc4
      refine aC (fun K10 hK10=>(aB (aE aA 1 rfl (aD (hK10 _ (aI ?_))))))
      refine⟨_,rfl,?_⟩
      refine aQ ?_
      rw[jK h2 (by omega) (aTh (by first | exact .inl (by omega) | exact .inr (.inl (by assumption)) | exact .inr (.inr (.inl (by assumption))) | exact .inr (.inr (.inr (by assumption))) | (simp_all; done)))]
     ·
      simp only[bs] at hc4
      refine aL (hK8 _ (aC (fun K11 hK11=>(aC (fun K12 hK12=>(aB (aE aA 2 rfl (aD (hK12 _ (aK rfl (fun hc5=>?_) (fun hc5=>?_)))))))))))
      ·
       simp only[bs] at hc5
       refine aX (hK6 _ (aB (aE aA 1 rfl ?_)))
       refine aG rfl (bK rfl rfl (by omega) (by omega)) ?_
       refine aE aA 1 rfl (aD ?_)
       exact⟨k+1,⟨by omega,nJ h2 (by omega) (aP1 (by omega) (by simp_all) (by simp_all)) (fun h0=>uZ.2 ⟨by omega,fun e=>by first | omega | exact absurd e (by assumption) | exact absurd e (aHf (by assumption)) | exact absurd e (aHe (by assumption))⟩)⟩,by omega,cN rfl⟩
      ·
       simp only[bs] at hc5
       refine aL (hK11 _ (aC (fun K13 hK13=>(cU hf bF (by kernel_rfl) rfl (aT aA 2 rfl ?_)))))
       refine bI [(35,_)] rfl rfl ⟨⟨rfl,rfl⟩,trivial⟩ rfl (eZ rfl rfl (by omega) (by omega)) ?_
       refine bI [(34,_),(36,_)] rfl rfl ⟨⟨rfl,rfl⟩,⟨rfl,rfl⟩,trivial⟩ rfl (aY rfl rfl lB gV (iN (k:=k - 1) (by omega) (by omega))) (aT aA 2 rfl (bL [(38,_),(39,_)] rfl rfl ⟨⟨rfl,rfl⟩,⟨rfl,rfl⟩,trivial⟩ rfl (aO rfl rfl aOo rfl (aOg _ _ (ht _ (List.getElem_mem _)).1 (ht _ (List.getElem_mem _)).2 (ht _ (List.getElem_mem _)).1 (ht _ (List.getElem_mem _)).2)) (aT aA 2 rfl (fZ 42 false rfl (fun hg6=>?_) (fun hg6=>?_)))))
       ·
        simp only[bs] at hg6
        refine aT aA 2 rfl ?_
        refine bI [(44,_)] rfl rfl ⟨⟨rfl,rfl⟩,trivial⟩ rfl (eZ rfl rfl (by omega) (by omega)) ?_
        refine bI [(43,_),(45,_)] rfl rfl ⟨⟨rfl,rfl⟩,⟨rfl,rfl⟩,trivial⟩ rfl (aY rfl rfl lB gV (iN (k:=k - 1) (by omega) (by omega))) (aT aA 6 rfl (fZ 52 true rfl (fun hg7=>?_) (fun hg7=>?_)))
        ·
         simp only[bs] at hg7
         refine aT aA 2 rfl ?_
         refine bI [(54,_)] rfl rfl ⟨⟨rfl,rfl⟩,trivial⟩ rfl (eZ rfl rfl (by omega) (by omega)) ?_
         refine bI [(53,_),(55,_)] rfl rfl ⟨⟨rfl,rfl⟩,⟨rfl,rfl⟩,trivial⟩ rfl (aY rfl rfl lB gV (iN (k:=k - 1) (by omega) (by omega))) (aT aA 7 rfl (fZ 63 true rfl (fun hg8=>?_) (fun hg8=>?_)))
         ·
          simp only[bs] at hg8
          refine aT aA 2 rfl ?_
          refine bI [(65,_)] rfl rfl ⟨⟨rfl,rfl⟩,trivial⟩ rfl (eZ rfl rfl (by omega) (by omega)) ?_
          refine bI [(64,_),(66,_)] rfl rfl ⟨⟨rfl,rfl⟩,⟨rfl,rfl⟩,trivial⟩ rfl (aY rfl rfl lB gV (iN (k:=k - 1) (by omega) (by omega))) (aT aA 7 rfl (cY [0,3,74] rfl rfl rfl (hK13 _ (aK rfl (fun hc9=>?_) (fun hc9=>?_)))))
          ·
           simp only[bs] at hc9
           refine aC (fun K14 hK14=>(aB (aE aA 1 rfl (aD (hK14 _ (aI ?_))))))
           refine⟨_,rfl,?_⟩
           refine aQ ?_
           rw[jX h2 (by omega) (by omega) (aP4 (by first | exact .inl (by omega) | exact .inr ⟨by first | assumption | exact aS7 (by assumption) (by assumption),by omega⟩))]
          ·
           simp only[bs] at hc9
           refine aL (hK6 _ (aB (aE aA 1 rfl ?_)))
           refine aG rfl (bK rfl rfl (by omega) (by omega)) ?_
           refine aE aA 1 rfl (aD ?_)
           exact⟨k+1,⟨by omega,nJ h2 (by omega) (aP1 (by omega) (by simp_all) (by simp_all)) (fun h0=>uZ.2 ⟨by omega,fun e=>by first | omega | exact absurd e (by assumption) | exact absurd e (aHf (by assumption)) | exact absurd e (aHe (by assumption))⟩)⟩,by omega,cN rfl⟩
         ·
          simp only[bs] at hg8
          refine aT aA 11 rfl (cY [0,3,74] rfl rfl rfl (hK13 _ (bT rfl (aL (hK6 _ (aB (aE aA 1 rfl ?_)))))))
          refine aG rfl (bK rfl rfl (by omega) (by omega)) ?_
          refine aE aA 1 rfl (aD ?_)
          exact⟨k+1,⟨by omega,nJ h2 (by omega) (aP1 (by omega) (by simp_all) (by simp_all)) (fun h0=>uZ.2 ⟨by omega,fun e=>by first | omega | exact absurd e (by assumption) | exact absurd e (aHf (by assumption)) | exact absurd e (aHe (by assumption))⟩)⟩,by omega,cN rfl⟩
        ·
         simp only[bs] at hg7
         refine aT aA 22 rfl (cY [0,3,74] rfl rfl rfl (hK13 _ (bT rfl (aL (hK6 _ (aB (aE aA 1 rfl ?_)))))))
         refine aG rfl (bK rfl rfl (by omega) (by omega)) ?_
         refine aE aA 1 rfl (aD ?_)
         exact⟨k+1,⟨by omega,nJ h2 (by omega) (aP1 (by omega) (by simp_all) (by simp_all)) (fun h0=>uZ.2 ⟨by omega,fun e=>by first | omega | exact absurd e (by assumption) | exact absurd e (aHf (by assumption)) | exact absurd e (aHe (by assumption))⟩)⟩,by omega,cN rfl⟩
       ·
        simp only[bs] at hg6
        refine aT aA 10 rfl (bP rfl rfl ?_)
        refine bP rfl rfl ?_
        refine bP rfl rfl ?_
        refine bP rfl rfl ?_
        refine bP rfl rfl ?_
        refine bP rfl rfl ?_
        refine bP rfl rfl ?_
        refine bP rfl rfl ?_
        refine bP rfl rfl ?_
        refine aT aA 2 rfl (bP rfl rfl ?_)
        refine bP rfl rfl ?_
        refine bP rfl rfl ?_
        refine bP rfl rfl ?_
        refine bP rfl rfl ?_
        refine bP rfl rfl ?_
        refine bP rfl rfl ?_
        refine bP rfl rfl ?_
        refine bP rfl rfl ?_
        refine aT aA 2 rfl (cY [0,3,74] rfl rfl rfl (hK13 _ (bY rfl (aC (fun K15 hK15=>(aB (aE aA 1 rfl (aD (hK15 _ (aI ?_))))))))))
        refine⟨_,rfl,?_⟩
        refine aQ ?_
        rw[jX h2 (by omega) (by omega) (aP4 (by first | exact .inl (by omega) | exact .inr ⟨by first | assumption | exact aS7 (by assumption) (by assumption),by omega⟩))]
    ·
     simp only[bs] at hg3
     refine aE aA 4 rfl (aD (hK9 _ (bY rfl (aC (fun K16 hK16=>(aB (aE aA 1 rfl (aD (hK16 _ (aI ?_))))))))))
     refine⟨_,rfl,?_⟩
     refine aQ ?_
     rw[jK h2 (by omega) (aTh (by first | exact .inl (by omega) | exact .inr (.inl (by assumption)) | exact .inr (.inr (.inl (by assumption))) | exact .inr (.inr (.inr (by assumption))) | (simp_all; done)))]
   ·
    simp only[bs] at hg2
    refine aE aA 10 rfl (aD (hK9 _ (bY rfl (aC (fun K17 hK17=>(aB (aE aA 1 rfl (aD (hK17 _ (aI ?_))))))))))
    refine⟨_,rfl,?_⟩
    refine aQ ?_
    rw[jK h2 (by omega) (aTh (by first | exact .inl (by omega) | exact .inr (.inl (by assumption)) | exact .inr (.inr (.inl (by assumption))) | exact .inr (.inr (.inr (by assumption))) | (simp_all; done)))]
  ·
   simp only[bs] at hc1
   refine aX (hK2 _ (aC (fun K18 hK18=>(aB (aE aA 1 rfl (aD (hK18 _ (aI ?_))))))))
   refine⟨_,rfl,?_⟩
   refine aQ ?_
   rw[aCx h2 (by omega)]
theorem lO (l:List En) (hl:l.length*48+48≤140737488355328) :Den Tryz.prog 46 [.sl 4 (l.map enC)]  (·=.sl 4 (l.map enC)):=by
 refine aR Tryz.func46 rfl (Nat.le_of_ble_eq_true rfl) (fun w0 A hf=>(aC (fun K1 hK1=>(aB (aG rfl (bD) (aD (hK1 _ (aC (fun K2 hK2=>(aB (kW hf 4 rfl rfl rfl (aD (hK2 _ (aC (fun K3 hK3=>(aC (fun K4 hK4=>?_)))))))))))))))))
 refine aB (aE aA 3 rfl (aD (hK4 _ (aM (bM (ι:=Nat) (fun k=>⟨26,[(3,.own 3 4 0 (l.take k).length),(6,.sl 4 (l.map enC)),(7,.s (.int .i64 ((l.map enC).length:Nat))),(8,.s (.int .i64 (k:Nat)))],[(3,.buf 4 ((l.take k).map enC))]⟩) (fun k=>k≤l.length) (fun k=>l.length - k) 0 ?_ ?_ ?_)))))
 · exact Nat.zero_le _
 · exact cN rfl
 ·
  rintro k hC
  refine aC (fun K5 hK5=>(aB (aE aA 1 rfl (aD (hK5 _ (aC (fun K6 hK6=>(aK rfl (fun hc1=>?_) (fun hc1=>?_)))))))))
  ·
   simp only[bs] at hc1
   refine aL (hK6 _ (aC (fun K7 hK7=>(aM (aC (fun K8 hK8=>(aB ?_)))))))
   refine aG rfl (aY rfl rfl lB gV (by first | exact ixm (by omega) | assumption | exact⟨by decide,rfl⟩)) ?_
   refine aE aA 1 rfl (cA hf rfl zV rfl gV rfl rfl rfl rfl (lf rfl) (aD (hK8 _ (aB ?_))))
   have htl:(l.take k).length=k:=by rw[List.length_take]; omega
   refine aE aA 9 rfl (aJ hf rfl (aO rfl rfl aOk rfl (one_den _ _ _ _)) (aJ hf rfl (aP jN rfl rfl rfl rfl (l2 rfl)) (aZ hf rfl jN rfl rfl rfl (.inl rfl) (by rw[List.length_map]) rfl (by first | rfl | simp [dJ,bG]) (by first | (simp only[maxLen,List.length_map,List.length_append,List.length_cons,List.length_nil]; omega) | (simp [maxLen] <;> omega)) (by first | (simp only[List.length_map,List.length_append,List.length_cons,List.length_nil]; omega) | (simp <;> omega)) ?_)))
   refine aU (cM [6,7,8,23] rfl) (aE aA 1 rfl ?_)
   refine bH ?_
   refine hK7 _ (aB ?_)
   refine aG rfl (bK rfl rfl (by omega) (by omega)) ?_
   refine aE aA 1 rfl (aD ?_)
   exact⟨k+1,by omega,by omega,cF ⟨(by rw[oN l k (by omega)]; rfl),rfl,rfl,rfl,trivial⟩ (by rw[nI l enC k (by omega)]; rfl)⟩
  ·
   simp only[bs] at hc1
   refine aX (hK3 _ (aC (fun K9 hK9=>(aB (aE aA 2 rfl (aD (hK9 _ (aI ?_))))))))
   refine⟨_,rfl,?_⟩
   refine(cJ (g:=3) rfl (by rw[List.length_map])).trans ?_
   rw[List.take_of_length_le (by omega)]
end Go.Proofs.YtpkanhklapfajaaGreat
set_option linter.unusedVariables false
set_option linter.unusedSimpArgs false
namespace Go.Abs
open Go
section
variable {α:Type} {key:α→ByteArray}
variable {u:ByteArray} {y:α} {l:List α} {k:Nat}
end
theorem aRb {l:List Us} {u:ByteArray} {k:Nat} (hk:k<l.length) (h:∀ (j:Nat) (hj:j<l.length),j<k→isK cW u l[j]=false) (he:l[k].1=u):ofU l u=l[k].2:=by
  rw[ofU,List.find?_eq_some_iff_getElem.2 ⟨by simp [isK,he],k,hk,rfl,fun j hj=>by have:=h j (by omega) hj; simpa using this⟩]; rfl
theorem ofU_no {l:List Us} {u:ByteArray} (h:∀ (j:Nat) (hj:j<l.length),isK cW u l[j]=false):ofU l u=[]:=by
  rw[ofU,List.find?_eq_none.2 fun x hx=>by obtain ⟨j,hj,rfl⟩:=List.getElem_of_mem hx; have:=h j hj; simpa using this]; rfl
structure TsS (s:Sta):Prop where
  o:∀ e∈s.opn,TS e.1.2
  u:∀ x∈s.usr,TS x.1
  b:∀ e∈s.sub,TS e.1.1∧TS e.1.2
  t:∀ x∈s.tmb,TS x.1
theorem fF {s:Sta} (h:RightP s→False):false=oV s:=by
  cases e:oV s with
  | false=>rfl
  | true=>exact(h (mR.1 e)).elim
theorem aQy {s:Sta} (h:RightP s):true=oV s:=(mR.2 h).symm
theorem aPt {α:Type} {key:α→ByteArray} {l:List α} (h:dI key l) {k:Nat} (h0:0<k) (hk:k<l.length):eJ (key (l[k - 1]'(by omega))) (key l[k])<0 :=
  List.pairwise_iff_getElem.1 h (k - 1) k (by omega) hk (by omega)
theorem aPs {α:Type} {key:α→ByteArray}:∀ {l:List α},(∀ (k:Nat) (h0:0<k) (hk:k<l.length),eJ (key (l[k - 1]'(by omega))) (key l[k])<0)→dI key l
  | [],_=>List.Pairwise.nil
  | [x],_=>List.pairwise_singleton _ _
  | x::y::l,h=>by
    have ih:dI key (y::l):=aPs fun k h0 hk=>by
      have:=h (k+1) (by omega) (by simp only[List.length_cons] at hk ⊢; omega)
      obtain ⟨j,rfl⟩:∃ j,k=j+1:=⟨k - 1,by omega⟩
      simpa using this
    have h1:eJ (key x) (key y)<0:=by have:=h 1 (by omega) (by simp); simpa using this
    refine List.pairwise_cons.2 ⟨fun z hz=>?_,ih⟩
    rcases List.mem_cons.1 hz with rfl | hz
    · exact h1
    · exact gR h1 ((List.pairwise_cons.1 ih).1 z hz)
theorem aK4 {α:Type} {p:α→Prop} {l:List α} {k:Nat} (hk:l.length≤k) (h:∀ (j:Nat) (hj:j<l.length),j<k→p l[j]):∀ x∈l,p x:=fun x hx=>by
  obtain ⟨j,hj,rfl⟩:=List.getElem_of_mem hx
  exact h j hj (by omega)
theorem lK {n:Nat} {p:(j:Nat)→j<n→Prop} {k:Nat} (h:∀ (j:Nat) (hj:j<n),j<k→p j hj) (hk:k<n) (hp:p k hk):∀ (j:Nat) (hj:j<n),j<k+1→p j hj:=fun j hj hjk=>by
  by_cases e:j=k
  · subst e; exact hp
  · exact h j hj (by omega)
end Go.Abs
set_option linter.unusedVariables false
set_option linter.unusedSimpArgs false
namespace Go.Abs
open Go
def NeU (l:List Us):Prop:=∀ x∈l,x.2≠[]
theorem set_ne {l:List Us} {u:ByteArray} {ys:List bC} (h:NeU l):NeU (rX l u ys):=fun x hx=>by
  rcases mA.1 hx with hx | hx
  · exact h x hx.1
  · unfold tI at hx
    split at hx
    · cases hx
    · rename_i hne; rw[List.mem_singleton.1 hx]; exact hne
theorem add_ne {l:List Us} {u:ByteArray} {x:bC} (h:NeU l):NeU (mO l u x):=by
  unfold mO; split
  · exact h
  · exact set_ne h
theorem addU_of {l:List Us} (h:dI cW l) {u v:ByteArray} {x:bC}:ofU (mO l u x) v=if v=u then gA (ofU l u) x else ofU l v:=by
  unfold mO gA
  split
  · split
    · rename_i hv; rw[hv]
    · rfl
  · rw[setU_of h]
theorem aK5 {l:List bC} {x:bC} (h:Srt gL l):Srt gL (gA l x):=by
  unfold gA; split
  · exact h
  · exact nP h
structure GoU (l:List Us):Prop where
  r:dI cW l
  s:∀ u,Srt gL (ofU l u)
  n:NeU l
theorem GoU.add {l:List Us} {u:ByteArray} {x:bC} (h:GoU l):GoU (mO l u x):=⟨aUh h.r,fun v=>by
  rw[addU_of h.r]; split
  · exact aK5 (h.s u)
  · exact h.s v,add_ne h.n⟩
end Go.Abs
set_option linter.unusedVariables false
set_option linter.unusedSimpArgs false
namespace Go.Abs
open Go
theorem aTg {s:Sta} {x:bC} {k:Nat} (hk:k<s.opn.length) (h1:s.opn[k].1.1=x.2.1) (h2:s.opn[k].2.2<x.1.2):kA s x=false :=
  Bool.eq_false_iff.2 fun h=>by have:=(mE.1 h).1 _ (List.getElem_mem hk) h1; omega
theorem rA {s:Sta} {x:bC} (h:¬ (0≤x.1.1∧x.1.2≤s.now∧1≤x.2.1∧x.2.1≤999∧1≤x.2.2∧x.2.2≤4)):kA s x=false :=
  Bool.eq_false_iff.2 fun h'=>h (mE.1 h').2
theorem aRa {s:Sta} {x:bC} {i:Nat} (hi:s.opn.length≤i) (h:∀ (j:Nat) (hj:j<s.opn.length),j<i→¬ (s.opn[j].1.1=x.2.1∧s.opn[j].2.2<x.1.2)) (h2:0≤x.1.1∧x.1.2≤s.now∧1≤x.2.1∧x.2.1≤999∧1≤x.2.2∧x.2.2≤4):kA s x=true :=
  mE.2 ⟨fun e he hn=>by
    obtain ⟨j,hj,rfl⟩:=List.getElem_of_mem he
    have:=h j hj (by omega)
    exact Int.not_lt.1 fun hl=>this ⟨hn,hl⟩,h2⟩
theorem pB {s:Sta} {x:Us} {k:Nat} (hk:k<x.2.length) (h:kA s x.2[k]=false):false=aBq s x:=by
  cases e:aBq s x with
  | false=>rfl
  | true=>have:=(pA.1 e).2.2 _ (List.getElem_mem hk); rw[h] at this; cases this
theorem aJp {s:Sta} {x:Us} {k:Nat} {b:Bool} (hk:x.2.length≤k) (h:∀ (j:Nat) (hj:j<x.2.length),j<k→kA s x.2[j]=true) (hb:b=(decide (0<x.2.length)&&yX x.2)):b=aBq s x:=by
  have ha:x.2.all (kA s)=true:=List.all_eq_true.2 fun y hy=>by
    obtain ⟨j,hj,rfl⟩:=List.getElem_of_mem hy
    exact h j hj (by omega)
  rw[hb,aBq,ha,Bool.and_true]
  congr 1
  cases x.2 <;> simp
def RisUp {α:Type} (key:α→ByteArray) (q:α→Prop) (l:List α) (k:Nat):Prop:=∀ (j:Nat) (hj:j<l.length),j<k→(cI (key l[j])=true∧q l[j]∧∀ h0:0<j,eJ (key (l[j - 1]'(by omega))) (key l[j])<0)
theorem RisUp.zero {α:Type} {key:α→ByteArray} {q:α→Prop} {l:List α}:RisUp key q l 0:=fun j hj h=>absurd h (Nat.not_lt_zero _)
theorem RisUp.next {α:Type} {key:α→ByteArray} {q:α→Prop} {l:List α} {k:Nat} (h:RisUp key q l k) (hk:k<l.length) (h1:cI (key l[k])=true) (h2:q l[k]) (h3:∀ h0:0<k,eJ (key (l[k - 1]'(by omega))) (key l[k])<0):RisUp key q l (k+1):=lK h hk ⟨h1,h2,h3⟩
theorem RisUp.r {α:Type} {key:α→ByteArray} {q:α→Prop} {l:List α} {k:Nat} (h:RisUp key q l k) (hk:l.length≤k):dI key l:=aPs fun j h0 hj=>(h j hj (by omega)).2.2 h0
theorem RisUp.n {α:Type} {key:α→ByteArray} {q:α→Prop} {l:List α} {k:Nat} (h:RisUp key q l k) (hk:l.length≤k):∀ x∈l,cI (key x)=true:=fun x hx=>by
  obtain ⟨j,hj,rfl⟩:=List.getElem_of_mem hx
  exact(h j hj (by omega)).1
theorem RisUp.q {α:Type} {key:α→ByteArray} {q:α→Prop} {l:List α} {k:Nat} (h:RisUp key q l k) (hk:l.length≤k):∀ x∈l,q x:=fun x hx=>by
  obtain ⟨j,hj,rfl⟩:=List.getElem_of_mem hx
  exact(h j hj (by omega)).2.1
end Go.Abs
set_option linter.unusedVariables false
namespace Go.Abs
open Go
theorem ty_ent {cs:List AV} (h:Ty (.agg [.str,.str,.int .i64,.int .i64]) cs):∃ e:En,cs=enC e∧(TS e.1.1∧TS e.1.2):=by
  simp only[Ty,TyL] at h
  obtain ⟨a,b,rfl,⟨w,rfl,hw⟩,a',b',rfl,⟨u,rfl,hu⟩,a2,b2,rfl,⟨n,rfl,_⟩,a3,b3,rfl,⟨m,rfl,_⟩,rfl⟩:=h
  exact⟨((w,u),(n,m)),rfl,Nat.le_trans hw (by decide),Nat.le_trans hu (by decide)⟩
theorem ty_ents {c:AV} (h:Ty (.sl 48 (.agg [.str,.str,.int .i64,.int .i64])) [c]):∃ l:List En,c=.sl 4 (l.map enC)∧l.length*48≤140737488351232∧∀ e∈l,TS e.1.1∧TS e.1.2:=by
  simp only[Ty] at h
  obtain ⟨xs,hx,_,hl,hxs⟩:=h
  obtain ⟨l,rfl,hr⟩:=uQ enC (fun e=>TS e.1.1∧TS e.1.2) (d:=.agg [.str,.str,.int .i64,.int .i64]) (fun cs h=>ty_ent h) (xs:=xs) (fun x hx=>by simp only[Ty]; exact hxs x hx)
  simp only[List.cons.injEq,and_true] at hx
  exact⟨l,hx,by simpa using hl,hr⟩
end Go.Abs
set_option linter.unusedVariables false
set_option linter.unusedSimpArgs false
namespace Go.Abs
open Go
theorem aG2 (n:Nat):SzS n rW:=⟨by simp [rW],by simp [rW],by simp [rW],by simp [rW],by simp [rW]⟩
theorem nowSz {n:Nat} {s:Sta} {t:Int} (h:SzS n s):SzS n { s with now:=t }:=⟨h.o,h.u,h.b,h.t,h.y⟩
theorem doesSz {n m:Nat} {s:Sta} {e:Ev} (hz:SzS n s) (hr:dI cW s.usr) (he:cG e=true) (hm:n+48≤m):SzS m (bN s e).1:=by
  have z1:=hz.o
  have z2:=hz.u
  have z3:=hz.b
  have z4:=hz.t
  rcases aD4 he with ⟨hk,_⟩ | ⟨hk,_⟩ | ⟨hk,_⟩ | ⟨hk,_⟩ | ⟨hk,_⟩ | ⟨hk,_⟩ | ⟨hk,_⟩
  · rw[bN,if_pos hk]
    have:=aJo s.opn ((e.n,e.user),(e.st,e.at'))
    exact⟨by show (pW s.opn ((e.n,e.user),(e.st,e.at'))).length*40≤m; omega,Nat.le_trans z2 (by omega),Nat.le_trans z3 (by omega),Nat.le_trans z4 (by omega),fun x hx=>Nat.le_trans (hz.y x hx) (by omega)⟩
  · rw[bN,if_neg (by omega),if_pos hk]
    have:=aKw s.opn e.n e.user e.st e.at'
    exact addSz (n:=n) (s:={ s with opn:=pY s.opn e.n e.user e.st e.at' }) (u:=e.user) (x:=stR s.opn e.n e.user e.at') ⟨by show (pY s.opn e.n e.user e.st e.at').length*40≤n; omega,z2,z3,z4,hz.y⟩ hr (by omega)
  · rw[bN,if_neg (by omega),if_neg (by omega),if_pos hk]
    have:=aKs s.opn e.n e.user
    exact addSz (n:=n) (s:={ s with opn:=pX s.opn e.n e.user }) (u:=e.user) (x:=stR s.opn e.n e.user e.at') ⟨by show (pX s.opn e.n e.user).length*40≤n; omega,z2,z3,z4,hz.y⟩ hr (by omega)
  · rw[bN,if_neg (by omega),if_neg (by omega),if_neg (by omega),if_pos hk]
    have:=aJz s.sub (e.user,e.other) e.at'
    exact⟨Nat.le_trans z1 (by omega),Nat.le_trans z2 (by omega),by show (if onB s.sub (e.user,e.other)=true then [] else jQ s.sub (e.user,e.other) e.at').length*48≤m; omega,Nat.le_trans z4 (by omega),fun x hx=>Nat.le_trans (hz.y x hx) (by omega)⟩
  · rw[bN,if_neg (by omega),if_neg (by omega),if_neg (by omega),if_neg (by omega),if_pos hk]
    have:=aJy s.sub (e.user,e.other) e.at'
    exact⟨Nat.le_trans z1 (by omega),Nat.le_trans z2 (by omega),by show (if onB s.sub (e.user,e.other)=true then kX s.sub (e.user,e.other) e.at' else []).length*48≤m; omega,Nat.le_trans z4 (by omega),fun x hx=>Nat.le_trans (hz.y x hx) (by omega)⟩
  · rw[bN,if_neg (by omega),if_neg (by omega),if_neg (by omega),if_neg (by omega),if_neg (by omega),if_pos hk]
    exact⟨Nat.le_trans z1 (by omega),Nat.le_trans z2 (by omega),Nat.le_trans z3 (by omega),Nat.le_trans z4 (by omega),fun x hx=>Nat.le_trans (hz.y x hx) (by omega)⟩
  · rw[bN,if_neg (by omega),if_neg (by omega),if_neg (by omega),if_neg (by omega),if_neg (by omega),if_neg (by omega)]
    exact erSz hz hr (by omega)
theorem applySz {n m:Nat} {s:Sta} {e:Ev} (hz:SzS n s) (hr:dI cW s.usr) (hm:n+48≤m):SzS m (fC s e).1:=by
  unfold fC
  split
  · rename_i he
    split
    · exact aG2 m
    · split
      · exact nowSz (doesSz hz hr he hm)
      · exact aG2 m
  · exact aG2 m
theorem aIa {s:Sta} (h:RightP s) (e:Ev):RightP (fC s e).1:=by
  by_cases h0:(fC s e).2=0
  · exact aK0 h h0
  · have:(fC s e).1=rW:=by
      unfold fC at h0 ⊢
      split
      · rename_i he
        rw[if_pos he] at h0
        split
        · rfl
        · rename_i ht
          rw[if_neg ht] at h0
          split
          · rename_i h2; rw[if_pos h2] at h0; exact absurd rfl h0
          · rfl
      · rfl
    rw[this]; exact aCm
theorem aPu {s:Sta} (h:RightP s):s.opn.length≤16:=((jL _).1 h.opn).2
theorem ty_us {cs:List AV} (h:Ty (.agg [.str,.sl 32 (.agg [.int .i64,.int .i64,.int .i64,.int .i64])]) cs):∃ x:Us,cs=usC x∧TS x.1∧x.2.length*32≤140737488351232:=by
  simp only[Ty] at h
  rw[TyL] at h
  obtain ⟨x,y,rfl,h1,h2⟩:=h
  rw[TyL] at h2
  obtain ⟨z,w,rfl,h3,h4⟩:=h2
  have e1:=yN h1
  have e2:=yN h3
  simp only[TyL] at h4
  subst h4
  match x,e1,z,e2 with
  | [c],_,[d],_ =>
    obtain ⟨a,rfl,ha⟩:=ty_str h1
    obtain ⟨l,rfl,hl⟩:=ty_sts h3
    exact⟨(a,l),rfl,Nat.le_trans ha (by omega),hl⟩
theorem ty_tm {cs:List AV} (h:Ty (.agg [.str,.int .i64]) cs):∃ x:Tm,cs=tmC x∧TS x.1:=by
  simp only[Ty,TyL] at h
  obtain ⟨a,b,rfl,⟨n,rfl,hn⟩,a',b',rfl,⟨m,rfl,_⟩,rfl⟩:=h
  exact⟨(n,m),rfl,Nat.le_trans hn (by omega)⟩
theorem ty_uss {c:AV} (h:Ty (.sl 40 (.agg [.str,.sl 32 (.agg [.int .i64,.int .i64,.int .i64,.int .i64])])) [c]):∃ l:List Us,c=.sl 2 (l.map usC)∧l.length*40≤140737488351232∧∀ x∈l,TS x.1∧x.2.length*32≤140737488351232:=by
  rw[Ty] at h
  obtain ⟨xs,hx,_,hl,hxs⟩:=h
  obtain ⟨l,rfl,hr⟩:=uQ usC (fun x=>TS x.1∧x.2.length*32≤140737488351232) (d:=.agg [.str,.sl 32 (.agg [.int .i64,.int .i64,.int .i64,.int .i64])]) (fun cs h=>ty_us h) (xs:=xs) (fun x hx=>hxs x hx)
  simp only[List.cons.injEq,and_true] at hx
  exact⟨l,hx,by simpa using hl,hr⟩
theorem ty_tms {c:AV} (h:Ty (.sl 24 (.agg [.str,.int .i64])) [c]):∃ l:List Tm,c=.sl 2 (l.map tmC)∧l.length*24≤140737488351232∧∀ x∈l,TS x.1:=by
  rw[Ty] at h
  obtain ⟨xs,hx,_,hl,hxs⟩:=h
  obtain ⟨l,rfl,hr⟩:=uQ tmC (fun x=>TS x.1) (d:=.agg [.str,.int .i64]) (fun cs h=>ty_tm h) (xs:=xs) (fun x hx=>hxs x hx)
  simp only[List.cons.injEq,and_true] at hx
  exact⟨l,hx,by simpa using hl,hr⟩
theorem uR {d:TD} {r:List TD} {cs:List AV} (hd:d.n=1) (h:TyL (d::r) cs):∃ c b,cs=c::b∧Ty d [c]∧TyL r b:=by
  rw[TyL] at h
  obtain ⟨a,b,rfl,h1,h2⟩:=h
  have e:=yN h1
  rw[hd] at e
  match a,e with
  | [c],_=>exact⟨c,b,rfl,h1,h2⟩
theorem aM9 {cs:List AV} (h:Ty (.agg [.int .i64,.int .i64,.sl 40 (.agg [.int .i64,.str,.int .i64,.int .i64]),.sl 40 (.agg [.str,.sl 32 (.agg [.int .i64,.int .i64,.int .i64,.int .i64])]),.sl 48 (.agg [.str,.str,.int .i64,.int .i64]),.sl 24 (.agg [.str,.int .i64])]) cs):∃ s:Sta,cs=bJ s∧SzS 140737488351232 s∧TsS s:=by
  rw[Ty] at h
  obtain ⟨c1,b1,rfl,h1,r1⟩:=uR rfl h
  obtain ⟨c2,b2,rfl,h2,r2⟩:=uR rfl r1
  obtain ⟨c3,b3,rfl,h3,r3⟩:=uR rfl r2
  obtain ⟨c4,b4,rfl,h4,r4⟩:=uR rfl r3
  obtain ⟨c5,b5,rfl,h5,r5⟩:=uR rfl r4
  obtain ⟨c6,b6,rfl,h6,r6⟩:=uR rfl r5
  rw[TyL] at r6
  subst r6
  obtain ⟨n,rfl,_⟩:=aG1 h1
  obtain ⟨m,rfl,_⟩:=aG1 h2
  obtain ⟨o,rfl,o1,o2⟩:=ty_ses h3
  obtain ⟨u,rfl,u1,u2⟩:=ty_uss h4
  obtain ⟨b,rfl,b1,b2⟩:=ty_ents h5
  obtain ⟨t,rfl,t1,t2⟩:=ty_tms h6
  exact⟨⟨n,m,o,u,b,t⟩,rfl,⟨o1,u1,b1,t1,fun x hx=>(u2 x hx).2⟩,⟨o2,fun x hx=>(u2 x hx).1,b2,t2⟩⟩
def aP7 (s:Sta):Int:=IntKind.i64.wrap (IntKind.i64.wrap ((fG s:Nat):Int)+(s.usr.length:Nat))
end Go.Abs
set_option linter.unusedVariables false
set_option linter.unusedSimpArgs false
namespace Go.Proofs.YtpkanhklapfajaaGreat
open Go Go.Abs
theorem aRe (s:Sta) (hz:SzS 140737488353280 s) :Den Tryz.prog 15 [.agg (bJ s)]  (·=.agg (bJ s)):=by
 have z1:=hz.o
 have z2:=hz.u
 have z3:=hz.b
 have z4:=hz.t
 have hlm:(s.usr.map usC).length=s.usr.length:=List.length_map _
 have hlt:(s.tmb.map tmC).length=s.tmb.length:=List.length_map _
 refine aR Tryz.func15 rfl (Nat.le_of_ble_eq_true rfl) (fun w0 A hf=>(aC (fun K1 hK1=>(aB (aJ hf rfl (cE rfl rfl (lf rfl)) (bV hf rfl rfl rfl bR (aD (hK1 _ (aC (fun K2 hK2=>(fJ bF ?_)))))))))))
 refine bQ (listed':=#[true,false,false,false,false,false,false,false,false,false,false,false,false]) 0 rfl (by kernel_rfl) (by kernel_rfl) (by kernel_rfl) rfl (fun _ _ h=>h) (kN rfl aA5 cD rfl) ?_
 refine bQ (listed':=#[true,false,true,false,false,false,false,false,false,false,false,false,false]) 2 rfl (by kernel_rfl) (by kernel_rfl) (by kernel_rfl) rfl (fun _ _ h=>h) (kN rfl uG cD rfl) ?_
 refine bQ (listed':=#[true,false,true,false,true,false,false,false,false,false,false,false,false]) 4 rfl (by kernel_rfl) (by kernel_rfl) (by kernel_rfl) rfl (fun _ _ h=>h) (kN rfl aA4 aM6 rfl) ?_
 refine bQ (listed':=#[true,false,true,false,true,false,false,true,false,false,false,false,false]) 7 rfl (by kernel_rfl) (by kernel_rfl) (by kernel_rfl) rfl (fun _ _ h=>h) (kN rfl aA3 aM5 rfl) ?_
 refine aV 0 #[true,true,true,true,true,true,true,true,true,true,true,true,true] ⟨53,[(1,.adr (bJ s)),(2,.ref 2 0 0 0),(3,.ref 3 0 0 0)],[(3,.box [.s (.int .i64 s.now),.s (.int .i64 s.hor),.sl 4 (s.opn.map seC),.s (.slice none 0 0),.sl 4 (s.sub.map enC),.s (.slice none 0 0)]),(2,.box [.s (.int .i64 0),.s (.int .i64 0),.s (.slice none 0 0),.s (.slice none 0 0),.s (.slice none 0 0),.s (.slice none 0 0)])]⟩ ?_ (fun hD0=>?_)
 ·
  refine bS (by kernel_rfl) ?_
  refine hK2 _ (aC (fun K3 hK3=>(aC (fun K4 hK4=>(aB (aAu hf 3 223 2 5 rfl rfl rfl rfl ?_))))))
  refine aAu hf 3 222 2 3 rfl rfl rfl rfl ?_
  refine aE aA 4 rfl (aD (hK4 _ (aM (bM (ι:=Nat) (fun k=>⟨53,[(1,.adr (bJ s)),(2,.ref 2 0 0 0),(3,.ref 3 0 0 0),(20,.sl 2 (s.usr.map usC)),(21,.s (.int .i64 ((s.usr.map usC).length:Nat))),(22,.s (.int .i64 (k:Nat)))],[(222,.buf 2 ((s.usr.take k).map usC)),(223,.buf 2 []),(3,.box [.s (.int .i64 s.now),.s (.int .i64 s.hor),.sl 4 (s.opn.map seC),.own 222 2 0 (s.usr.take k).length,.sl 4 (s.sub.map enC),.own 223 2 0 0]),(2,.box [.s (.int .i64 0),.s (.int .i64 0),.s (.slice none 0 0),.s (.slice none 0 0),.s (.slice none 0 0),.s (.slice none 0 0)])]⟩) (fun k=>k≤s.usr.length) (fun k=>s.usr.length - k) 0 ?_ ?_ ?_))))
  · exact Nat.zero_le _
  · exact cF ⟨rfl,rfl,rfl,rfl,rfl,rfl,trivial⟩ rfl
  ·
   rintro k hC
   refine aC (fun K5 hK5=>(aB (aE aA 1 rfl (aD (hK5 _ (aC (fun K6 hK6=>(aK rfl (fun hc1=>?_) (fun hc1=>?_)))))))))
   ·
    simp only[bs] at hc1
    refine aL (hK6 _ (aC (fun K7 hK7=>(aM (aC (fun K8 hK8=>(aB ?_)))))))
    have hk:k<s.usr.length:=by omega
    have htl:(s.usr.take k).length=k:=by rw[List.length_take]; omega
    refine aG rfl (aY rfl rfl rR oA (by first | exact ixm (by omega) | assumption | exact⟨by decide,rfl⟩)) ?_
    refine aE aA 1 rfl (cA hf rfl aK7 rfl oA rfl rfl rfl rfl (lf rfl) (aD (hK8 _ (fO hf (L:=#[true,true,true,true,true,true,true,true,true,false,false,false]) 9 3 bF (by kernel_rfl) rfl (by kernel_rfl) rfl ?_))))
    refine aT aA 6 rfl (bL [(31,_)] rfl rfl ⟨⟨rfl,rfl⟩,trivial⟩ rfl (aO rfl rfl aO0 rfl (aRd s.usr[k].2 (by have:=hz.y _ (List.getElem_mem hk); omega))) ?_)
    refine bI [(29,_),(32,_)] rfl rfl ⟨⟨rfl,rfl⟩,⟨rfl,rfl⟩,trivial⟩ rfl (bO rfl yI aGn (l3 rfl) rfl) (bL [(33,_)] rfl rfl ⟨⟨rfl,rfl⟩,trivial⟩ rfl (aP lW rfl rfl rfl rfl (l2 rfl)) (pE [1,2,3,20,21,22,27,34] rfl rfl rfl ?_))
    refine aH 9 [] (by kernel_rfl) ⟨?_,trivial⟩
    ·
     refine⟨_,rfl,rfl,(ao rfl (aZ hf rfl lW rfl rfl rfl (.inl rfl) (by rw[List.length_map]) rfl (by first | rfl | simp [dJ,bG]) (by first | (simp only[maxLen,List.length_map,List.length_append,List.length_cons,List.length_nil]; omega) | (simp [maxLen] <;> omega)) (by first | (simp only[List.length_map,List.length_append,List.length_cons,List.length_nil]; omega) | (simp <;> omega)) ?_))⟩
     refine aU (cM [1,2,3,20,21,22,35] rfl) (aF (aH 10 [] (by kernel_rfl) ⟨?_,trivial⟩))
     ·
      refine⟨_,rfl,rfl,(ao rfl (aE aA 1 rfl (aF (aH 11 [] (by kernel_rfl) ⟨?_,trivial⟩))))⟩
      ·
       refine⟨_,rfl,rfl,(ao rfl (bB hf rfl rfl pV rfl rfl (l1 rfl) (l4 rfl) rfl (aF (bS (by kernel_rfl) ?_))))⟩
       refine hK7 _ (aB ?_)
       refine aG rfl (bK rfl rfl (by omega) (by omega)) ?_
       refine aE aA 1 rfl (aD ?_)
       exact⟨k+1,by omega,by omega,cF ⟨rfl,rfl,rfl,rfl,rfl,rfl,trivial⟩ (by rw[nI s.usr usC k hk,oN s.usr k hk]; rfl)⟩
   ·
    simp only[bs] at hc1
    refine aX (hK3 _ (aC (fun K9 hK9=>(aC (fun K10 hK10=>(aB (aE aA 4 rfl (aD (hK10 _ (aM (bM (ι:=Nat) (fun q=>⟨53,[(2,.ref 2 0 0 0),(3,.ref 3 0 0 0),(39,.sl 2 (s.tmb.map tmC)),(40,.s (.int .i64 ((s.tmb.map tmC).length:Nat))),(41,.s (.int .i64 (q:Nat)))],[(223,.buf 2 ((s.tmb.take q).map tmC)),(222,.buf 2 (s.usr.map usC)),(3,.box [.s (.int .i64 s.now),.s (.int .i64 s.hor),.sl 4 (s.opn.map seC),.own 222 2 0 s.usr.length,.sl 4 (s.sub.map enC),.own 223 2 0 (s.tmb.take q).length]),(2,.box [.s (.int .i64 0),.s (.int .i64 0),.s (.slice none 0 0),.s (.slice none 0 0),.s (.slice none 0 0),.s (.slice none 0 0)])]⟩) (fun q=>q≤s.tmb.length) (fun q=>s.tmb.length - q) 0 ?_ ?_ ?_)))))))))))
    · exact Nat.zero_le _
    · exact aTn ⟨rfl,rfl,rfl,rfl,rfl,trivial⟩ (fun g=>by rw[List.take_of_length_le (show s.usr.length≤k by omega)]; exact aRi (by decide))
    ·
     rintro q hC
     refine aC (fun K11 hK11=>(aB (aE aA 1 rfl (aD (hK11 _ (aC (fun K12 hK12=>(aK rfl (fun hc2=>?_) (fun hc2=>?_)))))))))
     ·
      simp only[bs] at hc2
      refine aL (hK12 _ (aC (fun K13 hK13=>(aM (aC (fun K14 hK14=>(aB ?_)))))))
      have hq:q<s.tmb.length:=by omega
      have htl:(s.tmb.take q).length=q:=by rw[List.length_take]; omega
      refine aG rfl (aY rfl rfl aE0 rS (by first | exact ixm (by omega) | assumption | exact⟨by decide,rfl⟩)) ?_
      refine aE aA 1 rfl (cA hf rfl aGm rfl rS rfl rfl rfl rfl (lf rfl) (aD (hK14 _ (aB (aE aA 3 rfl (aJ hf rfl (aP kS rfl rfl rfl rfl (l2 rfl)) (aZ hf rfl kS rfl rfl rfl (.inl rfl) (by rw[List.length_map]) rfl (by first | rfl | simp [dJ,bG]) (by first | (simp only[maxLen,List.length_map,List.length_append,List.length_cons,List.length_nil]; omega) | (simp [maxLen] <;> omega)) (by first | (simp only[List.length_map,List.length_append,List.length_cons,List.length_nil]; omega) | (simp <;> omega)) ?_)))))))
      refine aU (cM [2,3,39,40,41,49] rfl) (aE aA 1 rfl (bB hf rfl rfl uO rfl rfl (l1 rfl) (l4 rfl) rfl ?_))
      refine bH ?_
      refine hK13 _ (aB ?_)
      refine aG rfl (bK rfl rfl (by omega) (by omega)) ?_
      refine aE aA 1 rfl (aD ?_)
      exact⟨q+1,by omega,by omega,cF ⟨rfl,rfl,rfl,rfl,rfl,trivial⟩ (by rw[nI s.tmb tmC q hq,oN s.tmb q hq]; rfl)⟩
     ·
      simp only[bs] at hc2
      refine aX (hK9 _ (aC (fun K15 hK15=>(aB (aG rfl (bZ (cs':=[.s (.int .i64 s.now),.s (.int .i64 s.hor),.sl 4 (s.opn.map seC),.own 222 2 0 s.usr.length,.sl 4 (s.sub.map enC),.own 223 2 0 (s.tmb.take q).length]) rfl nV cP rfl rfl rfl) (bB hf rfl rfl cP rfl rfl (l1 rfl) (l4 rfl) rfl (aD (hK15 _ (aI ?_)))))))))
      refine⟨_,rfl,?_⟩
      show AV.agg [_,_,_,AV.conv _ (.own 222 2 0 s.usr.length),_,AV.conv _ (.own 223 2 0 (s.tmb.take q).length)]=_
      rw[cJ (g:=222) rfl (by rw[List.length_map]),cJ (g:=223) rfl (by rw[List.length_map]),List.take_of_length_le (by omega)]; rfl
 refine aV 1 #[true,true,true,true,true,true,true,true,true,true,true,true,false] ⟨53,[(1,.adr (bJ s)),(2,.ref 2 0 0 0),(3,.ref 3 0 0 0),(18,.agg [.s (.int .i64 s.now),.s (.int .i64 s.hor),.sl 4 (s.opn.map seC),.s (.slice none 0 0),.sl 4 (s.sub.map enC),.s (.slice none 0 0)])],[(3,.box [.s (.int .i64 0),.s (.int .i64 0),.s (.slice none 0 0),.s (.slice none 0 0),.s (.slice none 0 0),.s (.slice none 0 0)]),(2,.box [.s (.int .i64 0),.s (.int .i64 0),.s (.slice none 0 0),.s (.slice none 0 0),.s (.slice none 0 0),.s (.slice none 0 0)])]⟩ ?_ (fun hD1=>?_)
 ·
  refine aH 12 [] (by kernel_rfl) ⟨?_,trivial⟩
  ·
   refine⟨_,rfl,rfl,(ao rfl (bB hf rfl rfl cP rfl rfl (l1 rfl) (l4 rfl) rfl (aF (ag hD0 rfl rfl rfl))))⟩
 refine aV 2 #[true,true,true,true,true,true,true,true,true,true,true,false,false] ⟨53,[(1,.adr (bJ s)),(2,.ref 2 0 0 0),(18,.agg [.s (.int .i64 s.now),.s (.int .i64 s.hor),.sl 4 (s.opn.map seC),.s (.slice none 0 0),.sl 4 (s.sub.map enC),.s (.slice none 0 0)])],[(2,.box [.s (.int .i64 0),.s (.int .i64 0),.s (.slice none 0 0),.s (.slice none 0 0),.s (.slice none 0 0),.s (.slice none 0 0)])]⟩ ?_ (fun hD2=>?_)
 ·
  refine aH 11 [] (by kernel_rfl) ⟨?_,trivial⟩
  ·
   refine⟨_,rfl,rfl,(ao rfl (bV hf rfl rfl rfl bR (aF (ag hD1 rfl rfl rfl))))⟩
 refine aV 2 #[true,true,true,true,true,true,true,true,true,true,false,true,false] ⟨53,[(1,.adr (bJ s)),(2,.ref 2 0 0 0),(3,.ref 3 0 0 0),(9,.s (.int .i64 s.now)),(11,.s (.int .i64 s.hor)),(14,.sl 4 (s.opn.map seC)),(17,.sl 4 (s.sub.map enC))],[(3,.box [.s (.int .i64 0),.s (.int .i64 0),.s (.slice none 0 0),.s (.slice none 0 0),.s (.slice none 0 0),.s (.slice none 0 0)]),(2,.box [.s (.int .i64 0),.s (.int .i64 0),.s (.slice none 0 0),.s (.slice none 0 0),.s (.slice none 0 0),.s (.slice none 0 0)])]⟩ ?_ (fun hD3=>?_)
 ·
  refine aH 10 [] (by kernel_rfl) ⟨?_,trivial⟩
  ·
   refine⟨_,rfl,rfl,(ao rfl (aG rfl (bO rfl bR mZ (l3 rfl) rfl) (aF (ag hD1 rfl rfl rfl))))⟩
 refine aV 3 #[true,true,true,true,true,true,true,true,true,true,false,false,false] ⟨53,[(1,.adr (bJ s)),(2,.ref 2 0 0 0),(9,.s (.int .i64 s.now)),(11,.s (.int .i64 s.hor)),(14,.sl 4 (s.opn.map seC)),(17,.sl 4 (s.sub.map enC))],[(2,.box [.s (.int .i64 0),.s (.int .i64 0),.s (.slice none 0 0),.s (.slice none 0 0),.s (.slice none 0 0),.s (.slice none 0 0)])]⟩ ?_ (fun hD4=>?_)
 ·
  refine aH 10 [11] (by kernel_rfl) ⟨?_,?_,trivial⟩
  ·
   refine⟨_,rfl,rfl,(ao rfl (aG rfl (bO rfl bR mZ (l3 rfl) rfl) (aF (ag hD2 rfl rfl rfl))))⟩
  ·
   refine⟨_,rfl,rfl,(ao rfl (bV hf rfl rfl rfl bR (aF (ag hD3 rfl rfl rfl))))⟩
 refine aV 3 #[true,true,true,true,true,true,true,true,true,false,false,true,false] ⟨53,[(1,.adr (bJ s)),(2,.ref 2 0 0 0),(3,.ref 3 0 0 0),(9,.s (.int .i64 s.now)),(11,.s (.int .i64 s.hor)),(14,.sl 4 (s.opn.map seC)),(16,.sl 4 (s.sub.map enC))],[(3,.box [.s (.int .i64 0),.s (.int .i64 0),.s (.slice none 0 0),.s (.slice none 0 0),.s (.slice none 0 0),.s (.slice none 0 0)]),(2,.box [.s (.int .i64 0),.s (.int .i64 0),.s (.slice none 0 0),.s (.slice none 0 0),.s (.slice none 0 0),.s (.slice none 0 0)])]⟩ ?_ (fun hD5=>?_)
 ·
  refine aH 9 [] (by kernel_rfl) ⟨?_,trivial⟩
  ·
   refine⟨_,rfl,rfl,(ao rfl (aJ hf rfl (aO rfl rfl kI rfl (lO s.sub (by omega))) (aF (ag hD3 rfl rfl rfl))))⟩
 refine aV 3 #[true,true,true,false,true,true,true,true,true,true,false,true,false] ⟨53,[(1,.adr (bJ s)),(2,.ref 2 0 0 0),(3,.ref 3 0 0 0),(9,.s (.int .i64 s.now)),(10,.adr ((bJ s).drop 1)),(14,.sl 4 (s.opn.map seC)),(17,.sl 4 (s.sub.map enC))],[(3,.box [.s (.int .i64 0),.s (.int .i64 0),.s (.slice none 0 0),.s (.slice none 0 0),.s (.slice none 0 0),.s (.slice none 0 0)]),(2,.box [.s (.int .i64 0),.s (.int .i64 0),.s (.slice none 0 0),.s (.slice none 0 0),.s (.slice none 0 0),.s (.slice none 0 0)])]⟩ ?_ (fun hD6=>?_)
 ·
  refine aH 3 [] (by kernel_rfl) ⟨?_,trivial⟩
  ·
   refine⟨_,rfl,rfl,(ao rfl (aE aA 1 rfl (aF (ag hD3 rfl rfl rfl))))⟩
 refine aV 3 #[true,false,true,true,true,true,true,true,true,true,false,true,false] ⟨53,[(1,.adr (bJ s)),(2,.ref 2 0 0 0),(3,.ref 3 0 0 0),(8,.adr ((bJ s).drop 0)),(11,.s (.int .i64 s.hor)),(14,.sl 4 (s.opn.map seC)),(17,.sl 4 (s.sub.map enC))],[(3,.box [.s (.int .i64 0),.s (.int .i64 0),.s (.slice none 0 0),.s (.slice none 0 0),.s (.slice none 0 0),.s (.slice none 0 0)]),(2,.box [.s (.int .i64 0),.s (.int .i64 0),.s (.slice none 0 0),.s (.slice none 0 0),.s (.slice none 0 0),.s (.slice none 0 0)])]⟩ ?_ (fun hD7=>?_)
 ·
  refine aH 1 [] (by kernel_rfl) ⟨?_,trivial⟩
  ·
   refine⟨_,rfl,rfl,(ao rfl (aE aA 1 rfl (aF (ag hD3 rfl rfl rfl))))⟩
 refine aV 4 #[true,true,true,true,true,true,true,true,true,false,false,false,false] ⟨53,[(1,.adr (bJ s)),(2,.ref 2 0 0 0),(9,.s (.int .i64 s.now)),(11,.s (.int .i64 s.hor)),(14,.sl 4 (s.opn.map seC)),(16,.sl 4 (s.sub.map enC))],[(2,.box [.s (.int .i64 0),.s (.int .i64 0),.s (.slice none 0 0),.s (.slice none 0 0),.s (.slice none 0 0),.s (.slice none 0 0)])]⟩ ?_ (fun hD8=>?_)
 ·
  refine aH 9 [11] (by kernel_rfl) ⟨?_,?_,trivial⟩
  ·
   refine⟨_,rfl,rfl,(ao rfl (aJ hf rfl (aO rfl rfl kI rfl (lO s.sub (by omega))) (aF (ag hD4 rfl rfl rfl))))⟩
  ·
   refine⟨_,rfl,rfl,(ao rfl (bV hf rfl rfl rfl bR (aF (ag hD5 rfl rfl rfl))))⟩
 refine aV 4 #[true,true,true,true,true,true,true,true,false,false,false,true,false] ⟨53,[(1,.adr (bJ s)),(2,.ref 2 0 0 0),(3,.ref 3 0 0 0),(9,.s (.int .i64 s.now)),(11,.s (.int .i64 s.hor)),(14,.sl 4 (s.opn.map seC)),(15,.adr ((bJ s).drop 4))],[(3,.box [.s (.int .i64 0),.s (.int .i64 0),.s (.slice none 0 0),.s (.slice none 0 0),.s (.slice none 0 0),.s (.slice none 0 0)]),(2,.box [.s (.int .i64 0),.s (.int .i64 0),.s (.slice none 0 0),.s (.slice none 0 0),.s (.slice none 0 0),.s (.slice none 0 0)])]⟩ ?_ (fun hD9=>?_)
 ·
  refine aH 8 [] (by kernel_rfl) ⟨?_,trivial⟩
  ·
   refine⟨_,rfl,rfl,(ao rfl (aE aA 1 rfl (aF (ag hD5 rfl rfl rfl))))⟩
 refine aV 4 #[true,true,true,true,true,true,false,true,true,false,false,true,false] ⟨53,[(1,.adr (bJ s)),(2,.ref 2 0 0 0),(3,.ref 3 0 0 0),(9,.s (.int .i64 s.now)),(11,.s (.int .i64 s.hor)),(13,.sl 4 (s.opn.map seC)),(16,.sl 4 (s.sub.map enC))],[(3,.box [.s (.int .i64 0),.s (.int .i64 0),.s (.slice none 0 0),.s (.slice none 0 0),.s (.slice none 0 0),.s (.slice none 0 0)]),(2,.box [.s (.int .i64 0),.s (.int .i64 0),.s (.slice none 0 0),.s (.slice none 0 0),.s (.slice none 0 0),.s (.slice none 0 0)])]⟩ ?_ (fun hD10=>?_)
 ·
  refine aH 6 [] (by kernel_rfl) ⟨?_,trivial⟩
  ·
   refine⟨_,rfl,rfl,(ao rfl (aJ hf rfl (aO rfl rfl eV rfl (eT s.opn (by omega))) (aF (ag hD5 rfl rfl rfl))))⟩
 refine aV 4 #[true,true,true,false,true,true,true,true,true,true,false,false,false] ⟨53,[(1,.adr (bJ s)),(2,.ref 2 0 0 0),(9,.s (.int .i64 s.now)),(10,.adr ((bJ s).drop 1)),(14,.sl 4 (s.opn.map seC)),(17,.sl 4 (s.sub.map enC))],[(2,.box [.s (.int .i64 0),.s (.int .i64 0),.s (.slice none 0 0),.s (.slice none 0 0),.s (.slice none 0 0),.s (.slice none 0 0)])]⟩ ?_ (fun hD11=>?_)
 ·
  refine aH 3 [11] (by kernel_rfl) ⟨?_,?_,trivial⟩
  ·
   refine⟨_,rfl,rfl,(ao rfl (aE aA 1 rfl (aF (ag hD4 rfl rfl rfl))))⟩
  ·
   refine⟨_,rfl,rfl,(ao rfl (bV hf rfl rfl rfl bR (aF (ag hD6 rfl rfl rfl))))⟩
 refine aV 4 #[true,true,true,false,true,true,true,true,true,false,false,true,false] ⟨53,[(1,.adr (bJ s)),(2,.ref 2 0 0 0),(3,.ref 3 0 0 0),(9,.s (.int .i64 s.now)),(10,.adr ((bJ s).drop 1)),(14,.sl 4 (s.opn.map seC)),(16,.sl 4 (s.sub.map enC))],[(3,.box [.s (.int .i64 0),.s (.int .i64 0),.s (.slice none 0 0),.s (.slice none 0 0),.s (.slice none 0 0),.s (.slice none 0 0)]),(2,.box [.s (.int .i64 0),.s (.int .i64 0),.s (.slice none 0 0),.s (.slice none 0 0),.s (.slice none 0 0),.s (.slice none 0 0)])]⟩ ?_ (fun hD12=>?_)
 ·
  refine aH 3 [9] (by kernel_rfl) ⟨?_,?_,trivial⟩
  ·
   refine⟨_,rfl,rfl,(ao rfl (aE aA 1 rfl (aF (ag hD5 rfl rfl rfl))))⟩
  ·
   refine⟨_,rfl,rfl,(ao rfl (aJ hf rfl (aO rfl rfl kI rfl (lO s.sub (by omega))) (aF (ag hD6 rfl rfl rfl))))⟩
 refine aV 4 #[true,false,true,true,true,true,true,true,true,true,false,false,false] ⟨53,[(1,.adr (bJ s)),(2,.ref 2 0 0 0),(8,.adr ((bJ s).drop 0)),(11,.s (.int .i64 s.hor)),(14,.sl 4 (s.opn.map seC)),(17,.sl 4 (s.sub.map enC))],[(2,.box [.s (.int .i64 0),.s (.int .i64 0),.s (.slice none 0 0),.s (.slice none 0 0),.s (.slice none 0 0),.s (.slice none 0 0)])]⟩ ?_ (fun hD13=>?_)
 ·
  refine aH 1 [11] (by kernel_rfl) ⟨?_,?_,trivial⟩
  ·
   refine⟨_,rfl,rfl,(ao rfl (aE aA 1 rfl (aF (ag hD4 rfl rfl rfl))))⟩
  ·
   refine⟨_,rfl,rfl,(ao rfl (bV hf rfl rfl rfl bR (aF (ag hD7 rfl rfl rfl))))⟩
 refine aV 4 #[true,false,true,true,true,true,true,true,true,false,false,true,false] ⟨53,[(1,.adr (bJ s)),(2,.ref 2 0 0 0),(3,.ref 3 0 0 0),(8,.adr ((bJ s).drop 0)),(11,.s (.int .i64 s.hor)),(14,.sl 4 (s.opn.map seC)),(16,.sl 4 (s.sub.map enC))],[(3,.box [.s (.int .i64 0),.s (.int .i64 0),.s (.slice none 0 0),.s (.slice none 0 0),.s (.slice none 0 0),.s (.slice none 0 0)]),(2,.box [.s (.int .i64 0),.s (.int .i64 0),.s (.slice none 0 0),.s (.slice none 0 0),.s (.slice none 0 0),.s (.slice none 0 0)])]⟩ ?_ (fun hD14=>?_)
 ·
  refine aH 1 [9] (by kernel_rfl) ⟨?_,?_,trivial⟩
  ·
   refine⟨_,rfl,rfl,(ao rfl (aE aA 1 rfl (aF (ag hD5 rfl rfl rfl))))⟩
  ·
   refine⟨_,rfl,rfl,(ao rfl (aJ hf rfl (aO rfl rfl kI rfl (lO s.sub (by omega))) (aF (ag hD7 rfl rfl rfl))))⟩
 refine aV 4 #[true,false,true,false,true,true,true,true,true,true,false,true,false] ⟨53,[(1,.adr (bJ s)),(2,.ref 2 0 0 0),(3,.ref 3 0 0 0),(8,.adr ((bJ s).drop 0)),(10,.adr ((bJ s).drop 1)),(14,.sl 4 (s.opn.map seC)),(17,.sl 4 (s.sub.map enC))],[(3,.box [.s (.int .i64 0),.s (.int .i64 0),.s (.slice none 0 0),.s (.slice none 0 0),.s (.slice none 0 0),.s (.slice none 0 0)]),(2,.box [.s (.int .i64 0),.s (.int .i64 0),.s (.slice none 0 0),.s (.slice none 0 0),.s (.slice none 0 0),.s (.slice none 0 0)])]⟩ ?_ (fun hD15=>?_)
 ·
  refine aH 1 [3] (by kernel_rfl) ⟨?_,?_,trivial⟩
  ·
   refine⟨_,rfl,rfl,(ao rfl (aE aA 1 rfl (aF (ag hD6 rfl rfl rfl))))⟩
  ·
   refine⟨_,rfl,rfl,(ao rfl (aE aA 1 rfl (aF (ag hD7 rfl rfl rfl))))⟩
 refine aV 5 #[true,true,true,true,true,true,true,true,false,false,false,false,false] ⟨53,[(1,.adr (bJ s)),(2,.ref 2 0 0 0),(9,.s (.int .i64 s.now)),(11,.s (.int .i64 s.hor)),(14,.sl 4 (s.opn.map seC)),(15,.adr ((bJ s).drop 4))],[(2,.box [.s (.int .i64 0),.s (.int .i64 0),.s (.slice none 0 0),.s (.slice none 0 0),.s (.slice none 0 0),.s (.slice none 0 0)])]⟩ ?_ (fun hD16=>?_)
 ·
  refine aH 8 [11] (by kernel_rfl) ⟨?_,?_,trivial⟩
  ·
   refine⟨_,rfl,rfl,(ao rfl (aE aA 1 rfl (aF (ag hD8 rfl rfl rfl))))⟩
  ·
   refine⟨_,rfl,rfl,(ao rfl (bV hf rfl rfl rfl bR (aF (ag hD9 rfl rfl rfl))))⟩
 refine aV 5 #[true,true,true,true,true,true,false,true,true,false,false,false,false] ⟨53,[(1,.adr (bJ s)),(2,.ref 2 0 0 0),(9,.s (.int .i64 s.now)),(11,.s (.int .i64 s.hor)),(13,.sl 4 (s.opn.map seC)),(16,.sl 4 (s.sub.map enC))],[(2,.box [.s (.int .i64 0),.s (.int .i64 0),.s (.slice none 0 0),.s (.slice none 0 0),.s (.slice none 0 0),.s (.slice none 0 0)])]⟩ ?_ (fun hD17=>?_)
 ·
  refine aH 6 [11] (by kernel_rfl) ⟨?_,?_,trivial⟩
  ·
   refine⟨_,rfl,rfl,(ao rfl (aJ hf rfl (aO rfl rfl eV rfl (eT s.opn (by omega))) (aF (ag hD8 rfl rfl rfl))))⟩
  ·
   refine⟨_,rfl,rfl,(ao rfl (bV hf rfl rfl rfl bR (aF (ag hD10 rfl rfl rfl))))⟩
 refine aV 5 #[true,true,true,true,true,true,false,true,false,false,false,true,false] ⟨53,[(1,.adr (bJ s)),(2,.ref 2 0 0 0),(3,.ref 3 0 0 0),(9,.s (.int .i64 s.now)),(11,.s (.int .i64 s.hor)),(13,.sl 4 (s.opn.map seC)),(15,.adr ((bJ s).drop 4))],[(3,.box [.s (.int .i64 0),.s (.int .i64 0),.s (.slice none 0 0),.s (.slice none 0 0),.s (.slice none 0 0),.s (.slice none 0 0)]),(2,.box [.s (.int .i64 0),.s (.int .i64 0),.s (.slice none 0 0),.s (.slice none 0 0),.s (.slice none 0 0),.s (.slice none 0 0)])]⟩ ?_ (fun hD18=>?_)
 ·
  refine aH 6 [8] (by kernel_rfl) ⟨?_,?_,trivial⟩
  ·
   refine⟨_,rfl,rfl,(ao rfl (aJ hf rfl (aO rfl rfl eV rfl (eT s.opn (by omega))) (aF (ag hD9 rfl rfl rfl))))⟩
  ·
   refine⟨_,rfl,rfl,(ao rfl (aE aA 1 rfl (aF (ag hD10 rfl rfl rfl))))⟩
 refine aV 5 #[true,true,true,true,true,false,false,true,true,false,false,true,false] ⟨53,[(1,.adr (bJ s)),(2,.ref 2 0 0 0),(3,.ref 3 0 0 0),(9,.s (.int .i64 s.now)),(11,.s (.int .i64 s.hor)),(12,.adr ((bJ s).drop 2)),(16,.sl 4 (s.sub.map enC))],[(3,.box [.s (.int .i64 0),.s (.int .i64 0),.s (.slice none 0 0),.s (.slice none 0 0),.s (.slice none 0 0),.s (.slice none 0 0)]),(2,.box [.s (.int .i64 0),.s (.int .i64 0),.s (.slice none 0 0),.s (.slice none 0 0),.s (.slice none 0 0),.s (.slice none 0 0)])]⟩ ?_ (fun hD19=>?_)
 ·
  refine aH 5 [] (by kernel_rfl) ⟨?_,trivial⟩
  ·
   refine⟨_,rfl,rfl,(ao rfl (aE aA 1 rfl (aF (ag hD10 rfl rfl rfl))))⟩
 refine aV 5 #[true,true,true,false,true,true,true,true,true,false,false,false,false] ⟨53,[(1,.adr (bJ s)),(2,.ref 2 0 0 0),(9,.s (.int .i64 s.now)),(10,.adr ((bJ s).drop 1)),(14,.sl 4 (s.opn.map seC)),(16,.sl 4 (s.sub.map enC))],[(2,.box [.s (.int .i64 0),.s (.int .i64 0),.s (.slice none 0 0),.s (.slice none 0 0),.s (.slice none 0 0),.s (.slice none 0 0)])]⟩ ?_ (fun hD20=>?_)
 ·
  refine aH 3 [9,11] (by kernel_rfl) ⟨?_,?_,?_,trivial⟩
  ·
   refine⟨_,rfl,rfl,(ao rfl (aE aA 1 rfl (aF (ag hD8 rfl rfl rfl))))⟩
  ·
   refine⟨_,rfl,rfl,(ao rfl (aJ hf rfl (aO rfl rfl kI rfl (lO s.sub (by omega))) (aF (ag hD11 rfl rfl rfl))))⟩
  ·
   refine⟨_,rfl,rfl,(ao rfl (bV hf rfl rfl rfl bR (aF (ag hD12 rfl rfl rfl))))⟩
 refine aV 5 #[true,true,true,false,true,true,true,true,false,false,false,true,false] ⟨53,[(1,.adr (bJ s)),(2,.ref 2 0 0 0),(3,.ref 3 0 0 0),(9,.s (.int .i64 s.now)),(10,.adr ((bJ s).drop 1)),(14,.sl 4 (s.opn.map seC)),(15,.adr ((bJ s).drop 4))],[(3,.box [.s (.int .i64 0),.s (.int .i64 0),.s (.slice none 0 0),.s (.slice none 0 0),.s (.slice none 0 0),.s (.slice none 0 0)]),(2,.box [.s (.int .i64 0),.s (.int .i64 0),.s (.slice none 0 0),.s (.slice none 0 0),.s (.slice none 0 0),.s (.slice none 0 0)])]⟩ ?_ (fun hD21=>?_)
 ·
  refine aH 3 [8] (by kernel_rfl) ⟨?_,?_,trivial⟩
  ·
   refine⟨_,rfl,rfl,(ao rfl (aE aA 1 rfl (aF (ag hD9 rfl rfl rfl))))⟩
  ·
   refine⟨_,rfl,rfl,(ao rfl (aE aA 1 rfl (aF (ag hD12 rfl rfl rfl))))⟩
 refine aV 5 #[true,true,true,false,true,true,false,true,true,false,false,true,false] ⟨53,[(1,.adr (bJ s)),(2,.ref 2 0 0 0),(3,.ref 3 0 0 0),(9,.s (.int .i64 s.now)),(10,.adr ((bJ s).drop 1)),(13,.sl 4 (s.opn.map seC)),(16,.sl 4 (s.sub.map enC))],[(3,.box [.s (.int .i64 0),.s (.int .i64 0),.s (.slice none 0 0),.s (.slice none 0 0),.s (.slice none 0 0),.s (.slice none 0 0)]),(2,.box [.s (.int .i64 0),.s (.int .i64 0),.s (.slice none 0 0),.s (.slice none 0 0),.s (.slice none 0 0),.s (.slice none 0 0)])]⟩ ?_ (fun hD22=>?_)
 ·
  refine aH 3 [6] (by kernel_rfl) ⟨?_,?_,trivial⟩
  ·
   refine⟨_,rfl,rfl,(ao rfl (aE aA 1 rfl (aF (ag hD10 rfl rfl rfl))))⟩
  ·
   refine⟨_,rfl,rfl,(ao rfl (aJ hf rfl (aO rfl rfl eV rfl (eT s.opn (by omega))) (aF (ag hD12 rfl rfl rfl))))⟩
 refine aV 5 #[true,false,true,true,true,true,true,true,true,false,false,false,false] ⟨53,[(1,.adr (bJ s)),(2,.ref 2 0 0 0),(8,.adr ((bJ s).drop 0)),(11,.s (.int .i64 s.hor)),(14,.sl 4 (s.opn.map seC)),(16,.sl 4 (s.sub.map enC))],[(2,.box [.s (.int .i64 0),.s (.int .i64 0),.s (.slice none 0 0),.s (.slice none 0 0),.s (.slice none 0 0),.s (.slice none 0 0)])]⟩ ?_ (fun hD23=>?_)
 ·
  refine aH 1 [9,11] (by kernel_rfl) ⟨?_,?_,?_,trivial⟩
  ·
   refine⟨_,rfl,rfl,(ao rfl (aE aA 1 rfl (aF (ag hD8 rfl rfl rfl))))⟩
  ·
   refine⟨_,rfl,rfl,(ao rfl (aJ hf rfl (aO rfl rfl kI rfl (lO s.sub (by omega))) (aF (ag hD13 rfl rfl rfl))))⟩
  ·
   refine⟨_,rfl,rfl,(ao rfl (bV hf rfl rfl rfl bR (aF (ag hD14 rfl rfl rfl))))⟩
 refine aV 5 #[true,false,true,true,true,true,true,true,false,false,false,true,false] ⟨53,[(1,.adr (bJ s)),(2,.ref 2 0 0 0),(3,.ref 3 0 0 0),(8,.adr ((bJ s).drop 0)),(11,.s (.int .i64 s.hor)),(14,.sl 4 (s.opn.map seC)),(15,.adr ((bJ s).drop 4))],[(3,.box [.s (.int .i64 0),.s (.int .i64 0),.s (.slice none 0 0),.s (.slice none 0 0),.s (.slice none 0 0),.s (.slice none 0 0)]),(2,.box [.s (.int .i64 0),.s (.int .i64 0),.s (.slice none 0 0),.s (.slice none 0 0),.s (.slice none 0 0),.s (.slice none 0 0)])]⟩ ?_ (fun hD24=>?_)
 ·
  refine aH 1 [8] (by kernel_rfl) ⟨?_,?_,trivial⟩
  ·
   refine⟨_,rfl,rfl,(ao rfl (aE aA 1 rfl (aF (ag hD9 rfl rfl rfl))))⟩
  ·
   refine⟨_,rfl,rfl,(ao rfl (aE aA 1 rfl (aF (ag hD14 rfl rfl rfl))))⟩
 refine aV 5 #[true,false,true,true,true,true,false,true,true,false,false,true,false] ⟨53,[(1,.adr (bJ s)),(2,.ref 2 0 0 0),(3,.ref 3 0 0 0),(8,.adr ((bJ s).drop 0)),(11,.s (.int .i64 s.hor)),(13,.sl 4 (s.opn.map seC)),(16,.sl 4 (s.sub.map enC))],[(3,.box [.s (.int .i64 0),.s (.int .i64 0),.s (.slice none 0 0),.s (.slice none 0 0),.s (.slice none 0 0),.s (.slice none 0 0)]),(2,.box [.s (.int .i64 0),.s (.int .i64 0),.s (.slice none 0 0),.s (.slice none 0 0),.s (.slice none 0 0),.s (.slice none 0 0)])]⟩ ?_ (fun hD25=>?_)
 ·
  refine aH 1 [6] (by kernel_rfl) ⟨?_,?_,trivial⟩
  ·
   refine⟨_,rfl,rfl,(ao rfl (aE aA 1 rfl (aF (ag hD10 rfl rfl rfl))))⟩
  ·
   refine⟨_,rfl,rfl,(ao rfl (aJ hf rfl (aO rfl rfl eV rfl (eT s.opn (by omega))) (aF (ag hD14 rfl rfl rfl))))⟩
 refine aV 5 #[true,false,true,false,true,true,true,true,true,true,false,false,false] ⟨53,[(1,.adr (bJ s)),(2,.ref 2 0 0 0),(8,.adr ((bJ s).drop 0)),(10,.adr ((bJ s).drop 1)),(14,.sl 4 (s.opn.map seC)),(17,.sl 4 (s.sub.map enC))],[(2,.box [.s (.int .i64 0),.s (.int .i64 0),.s (.slice none 0 0),.s (.slice none 0 0),.s (.slice none 0 0),.s (.slice none 0 0)])]⟩ ?_ (fun hD26=>?_)
 ·
  refine aH 1 [3,11] (by kernel_rfl) ⟨?_,?_,?_,trivial⟩
  ·
   refine⟨_,rfl,rfl,(ao rfl (aE aA 1 rfl (aF (ag hD11 rfl rfl rfl))))⟩
  ·
   refine⟨_,rfl,rfl,(ao rfl (aE aA 1 rfl (aF (ag hD13 rfl rfl rfl))))⟩
  ·
   refine⟨_,rfl,rfl,(ao rfl (bV hf rfl rfl rfl bR (aF (ag hD15 rfl rfl rfl))))⟩
 refine aV 5 #[true,false,true,false,true,true,true,true,true,false,false,true,false] ⟨53,[(1,.adr (bJ s)),(2,.ref 2 0 0 0),(3,.ref 3 0 0 0),(8,.adr ((bJ s).drop 0)),(10,.adr ((bJ s).drop 1)),(14,.sl 4 (s.opn.map seC)),(16,.sl 4 (s.sub.map enC))],[(3,.box [.s (.int .i64 0),.s (.int .i64 0),.s (.slice none 0 0),.s (.slice none 0 0),.s (.slice none 0 0),.s (.slice none 0 0)]),(2,.box [.s (.int .i64 0),.s (.int .i64 0),.s (.slice none 0 0),.s (.slice none 0 0),.s (.slice none 0 0),.s (.slice none 0 0)])]⟩ ?_ (fun hD27=>?_)
 ·
  refine aH 1 [3,9] (by kernel_rfl) ⟨?_,?_,?_,trivial⟩
  ·
   refine⟨_,rfl,rfl,(ao rfl (aE aA 1 rfl (aF (ag hD12 rfl rfl rfl))))⟩
  ·
   refine⟨_,rfl,rfl,(ao rfl (aE aA 1 rfl (aF (ag hD14 rfl rfl rfl))))⟩
  ·
   refine⟨_,rfl,rfl,(ao rfl (aJ hf rfl (aO rfl rfl kI rfl (lO s.sub (by omega))) (aF (ag hD15 rfl rfl rfl))))⟩
 refine aV 6 #[true,true,true,true,true,true,false,true,false,false,false,false,false] ⟨53,[(1,.adr (bJ s)),(2,.ref 2 0 0 0),(9,.s (.int .i64 s.now)),(11,.s (.int .i64 s.hor)),(13,.sl 4 (s.opn.map seC)),(15,.adr ((bJ s).drop 4))],[(2,.box [.s (.int .i64 0),.s (.int .i64 0),.s (.slice none 0 0),.s (.slice none 0 0),.s (.slice none 0 0),.s (.slice none 0 0)])]⟩ ?_ (fun hD28=>?_)
 ·
  refine aH 6 [8,11] (by kernel_rfl) ⟨?_,?_,?_,trivial⟩
  ·
   refine⟨_,rfl,rfl,(ao rfl (aJ hf rfl (aO rfl rfl eV rfl (eT s.opn (by omega))) (aF (ag hD16 rfl rfl rfl))))⟩
  ·
   refine⟨_,rfl,rfl,(ao rfl (aE aA 1 rfl (aF (ag hD17 rfl rfl rfl))))⟩
  ·
   refine⟨_,rfl,rfl,(ao rfl (bV hf rfl rfl rfl bR (aF (ag hD18 rfl rfl rfl))))⟩
 refine aV 6 #[true,true,true,true,true,false,false,true,true,false,false,false,false] ⟨53,[(1,.adr (bJ s)),(2,.ref 2 0 0 0),(9,.s (.int .i64 s.now)),(11,.s (.int .i64 s.hor)),(12,.adr ((bJ s).drop 2)),(16,.sl 4 (s.sub.map enC))],[(2,.box [.s (.int .i64 0),.s (.int .i64 0),.s (.slice none 0 0),.s (.slice none 0 0),.s (.slice none 0 0),.s (.slice none 0 0)])]⟩ ?_ (fun hD29=>?_)
 ·
  refine aH 5 [11] (by kernel_rfl) ⟨?_,?_,trivial⟩
  ·
   refine⟨_,rfl,rfl,(ao rfl (aE aA 1 rfl (aF (ag hD17 rfl rfl rfl))))⟩
  ·
   refine⟨_,rfl,rfl,(ao rfl (bV hf rfl rfl rfl bR (aF (ag hD19 rfl rfl rfl))))⟩
 refine aV 6 #[true,true,true,true,true,false,false,true,false,false,false,true,false] ⟨53,[(1,.adr (bJ s)),(2,.ref 2 0 0 0),(3,.ref 3 0 0 0),(9,.s (.int .i64 s.now)),(11,.s (.int .i64 s.hor)),(12,.adr ((bJ s).drop 2)),(15,.adr ((bJ s).drop 4))],[(3,.box [.s (.int .i64 0),.s (.int .i64 0),.s (.slice none 0 0),.s (.slice none 0 0),.s (.slice none 0 0),.s (.slice none 0 0)]),(2,.box [.s (.int .i64 0),.s (.int .i64 0),.s (.slice none 0 0),.s (.slice none 0 0),.s (.slice none 0 0),.s (.slice none 0 0)])]⟩ ?_ (fun hD30=>?_)
 ·
  refine aH 5 [8] (by kernel_rfl) ⟨?_,?_,trivial⟩
  ·
   refine⟨_,rfl,rfl,(ao rfl (aE aA 1 rfl (aF (ag hD18 rfl rfl rfl))))⟩
  ·
   refine⟨_,rfl,rfl,(ao rfl (aE aA 1 rfl (aF (ag hD19 rfl rfl rfl))))⟩
 refine aV 6 #[true,true,true,false,true,true,true,true,false,false,false,false,false] ⟨53,[(1,.adr (bJ s)),(2,.ref 2 0 0 0),(9,.s (.int .i64 s.now)),(10,.adr ((bJ s).drop 1)),(14,.sl 4 (s.opn.map seC)),(15,.adr ((bJ s).drop 4))],[(2,.box [.s (.int .i64 0),.s (.int .i64 0),.s (.slice none 0 0),.s (.slice none 0 0),.s (.slice none 0 0),.s (.slice none 0 0)])]⟩ ?_ (fun hD31=>?_)
 ·
  refine aH 3 [8,11] (by kernel_rfl) ⟨?_,?_,?_,trivial⟩
  ·
   refine⟨_,rfl,rfl,(ao rfl (aE aA 1 rfl (aF (ag hD16 rfl rfl rfl))))⟩
  ·
   refine⟨_,rfl,rfl,(ao rfl (aE aA 1 rfl (aF (ag hD20 rfl rfl rfl))))⟩
  ·
   refine⟨_,rfl,rfl,(ao rfl (bV hf rfl rfl rfl bR (aF (ag hD21 rfl rfl rfl))))⟩
 refine aV 6 #[true,true,true,false,true,true,false,true,true,false,false,false,false] ⟨53,[(1,.adr (bJ s)),(2,.ref 2 0 0 0),(9,.s (.int .i64 s.now)),(10,.adr ((bJ s).drop 1)),(13,.sl 4 (s.opn.map seC)),(16,.sl 4 (s.sub.map enC))],[(2,.box [.s (.int .i64 0),.s (.int .i64 0),.s (.slice none 0 0),.s (.slice none 0 0),.s (.slice none 0 0),.s (.slice none 0 0)])]⟩ ?_ (fun hD32=>?_)
 ·
  refine aH 3 [6,11] (by kernel_rfl) ⟨?_,?_,?_,trivial⟩
  ·
   refine⟨_,rfl,rfl,(ao rfl (aE aA 1 rfl (aF (ag hD17 rfl rfl rfl))))⟩
  ·
   refine⟨_,rfl,rfl,(ao rfl (aJ hf rfl (aO rfl rfl eV rfl (eT s.opn (by omega))) (aF (ag hD20 rfl rfl rfl))))⟩
  ·
   refine⟨_,rfl,rfl,(ao rfl (bV hf rfl rfl rfl bR (aF (ag hD22 rfl rfl rfl))))⟩
 refine aV 6 #[true,true,true,false,true,true,false,true,false,false,false,true,false] ⟨53,[(1,.adr (bJ s)),(2,.ref 2 0 0 0),(3,.ref 3 0 0 0),(9,.s (.int .i64 s.now)),(10,.adr ((bJ s).drop 1)),(13,.sl 4 (s.opn.map seC)),(15,.adr ((bJ s).drop 4))],[(3,.box [.s (.int .i64 0),.s (.int .i64 0),.s (.slice none 0 0),.s (.slice none 0 0),.s (.slice none 0 0),.s (.slice none 0 0)]),(2,.box [.s (.int .i64 0),.s (.int .i64 0),.s (.slice none 0 0),.s (.slice none 0 0),.s (.slice none 0 0),.s (.slice none 0 0)])]⟩ ?_ (fun hD33=>?_)
 ·
  refine aH 3 [6,8] (by kernel_rfl) ⟨?_,?_,?_,trivial⟩
  ·
   refine⟨_,rfl,rfl,(ao rfl (aE aA 1 rfl (aF (ag hD18 rfl rfl rfl))))⟩
  ·
   refine⟨_,rfl,rfl,(ao rfl (aJ hf rfl (aO rfl rfl eV rfl (eT s.opn (by omega))) (aF (ag hD21 rfl rfl rfl))))⟩
  ·
   refine⟨_,rfl,rfl,(ao rfl (aE aA 1 rfl (aF (ag hD22 rfl rfl rfl))))⟩
 refine aV 6 #[true,true,true,false,true,false,false,true,true,false,false,true,false] ⟨53,[(1,.adr (bJ s)),(2,.ref 2 0 0 0),(3,.ref 3 0 0 0),(9,.s (.int .i64 s.now)),(10,.adr ((bJ s).drop 1)),(12,.adr ((bJ s).drop 2)),(16,.sl 4 (s.sub.map enC))],[(3,.box [.s (.int .i64 0),.s (.int .i64 0),.s (.slice none 0 0),.s (.slice none 0 0),.s (.slice none 0 0),.s (.slice none 0 0)]),(2,.box [.s (.int .i64 0),.s (.int .i64 0),.s (.slice none 0 0),.s (.slice none 0 0),.s (.slice none 0 0),.s (.slice none 0 0)])]⟩ ?_ (fun hD34=>?_)
 ·
  refine aH 3 [5] (by kernel_rfl) ⟨?_,?_,trivial⟩
  ·
   refine⟨_,rfl,rfl,(ao rfl (aE aA 1 rfl (aF (ag hD19 rfl rfl rfl))))⟩
  ·
   refine⟨_,rfl,rfl,(ao rfl (aE aA 1 rfl (aF (ag hD22 rfl rfl rfl))))⟩
 refine aV 6 #[true,false,true,true,true,true,true,true,false,false,false,false,false] ⟨53,[(1,.adr (bJ s)),(2,.ref 2 0 0 0),(8,.adr ((bJ s).drop 0)),(11,.s (.int .i64 s.hor)),(14,.sl 4 (s.opn.map seC)),(15,.adr ((bJ s).drop 4))],[(2,.box [.s (.int .i64 0),.s (.int .i64 0),.s (.slice none 0 0),.s (.slice none 0 0),.s (.slice none 0 0),.s (.slice none 0 0)])]⟩ ?_ (fun hD35=>?_)
 ·
  refine aH 1 [8,11] (by kernel_rfl) ⟨?_,?_,?_,trivial⟩
  ·
   refine⟨_,rfl,rfl,(ao rfl (aE aA 1 rfl (aF (ag hD16 rfl rfl rfl))))⟩
  ·
   refine⟨_,rfl,rfl,(ao rfl (aE aA 1 rfl (aF (ag hD23 rfl rfl rfl))))⟩
  ·
   refine⟨_,rfl,rfl,(ao rfl (bV hf rfl rfl rfl bR (aF (ag hD24 rfl rfl rfl))))⟩
 refine aV 6 #[true,false,true,true,true,true,false,true,true,false,false,false,false] ⟨53,[(1,.adr (bJ s)),(2,.ref 2 0 0 0),(8,.adr ((bJ s).drop 0)),(11,.s (.int .i64 s.hor)),(13,.sl 4 (s.opn.map seC)),(16,.sl 4 (s.sub.map enC))],[(2,.box [.s (.int .i64 0),.s (.int .i64 0),.s (.slice none 0 0),.s (.slice none 0 0),.s (.slice none 0 0),.s (.slice none 0 0)])]⟩ ?_ (fun hD36=>?_)
 ·
  refine aH 1 [6,11] (by kernel_rfl) ⟨?_,?_,?_,trivial⟩
  ·
   refine⟨_,rfl,rfl,(ao rfl (aE aA 1 rfl (aF (ag hD17 rfl rfl rfl))))⟩
  ·
   refine⟨_,rfl,rfl,(ao rfl (aJ hf rfl (aO rfl rfl eV rfl (eT s.opn (by omega))) (aF (ag hD23 rfl rfl rfl))))⟩
  ·
   refine⟨_,rfl,rfl,(ao rfl (bV hf rfl rfl rfl bR (aF (ag hD25 rfl rfl rfl))))⟩
 refine aV 6 #[true,false,true,true,true,true,false,true,false,false,false,true,false] ⟨53,[(1,.adr (bJ s)),(2,.ref 2 0 0 0),(3,.ref 3 0 0 0),(8,.adr ((bJ s).drop 0)),(11,.s (.int .i64 s.hor)),(13,.sl 4 (s.opn.map seC)),(15,.adr ((bJ s).drop 4))],[(3,.box [.s (.int .i64 0),.s (.int .i64 0),.s (.slice none 0 0),.s (.slice none 0 0),.s (.slice none 0 0),.s (.slice none 0 0)]),(2,.box [.s (.int .i64 0),.s (.int .i64 0),.s (.slice none 0 0),.s (.slice none 0 0),.s (.slice none 0 0),.s (.slice none 0 0)])]⟩ ?_ (fun hD37=>?_)
 ·
  refine aH 1 [6,8] (by kernel_rfl) ⟨?_,?_,?_,trivial⟩
  ·
   refine⟨_,rfl,rfl,(ao rfl (aE aA 1 rfl (aF (ag hD18 rfl rfl rfl))))⟩
  ·
   refine⟨_,rfl,rfl,(ao rfl (aJ hf rfl (aO rfl rfl eV rfl (eT s.opn (by omega))) (aF (ag hD24 rfl rfl rfl))))⟩
  ·
   refine⟨_,rfl,rfl,(ao rfl (aE aA 1 rfl (aF (ag hD25 rfl rfl rfl))))⟩
 refine aV 6 #[true,false,true,true,true,false,false,true,true,false,false,true,false] ⟨53,[(1,.adr (bJ s)),(2,.ref 2 0 0 0),(3,.ref 3 0 0 0),(8,.adr ((bJ s).drop 0)),(11,.s (.int .i64 s.hor)),(12,.adr ((bJ s).drop 2)),(16,.sl 4 (s.sub.map enC))],[(3,.box [.s (.int .i64 0),.s (.int .i64 0),.s (.slice none 0 0),.s (.slice none 0 0),.s (.slice none 0 0),.s (.slice none 0 0)]),(2,.box [.s (.int .i64 0),.s (.int .i64 0),.s (.slice none 0 0),.s (.slice none 0 0),.s (.slice none 0 0),.s (.slice none 0 0)])]⟩ ?_ (fun hD38=>?_)
 ·
  refine aH 1 [5] (by kernel_rfl) ⟨?_,?_,trivial⟩
  ·
   refine⟨_,rfl,rfl,(ao rfl (aE aA 1 rfl (aF (ag hD19 rfl rfl rfl))))⟩
  ·
   refine⟨_,rfl,rfl,(ao rfl (aE aA 1 rfl (aF (ag hD25 rfl rfl rfl))))⟩
 refine aV 6 #[true,false,true,false,true,true,true,true,true,false,false,false,false] ⟨53,[(1,.adr (bJ s)),(2,.ref 2 0 0 0),(8,.adr ((bJ s).drop 0)),(10,.adr ((bJ s).drop 1)),(14,.sl 4 (s.opn.map seC)),(16,.sl 4 (s.sub.map enC))],[(2,.box [.s (.int .i64 0),.s (.int .i64 0),.s (.slice none 0 0),.s (.slice none 0 0),.s (.slice none 0 0),.s (.slice none 0 0)])]⟩ ?_ (fun hD39=>?_)
 ·
  refine aH 1 [3,9,11] (by kernel_rfl) ⟨?_,?_,?_,?_,trivial⟩
  ·
   refine⟨_,rfl,rfl,(ao rfl (aE aA 1 rfl (aF (ag hD20 rfl rfl rfl))))⟩
  ·
   refine⟨_,rfl,rfl,(ao rfl (aE aA 1 rfl (aF (ag hD23 rfl rfl rfl))))⟩
  ·
   refine⟨_,rfl,rfl,(ao rfl (aJ hf rfl (aO rfl rfl kI rfl (lO s.sub (by omega))) (aF (ag hD26 rfl rfl rfl))))⟩
  ·
   refine⟨_,rfl,rfl,(ao rfl (bV hf rfl rfl rfl bR (aF (ag hD27 rfl rfl rfl))))⟩
 refine aV 6 #[true,false,true,false,true,true,true,true,false,false,false,true,false] ⟨53,[(1,.adr (bJ s)),(2,.ref 2 0 0 0),(3,.ref 3 0 0 0),(8,.adr ((bJ s).drop 0)),(10,.adr ((bJ s).drop 1)),(14,.sl 4 (s.opn.map seC)),(15,.adr ((bJ s).drop 4))],[(3,.box [.s (.int .i64 0),.s (.int .i64 0),.s (.slice none 0 0),.s (.slice none 0 0),.s (.slice none 0 0),.s (.slice none 0 0)]),(2,.box [.s (.int .i64 0),.s (.int .i64 0),.s (.slice none 0 0),.s (.slice none 0 0),.s (.slice none 0 0),.s (.slice none 0 0)])]⟩ ?_ (fun hD40=>?_)
 ·
  refine aH 1 [3,8] (by kernel_rfl) ⟨?_,?_,?_,trivial⟩
  ·
   refine⟨_,rfl,rfl,(ao rfl (aE aA 1 rfl (aF (ag hD21 rfl rfl rfl))))⟩
  ·
   refine⟨_,rfl,rfl,(ao rfl (aE aA 1 rfl (aF (ag hD24 rfl rfl rfl))))⟩
  ·
   refine⟨_,rfl,rfl,(ao rfl (aE aA 1 rfl (aF (ag hD27 rfl rfl rfl))))⟩
 refine aV 6 #[true,false,true,false,true,true,false,true,true,false,false,true,false] ⟨53,[(1,.adr (bJ s)),(2,.ref 2 0 0 0),(3,.ref 3 0 0 0),(8,.adr ((bJ s).drop 0)),(10,.adr ((bJ s).drop 1)),(13,.sl 4 (s.opn.map seC)),(16,.sl 4 (s.sub.map enC))],[(3,.box [.s (.int .i64 0),.s (.int .i64 0),.s (.slice none 0 0),.s (.slice none 0 0),.s (.slice none 0 0),.s (.slice none 0 0)]),(2,.box [.s (.int .i64 0),.s (.int .i64 0),.s (.slice none 0 0),.s (.slice none 0 0),.s (.slice none 0 0),.s (.slice none 0 0)])]⟩ ?_ (fun hD41=>?_)
 ·
  refine aH 1 [3,6] (by kernel_rfl) ⟨?_,?_,?_,trivial⟩
  ·
   refine⟨_,rfl,rfl,(ao rfl (aE aA 1 rfl (aF (ag hD22 rfl rfl rfl))))⟩
  ·
   refine⟨_,rfl,rfl,(ao rfl (aE aA 1 rfl (aF (ag hD25 rfl rfl rfl))))⟩
  ·
   refine⟨_,rfl,rfl,(ao rfl (aJ hf rfl (aO rfl rfl eV rfl (eT s.opn (by omega))) (aF (ag hD27 rfl rfl rfl))))⟩
 refine aV 7 #[true,true,true,true,true,false,false,true,false,false,false,false,false] ⟨53,[(1,.adr (bJ s)),(2,.ref 2 0 0 0),(9,.s (.int .i64 s.now)),(11,.s (.int .i64 s.hor)),(12,.adr ((bJ s).drop 2)),(15,.adr ((bJ s).drop 4))],[(2,.box [.s (.int .i64 0),.s (.int .i64 0),.s (.slice none 0 0),.s (.slice none 0 0),.s (.slice none 0 0),.s (.slice none 0 0)])]⟩ ?_ (fun hD42=>?_)
 ·
  refine aH 5 [8,11] (by kernel_rfl) ⟨?_,?_,?_,trivial⟩
  ·
   refine⟨_,rfl,rfl,(ao rfl (aE aA 1 rfl (aF (ag hD28 rfl rfl rfl))))⟩
  ·
   refine⟨_,rfl,rfl,(ao rfl (aE aA 1 rfl (aF (ag hD29 rfl rfl rfl))))⟩
  ·
   refine⟨_,rfl,rfl,(ao rfl (bV hf rfl rfl rfl bR (aF (ag hD30 rfl rfl rfl))))⟩
 refine aV 7 #[true,true,true,false,true,true,false,true,false,false,false,false,false] ⟨53,[(1,.adr (bJ s)),(2,.ref 2 0 0 0),(9,.s (.int .i64 s.now)),(10,.adr ((bJ s).drop 1)),(13,.sl 4 (s.opn.map seC)),(15,.adr ((bJ s).drop 4))],[(2,.box [.s (.int .i64 0),.s (.int .i64 0),.s (.slice none 0 0),.s (.slice none 0 0),.s (.slice none 0 0),.s (.slice none 0 0)])]⟩ ?_ (fun hD43=>?_)
 ·
  refine aH 3 [6,8,11] (by kernel_rfl) ⟨?_,?_,?_,?_,trivial⟩
  ·
   refine⟨_,rfl,rfl,(ao rfl (aE aA 1 rfl (aF (ag hD28 rfl rfl rfl))))⟩
  ·
   refine⟨_,rfl,rfl,(ao rfl (aJ hf rfl (aO rfl rfl eV rfl (eT s.opn (by omega))) (aF (ag hD31 rfl rfl rfl))))⟩
  ·
   refine⟨_,rfl,rfl,(ao rfl (aE aA 1 rfl (aF (ag hD32 rfl rfl rfl))))⟩
  ·
   refine⟨_,rfl,rfl,(ao rfl (bV hf rfl rfl rfl bR (aF (ag hD33 rfl rfl rfl))))⟩
 refine aV 7 #[true,true,true,false,true,false,false,true,true,false,false,false,false] ⟨53,[(1,.adr (bJ s)),(2,.ref 2 0 0 0),(9,.s (.int .i64 s.now)),(10,.adr ((bJ s).drop 1)),(12,.adr ((bJ s).drop 2)),(16,.sl 4 (s.sub.map enC))],[(2,.box [.s (.int .i64 0),.s (.int .i64 0),.s (.slice none 0 0),.s (.slice none 0 0),.s (.slice none 0 0),.s (.slice none 0 0)])]⟩ ?_ (fun hD44=>?_)
 ·
  refine aH 3 [5,11] (by kernel_rfl) ⟨?_,?_,?_,trivial⟩
  ·
   refine⟨_,rfl,rfl,(ao rfl (aE aA 1 rfl (aF (ag hD29 rfl rfl rfl))))⟩
  ·
   refine⟨_,rfl,rfl,(ao rfl (aE aA 1 rfl (aF (ag hD32 rfl rfl rfl))))⟩
  ·
   refine⟨_,rfl,rfl,(ao rfl (bV hf rfl rfl rfl bR (aF (ag hD34 rfl rfl rfl))))⟩
 refine aV 7 #[true,true,true,false,true,false,false,true,false,false,false,true,false] ⟨53,[(1,.adr (bJ s)),(2,.ref 2 0 0 0),(3,.ref 3 0 0 0),(9,.s (.int .i64 s.now)),(10,.adr ((bJ s).drop 1)),(12,.adr ((bJ s).drop 2)),(15,.adr ((bJ s).drop 4))],[(3,.box [.s (.int .i64 0),.s (.int .i64 0),.s (.slice none 0 0),.s (.slice none 0 0),.s (.slice none 0 0),.s (.slice none 0 0)]),(2,.box [.s (.int .i64 0),.s (.int .i64 0),.s (.slice none 0 0),.s (.slice none 0 0),.s (.slice none 0 0),.s (.slice none 0 0)])]⟩ ?_ (fun hD45=>?_)
 ·
  refine aH 3 [5,8] (by kernel_rfl) ⟨?_,?_,?_,trivial⟩
  ·
   refine⟨_,rfl,rfl,(ao rfl (aE aA 1 rfl (aF (ag hD30 rfl rfl rfl))))⟩
  ·
   refine⟨_,rfl,rfl,(ao rfl (aE aA 1 rfl (aF (ag hD33 rfl rfl rfl))))⟩
  ·
   refine⟨_,rfl,rfl,(ao rfl (aE aA 1 rfl (aF (ag hD34 rfl rfl rfl))))⟩
 refine aV 7 #[true,false,true,true,true,true,false,true,false,false,false,false,false] ⟨53,[(1,.adr (bJ s)),(2,.ref 2 0 0 0),(8,.adr ((bJ s).drop 0)),(11,.s (.int .i64 s.hor)),(13,.sl 4 (s.opn.map seC)),(15,.adr ((bJ s).drop 4))],[(2,.box [.s (.int .i64 0),.s (.int .i64 0),.s (.slice none 0 0),.s (.slice none 0 0),.s (.slice none 0 0),.s (.slice none 0 0)])]⟩ ?_ (fun hD46=>?_)
 ·
  refine aH 1 [6,8,11] (by kernel_rfl) ⟨?_,?_,?_,?_,trivial⟩
  ·
   refine⟨_,rfl,rfl,(ao rfl (aE aA 1 rfl (aF (ag hD28 rfl rfl rfl))))⟩
  ·
   refine⟨_,rfl,rfl,(ao rfl (aJ hf rfl (aO rfl rfl eV rfl (eT s.opn (by omega))) (aF (ag hD35 rfl rfl rfl))))⟩
  ·
   refine⟨_,rfl,rfl,(ao rfl (aE aA 1 rfl (aF (ag hD36 rfl rfl rfl))))⟩
  ·
   refine⟨_,rfl,rfl,(ao rfl (bV hf rfl rfl rfl bR (aF (ag hD37 rfl rfl rfl))))⟩
 refine aV 7 #[true,false,true,true,true,false,false,true,true,false,false,false,false] ⟨53,[(1,.adr (bJ s)),(2,.ref 2 0 0 0),(8,.adr ((bJ s).drop 0)),(11,.s (.int .i64 s.hor)),(12,.adr ((bJ s).drop 2)),(16,.sl 4 (s.sub.map enC))],[(2,.box [.s (.int .i64 0),.s (.int .i64 0),.s (.slice none 0 0),.s (.slice none 0 0),.s (.slice none 0 0),.s (.slice none 0 0)])]⟩ ?_ (fun hD47=>?_)
 ·
  refine aH 1 [5,11] (by kernel_rfl) ⟨?_,?_,?_,trivial⟩
  ·
   refine⟨_,rfl,rfl,(ao rfl (aE aA 1 rfl (aF (ag hD29 rfl rfl rfl))))⟩
  ·
   refine⟨_,rfl,rfl,(ao rfl (aE aA 1 rfl (aF (ag hD36 rfl rfl rfl))))⟩
  ·
   refine⟨_,rfl,rfl,(ao rfl (bV hf rfl rfl rfl bR (aF (ag hD38 rfl rfl rfl))))⟩
 refine aV 7 #[true,false,true,true,true,false,false,true,false,false,false,true,false] ⟨53,[(1,.adr (bJ s)),(2,.ref 2 0 0 0),(3,.ref 3 0 0 0),(8,.adr ((bJ s).drop 0)),(11,.s (.int .i64 s.hor)),(12,.adr ((bJ s).drop 2)),(15,.adr ((bJ s).drop 4))],[(3,.box [.s (.int .i64 0),.s (.int .i64 0),.s (.slice none 0 0),.s (.slice none 0 0),.s (.slice none 0 0),.s (.slice none 0 0)]),(2,.box [.s (.int .i64 0),.s (.int .i64 0),.s (.slice none 0 0),.s (.slice none 0 0),.s (.slice none 0 0),.s (.slice none 0 0)])]⟩ ?_ (fun hD48=>?_)
 ·
  refine aH 1 [5,8] (by kernel_rfl) ⟨?_,?_,?_,trivial⟩
  ·
   refine⟨_,rfl,rfl,(ao rfl (aE aA 1 rfl (aF (ag hD30 rfl rfl rfl))))⟩
  ·
   refine⟨_,rfl,rfl,(ao rfl (aE aA 1 rfl (aF (ag hD37 rfl rfl rfl))))⟩
  ·
   refine⟨_,rfl,rfl,(ao rfl (aE aA 1 rfl (aF (ag hD38 rfl rfl rfl))))⟩
 refine aV 7 #[true,false,true,false,true,true,true,true,false,false,false,false,false] ⟨53,[(1,.adr (bJ s)),(2,.ref 2 0 0 0),(8,.adr ((bJ s).drop 0)),(10,.adr ((bJ s).drop 1)),(14,.sl 4 (s.opn.map seC)),(15,.adr ((bJ s).drop 4))],[(2,.box [.s (.int .i64 0),.s (.int .i64 0),.s (.slice none 0 0),.s (.slice none 0 0),.s (.slice none 0 0),.s (.slice none 0 0)])]⟩ ?_ (fun hD49=>?_)
 ·
  refine aH 1 [3,8,11] (by kernel_rfl) ⟨?_,?_,?_,?_,trivial⟩
  ·
   refine⟨_,rfl,rfl,(ao rfl (aE aA 1 rfl (aF (ag hD31 rfl rfl rfl))))⟩
  ·
   refine⟨_,rfl,rfl,(ao rfl (aE aA 1 rfl (aF (ag hD35 rfl rfl rfl))))⟩
  ·
   refine⟨_,rfl,rfl,(ao rfl (aE aA 1 rfl (aF (ag hD39 rfl rfl rfl))))⟩
  ·
   refine⟨_,rfl,rfl,(ao rfl (bV hf rfl rfl rfl bR (aF (ag hD40 rfl rfl rfl))))⟩
 refine aV 7 #[true,false,true,false,true,true,false,true,true,false,false,false,false] ⟨53,[(1,.adr (bJ s)),(2,.ref 2 0 0 0),(8,.adr ((bJ s).drop 0)),(10,.adr ((bJ s).drop 1)),(13,.sl 4 (s.opn.map seC)),(16,.sl 4 (s.sub.map enC))],[(2,.box [.s (.int .i64 0),.s (.int .i64 0),.s (.slice none 0 0),.s (.slice none 0 0),.s (.slice none 0 0),.s (.slice none 0 0)])]⟩ ?_ (fun hD50=>?_)
 ·
  refine aH 1 [3,6,11] (by kernel_rfl) ⟨?_,?_,?_,?_,trivial⟩
  ·
   refine⟨_,rfl,rfl,(ao rfl (aE aA 1 rfl (aF (ag hD32 rfl rfl rfl))))⟩
  ·
   refine⟨_,rfl,rfl,(ao rfl (aE aA 1 rfl (aF (ag hD36 rfl rfl rfl))))⟩
  ·
   refine⟨_,rfl,rfl,(ao rfl (aJ hf rfl (aO rfl rfl eV rfl (eT s.opn (by omega))) (aF (ag hD39 rfl rfl rfl))))⟩
  ·
   refine⟨_,rfl,rfl,(ao rfl (bV hf rfl rfl rfl bR (aF (ag hD41 rfl rfl rfl))))⟩
 refine aV 7 #[true,false,true,false,true,true,false,true,false,false,false,true,false] ⟨53,[(1,.adr (bJ s)),(2,.ref 2 0 0 0),(3,.ref 3 0 0 0),(8,.adr ((bJ s).drop 0)),(10,.adr ((bJ s).drop 1)),(13,.sl 4 (s.opn.map seC)),(15,.adr ((bJ s).drop 4))],[(3,.box [.s (.int .i64 0),.s (.int .i64 0),.s (.slice none 0 0),.s (.slice none 0 0),.s (.slice none 0 0),.s (.slice none 0 0)]),(2,.box [.s (.int .i64 0),.s (.int .i64 0),.s (.slice none 0 0),.s (.slice none 0 0),.s (.slice none 0 0),.s (.slice none 0 0)])]⟩ ?_ (fun hD51=>?_)
 ·
  refine aH 1 [3,6,8] (by kernel_rfl) ⟨?_,?_,?_,?_,trivial⟩
  ·
   refine⟨_,rfl,rfl,(ao rfl (aE aA 1 rfl (aF (ag hD33 rfl rfl rfl))))⟩
  ·
   refine⟨_,rfl,rfl,(ao rfl (aE aA 1 rfl (aF (ag hD37 rfl rfl rfl))))⟩
  ·
   refine⟨_,rfl,rfl,(ao rfl (aJ hf rfl (aO rfl rfl eV rfl (eT s.opn (by omega))) (aF (ag hD40 rfl rfl rfl))))⟩
  ·
   refine⟨_,rfl,rfl,(ao rfl (aE aA 1 rfl (aF (ag hD41 rfl rfl rfl))))⟩
 refine aV 7 #[true,false,true,false,true,false,false,true,true,false,false,true,false] ⟨53,[(1,.adr (bJ s)),(2,.ref 2 0 0 0),(3,.ref 3 0 0 0),(8,.adr ((bJ s).drop 0)),(10,.adr ((bJ s).drop 1)),(12,.adr ((bJ s).drop 2)),(16,.sl 4 (s.sub.map enC))],[(3,.box [.s (.int .i64 0),.s (.int .i64 0),.s (.slice none 0 0),.s (.slice none 0 0),.s (.slice none 0 0),.s (.slice none 0 0)]),(2,.box [.s (.int .i64 0),.s (.int .i64 0),.s (.slice none 0 0),.s (.slice none 0 0),.s (.slice none 0 0),.s (.slice none 0 0)])]⟩ ?_ (fun hD52=>?_)
 ·
  refine aH 1 [3,5] (by kernel_rfl) ⟨?_,?_,?_,trivial⟩
  ·
   refine⟨_,rfl,rfl,(ao rfl (aE aA 1 rfl (aF (ag hD34 rfl rfl rfl))))⟩
  ·
   refine⟨_,rfl,rfl,(ao rfl (aE aA 1 rfl (aF (ag hD38 rfl rfl rfl))))⟩
  ·
   refine⟨_,rfl,rfl,(ao rfl (aE aA 1 rfl (aF (ag hD41 rfl rfl rfl))))⟩
 refine aV 8 #[true,true,true,false,true,false,false,true,false,false,false,false,false] ⟨53,[(1,.adr (bJ s)),(2,.ref 2 0 0 0),(9,.s (.int .i64 s.now)),(10,.adr ((bJ s).drop 1)),(12,.adr ((bJ s).drop 2)),(15,.adr ((bJ s).drop 4))],[(2,.box [.s (.int .i64 0),.s (.int .i64 0),.s (.slice none 0 0),.s (.slice none 0 0),.s (.slice none 0 0),.s (.slice none 0 0)])]⟩ ?_ (fun hD53=>?_)
 ·
  refine aH 3 [5,8,11] (by kernel_rfl) ⟨?_,?_,?_,?_,trivial⟩
  ·
   refine⟨_,rfl,rfl,(ao rfl (aE aA 1 rfl (aF (ag hD42 rfl rfl rfl))))⟩
  ·
   refine⟨_,rfl,rfl,(ao rfl (aE aA 1 rfl (aF (ag hD43 rfl rfl rfl))))⟩
  ·
   refine⟨_,rfl,rfl,(ao rfl (aE aA 1 rfl (aF (ag hD44 rfl rfl rfl))))⟩
  ·
   refine⟨_,rfl,rfl,(ao rfl (bV hf rfl rfl rfl bR (aF (ag hD45 rfl rfl rfl))))⟩
 refine aV 8 #[true,false,true,true,true,false,false,true,false,false,false,false,false] ⟨53,[(1,.adr (bJ s)),(2,.ref 2 0 0 0),(8,.adr ((bJ s).drop 0)),(11,.s (.int .i64 s.hor)),(12,.adr ((bJ s).drop 2)),(15,.adr ((bJ s).drop 4))],[(2,.box [.s (.int .i64 0),.s (.int .i64 0),.s (.slice none 0 0),.s (.slice none 0 0),.s (.slice none 0 0),.s (.slice none 0 0)])]⟩ ?_ (fun hD54=>?_)
 ·
  refine aH 1 [5,8,11] (by kernel_rfl) ⟨?_,?_,?_,?_,trivial⟩
  ·
   refine⟨_,rfl,rfl,(ao rfl (aE aA 1 rfl (aF (ag hD42 rfl rfl rfl))))⟩
  ·
   refine⟨_,rfl,rfl,(ao rfl (aE aA 1 rfl (aF (ag hD46 rfl rfl rfl))))⟩
  ·
   refine⟨_,rfl,rfl,(ao rfl (aE aA 1 rfl (aF (ag hD47 rfl rfl rfl))))⟩
  ·
   refine⟨_,rfl,rfl,(ao rfl (bV hf rfl rfl rfl bR (aF (ag hD48 rfl rfl rfl))))⟩
 refine aV 8 #[true,false,true,false,true,true,false,true,false,false,false,false,false] ⟨53,[(1,.adr (bJ s)),(2,.ref 2 0 0 0),(8,.adr ((bJ s).drop 0)),(10,.adr ((bJ s).drop 1)),(13,.sl 4 (s.opn.map seC)),(15,.adr ((bJ s).drop 4))],[(2,.box [.s (.int .i64 0),.s (.int .i64 0),.s (.slice none 0 0),.s (.slice none 0 0),.s (.slice none 0 0),.s (.slice none 0 0)])]⟩ ?_ (fun hD55=>?_)
 ·
  refine aH 1 [3,6,8,11] (by kernel_rfl) ⟨?_,?_,?_,?_,?_,trivial⟩
  ·
   refine⟨_,rfl,rfl,(ao rfl (aE aA 1 rfl (aF (ag hD43 rfl rfl rfl))))⟩
  ·
   refine⟨_,rfl,rfl,(ao rfl (aE aA 1 rfl (aF (ag hD46 rfl rfl rfl))))⟩
  ·
   refine⟨_,rfl,rfl,(ao rfl (aJ hf rfl (aO rfl rfl eV rfl (eT s.opn (by omega))) (aF (ag hD49 rfl rfl rfl))))⟩
  ·
   refine⟨_,rfl,rfl,(ao rfl (aE aA 1 rfl (aF (ag hD50 rfl rfl rfl))))⟩
  ·
   refine⟨_,rfl,rfl,(ao rfl (bV hf rfl rfl rfl bR (aF (ag hD51 rfl rfl rfl))))⟩
 refine aV 8 #[true,false,true,false,true,false,false,true,true,false,false,false,false] ⟨53,[(1,.adr (bJ s)),(2,.ref 2 0 0 0),(8,.adr ((bJ s).drop 0)),(10,.adr ((bJ s).drop 1)),(12,.adr ((bJ s).drop 2)),(16,.sl 4 (s.sub.map enC))],[(2,.box [.s (.int .i64 0),.s (.int .i64 0),.s (.slice none 0 0),.s (.slice none 0 0),.s (.slice none 0 0),.s (.slice none 0 0)])]⟩ ?_ (fun hD56=>?_)
 ·
  refine aH 1 [3,5,11] (by kernel_rfl) ⟨?_,?_,?_,?_,trivial⟩
  ·
   refine⟨_,rfl,rfl,(ao rfl (aE aA 1 rfl (aF (ag hD44 rfl rfl rfl))))⟩
  ·
   refine⟨_,rfl,rfl,(ao rfl (aE aA 1 rfl (aF (ag hD47 rfl rfl rfl))))⟩
  ·
   refine⟨_,rfl,rfl,(ao rfl (aE aA 1 rfl (aF (ag hD50 rfl rfl rfl))))⟩
  ·
   refine⟨_,rfl,rfl,(ao rfl (bV hf rfl rfl rfl bR (aF (ag hD52 rfl rfl rfl))))⟩
 refine aV 8 #[true,false,true,false,true,false,false,true,false,false,false,true,false] ⟨53,[(1,.adr (bJ s)),(2,.ref 2 0 0 0),(3,.ref 3 0 0 0),(8,.adr ((bJ s).drop 0)),(10,.adr ((bJ s).drop 1)),(12,.adr ((bJ s).drop 2)),(15,.adr ((bJ s).drop 4))],[(3,.box [.s (.int .i64 0),.s (.int .i64 0),.s (.slice none 0 0),.s (.slice none 0 0),.s (.slice none 0 0),.s (.slice none 0 0)]),(2,.box [.s (.int .i64 0),.s (.int .i64 0),.s (.slice none 0 0),.s (.slice none 0 0),.s (.slice none 0 0),.s (.slice none 0 0)])]⟩ ?_ (fun hD57=>?_)
 ·
  refine aH 1 [3,5,8] (by kernel_rfl) ⟨?_,?_,?_,?_,trivial⟩
  ·
   refine⟨_,rfl,rfl,(ao rfl (aE aA 1 rfl (aF (ag hD45 rfl rfl rfl))))⟩
  ·
   refine⟨_,rfl,rfl,(ao rfl (aE aA 1 rfl (aF (ag hD48 rfl rfl rfl))))⟩
  ·
   refine⟨_,rfl,rfl,(ao rfl (aE aA 1 rfl (aF (ag hD51 rfl rfl rfl))))⟩
  ·
   refine⟨_,rfl,rfl,(ao rfl (aE aA 1 rfl (aF (ag hD52 rfl rfl rfl))))⟩
 refine mL (aDq (sl':=[(1,.adr (bJ s)),(2,.ref 2 0 0 0),(8,.adr ((bJ s).drop 0)),(10,.adr ((bJ s).drop 1)),(12,.adr ((bJ s).drop 2)),(15,.adr ((bJ s).drop 4))]) (m':=[(2,.box [.s (.int .i64 0),.s (.int .i64 0),.s (.slice none 0 0),.s (.slice none 0 0),.s (.slice none 0 0),.s (.slice none 0 0)])]) rfl rfl rfl) (aH 1 [3,5,8,11] (by kernel_rfl) ⟨?_,?_,?_,?_,?_,trivial⟩)
 ·
  refine⟨_,rfl,rfl,(ao rfl (aE aA 1 rfl (aF (ag hD53 rfl rfl rfl))))⟩
 ·
  refine⟨_,rfl,rfl,(ao rfl (aE aA 1 rfl (aF (ag hD54 rfl rfl rfl))))⟩
 ·
  refine⟨_,rfl,rfl,(ao rfl (aE aA 1 rfl (aF (ag hD55 rfl rfl rfl))))⟩
 ·
  refine⟨_,rfl,rfl,(ao rfl (aE aA 1 rfl (aF (ag hD56 rfl rfl rfl))))⟩
 ·
  refine⟨_,rfl,rfl,(ao rfl (bV hf rfl rfl rfl bR (aF (ag hD57 rfl rfl rfl))))⟩
theorem wF (s:Sta) (hz:SzS 140737488353280 s) :Den Tryz.prog 11 [.agg (bJ s)]  (·=.s (.int .i64 (aP7 s))):=by
 refine aR Tryz.func11 rfl (Nat.le_of_ble_eq_true rfl) (fun w0 A hf=>(aC (fun K1 hK1=>(aB (aJ hf rfl (cE rfl rfl (lf rfl)) (aE aA 1 rfl (aD (hK1 _ (aC (fun K2 hK2=>(cU hf bF (by kernel_rfl) rfl (aT aA 1 rfl (bL [(3,_)] rfl rfl ⟨⟨rfl,rfl⟩,trivial⟩ rfl (aO rfl rfl aO8 rfl (aC9 s hz)) (aT aA 3 rfl (bI [(4,_),(7,_)] rfl rfl ⟨⟨rfl,rfl⟩,⟨rfl,rfl⟩,trivial⟩ rfl (eN rfl rfl rfl) ?_)))))))))))))))
 refine aT aA 1 rfl (cY [2] rfl rfl rfl (hK2 _ (aI ?_)))
 refine⟨_,rfl,?_⟩
 simp only[aP7,List.length_map]; rfl
end Go.Proofs.YtpkanhklapfajaaGreat
set_option linter.unusedVariables false
set_option linter.unusedSimpArgs false
namespace Go.Proofs.YtpkanhklapfajaaGreat
open Go Go.Abs
end Go.Proofs.YtpkanhklapfajaaGreat
set_option linter.unusedVariables false
set_option linter.unusedSimpArgs false
namespace Go.Proofs.YtpkanhklapfajaaGreat
open Go Go.Abs Go.RowKit Go.Lib
theorem aIh {P:Program} (w:World) {o:Oper} {a:Act} {K:Act→World→Prop} {Q:Exit→Act→World→Prop} (d s:Operand) (t t':TypeId)
    (ho:o.op=.call { callee:=.builtin .copy,args:=#[d,s],argTypes:=#[t,t'] }) (v u:Value) (hd:a.eval d=v) (hs:a.eval s=u) {v':Value} {w':World}
    (hr:(Builtin.copy_ #[t,t'] o.type #[v,u]).run P w=.ok v' w') (h:K (a.put o.dst v') w'):o.wp P a w K Q:=by
  unfold Oper.wp execOp
  simp only[ho,resolve,invoke,builtin,Sem.run_bind,Sem.run_pure,Result.andThen_ok,List.map_toArray,List.map_cons,List.map_nil,hd,hs,hr]
  exact h
theorem xA {P:Program} (w:World) {ops:Array Oper} {rest:List Oper} {o:Oper} {a:Act} {Q:Exit→Act→World→Prop} (hgd:o.guard=none) (d s:Operand) (t t':TypeId)
    (ho:o.op=.call { callee:=.builtin .copy,args:=#[d,s],argTypes:=#[t,t'] }) (v u:Value) (hd:a.eval d=v) (hs:a.eval s=u) {v':Value} {w':World}
    (hr:(Builtin.copy_ #[t,t'] o.type #[v,u]).run P w=.ok v' w') (h:wpList P ops Q rest (a.put o.dst v') w'):wpList P ops Q (o::rest) a w :=
  wpList_plain hgd fun _ hK=>aIh w d s t t' ho v u hd hs hr (hK _ _ h)
theorem aCj {P:Program} {ops:Array Oper} {o:Oper} {a:Act} {w:World} {K:Act→World→Prop} {Q:Exit→Act→World→Prop} {E:Prop}
    (hg:o.guard=none) (d x:Operand) (dT sT:TypeId) (hop:o.op=Op.call { callee:=Callee.builtin Builtin.copy,args:=#[d,x],argTypes:=#[dT,sT] })
    (v u:Value) (hd:a.eval d=v) (hx:a.eval x=u) {v':Value} {w':World} (hr:(Builtin.copy_ #[dT,sT] o.type #[v,u]).run P w=.ok v' w') (hK:K (a.put o.dst v') w') :
    if Region.wanted o (yielded ops a.tmps)=true then Oper.wp P o a w K Q else E:=by
  have hw:Region.wanted o (yielded ops a.tmps)=true:=by simp [Region.wanted,hg]
  rw[if_pos hw]
  exact aIh w d x dT sT hop v u hd hx hr hK
theorem uV {P:Program} (w:World) (dT sT ty elem:TypeId) (g o dLen dCap k m:Nat) (a:Addr) (sLen sCap:Nat) (cur:Array Value) (t:TypeId) (cs:List Value)
    (hu:P.underlying dT=some (.slice elem)) (hs:cells? P elem=some k) (hg:w.heap[g]?=some (.cells cur t (0,0))) (hm:Nat.min sLen dLen=m) (hn:cs.length=m*k)
    (hsrc:∀ j v,cs[j]?=some v→w.cell? (a.add j)=some v) (hfit:o+cs.length≤cur.size) (h1:∀ v∈cs,v.oneCell'=true) :
    (Builtin.copy_ #[dT,sT] ty #[.slice (some ⟨g,o,none⟩) dLen dCap,.slice (some a) sLen sCap]).run P w =
      .ok (goInt m) (w.setRow g (cur.toList.take o++cs++cur.toList.drop (o+cs.length)).toArray):=by
  have hf:=run_firstCells_some (P:=P) w k m a sLen sCap cs hn hsrc
  have hst:=run_storeCells_at P g o t cs 0 cur w hg (by simpa using hfit) h1
  simp only[Nat.add_zero] at hst
  simp [Builtin.copy_,run_underlying hu,Builtin.lenOf,dX hs,hm,hf,hst]
theorem aCs {l:List Value} {o:Nat} {cs:List Value} (h:o+cs.length≤l.length) (q:Nat):(l.take o++cs++l.drop (o+cs.length))[q]?=if q<o then l[q]? else if q<o+cs.length then cs[q - o]? else l[q]?:=by
  have ht:(l.take o).length=o:=by rw[List.length_take]; omega
  rw[List.append_assoc]
  by_cases h1:q<o
  · rw[if_pos h1,List.getElem?_append_left (by omega),List.getElem?_take,if_pos h1]
  · rw[if_neg h1,List.getElem?_append_right (by omega),ht]
    by_cases h2:q<o+cs.length
    · rw[if_pos h2,List.getElem?_append_left (by omega)]
    · rw[if_neg h2,List.getElem?_append_right (by omega),List.getElem?_drop]
      congr 1; omega
theorem aDi (w:World) (vb b o m vc lb cb:Nat) (vcur cur:Array Value) (T1 T2:TypeId) (hv:w.heap[vb]?=some (.cells vcur T1 (0,0))) (hb:w.heap[b]?=some (.cells cur T2 (0,0))) (hne:vb≠b) (h0:cur.size≠0) :
    (callFunc 185 #[.slice (some ⟨vb,0,none⟩) m vc,.slice (some ⟨b,o,none⟩) lb cb]).run Tryz.prog w=.ok (.value (.bool false)) w:=by
  rw[run_callFunc_extern Tryz.func185 (by kernel_rfl) (by kernel_rfl) (by kernel_rfl) (e:=Extern.SlicesOverlaps.overlaps #[40,40] #[4]) (by kernel_rfl),
    Lib.run_overlaps_apart w 40 4 113 (elem?_inv kL) 2 (dX gU) ⟨vb,0,none⟩ ⟨b,o,none⟩ m vc lb cb hne T1 T2 vcur.size cur.size (by simp [World.shape?,hv]) (by simp [World.shape?,hb]) h0 (by simp [World.frozen?,hv]) (by simp [World.frozen?,hv])]
  rfl
set_option maxRecDepth 100000 in
theorem aHj (b n c i vb vc:Nat) (cur vcur:Array Value) (T T2:TypeId) (w:World) (hb:w.heap[b]?=some (.cells cur T (0,0))) (hv:w.heap[vb]?=some (.cells vcur T2 (0,0))) (hne:vb≠b)
    (hi:i<n) (hroom:n+1≤c) (hc63:c≤9223372036854775807) (hsz:c*2≤cur.size) (hvs:2≤vcur.size) (hone:∀ (j:Nat) (v:Value),j<n*2→cur[j]?=some v→v.oneCell'=true) (honv:∀ (j:Nat) (v:Value),j<2→vcur[j]?=some v→v.oneCell'=true) :
    Calls Tryz.prog 165 #[.slice (some ⟨b,0,none⟩) n c,.int .i64 i,.slice (some ⟨vb,0,none⟩) 1 vc] w fun e w'=>e=.returned (.slice (some ⟨b,0,none⟩) (n+1) c) ∧
      ∃ cs,w'=w.drew.setRow b cs∧cs.size=cur.size∧∀ q,q<(n+1)*2→cs[q]?=if q<i*2 then cur[q]? else if q<i*2+2 then vcur[q - i*2]? else cur[q - 2]?:=by
  have hb':w.drew.heap[b]?=some (.cells cur T (0,0)):=hb
  have hcell:∀ j,j<cur.size→w.drew.cell? ⟨b,j,none⟩=cur[j]?:=fun j hj=>by simp [World.cell?,hb']
  obtain ⟨mid,hmid⟩:∃ mid,mid=(cur.toList.drop (i*2)).take ((n - i)*2):=⟨_,rfl⟩
  have hml:mid.length=(n - i)*2:=by rw[hmid]; simp only[List.length_take,List.length_drop,Array.length_toList]; omega
  have hmg:∀ t,t<(n - i)*2→mid[t]?=cur[i*2+t]?:=fun t ht=>by rw[hmid,List.getElem?_take,if_pos ht,List.getElem?_drop,Array.getElem?_toList]
  have hm1:∀ v∈mid,v.oneCell'=true:=fun v hv=>by
    obtain ⟨t,ht⟩:=List.getElem?_of_mem hv
    have ht2:=(List.getElem?_eq_some_iff.1 ht).1
    rw[hml] at ht2
    rw[hmg t ht2] at ht
    exact hone _ _ (by omega) ht
  obtain ⟨cs1,hcs1⟩:∃ cs1,cs1=(cur.toList.take ((i+1)*2)++mid++cur.toList.drop ((i+1)*2+mid.length)).toArray:=⟨_,rfl⟩
  have hc1s:cs1.size=cur.size:=by rw[hcs1]; simp only[List.size_toArray,List.length_append,List.length_take,List.length_drop,Array.length_toList,hml]; omega
  have hcp1:∀ ty dc sc,(Builtin.copy_ #[40,40] ty #[.slice (some ⟨b,(i+1)*2,none⟩) (n - i) dc,.slice (some ⟨b,i*2,none⟩) (n+1 - i) sc]).run Tryz.prog w.drew=.ok (goInt ((n - i:Nat):Int)) (w.drew.setRow b cs1):=fun ty dc sc=>by
    rw[hcs1]
    exact uV w.drew 40 40 ty 113 b ((i+1)*2) (n - i) dc 2 (n - i) ⟨b,i*2,none⟩ (n+1 - i) sc cur T mid (elem?_inv kL) gU hb' (by simp only[Nat.min_def]; split <;> omega) hml
      (fun j v hj=>by
        have hj2:=(List.getElem?_eq_some_iff.1 hj).1
        rw[hml] at hj2
        rw[hmg j hj2] at hj
        rw[Addr.add_lit]
        exact(hcell _ (by omega)).trans hj) (by rw[hml]; omega) hm1
  obtain ⟨W1,hW1⟩:∃ W1,W1=w.drew.setRow b cs1:=⟨_,rfl⟩
  have hb1:W1.heap[b]?=some (.cells cs1 T (0,0)):=by rw[hW1]; exact setRow_heap _ b cur cs1 T _ hb'
  have hv1:W1.heap[vb]?=some (.cells vcur T2 (0,0)):=by rw[hW1]; exact(setRow_other w.drew b vb cs1 hne).trans hv
  obtain ⟨vs,hvl⟩:∃ vs,vs=vcur.toList.take 2:=⟨_,rfl⟩
  have hvsl:vs.length=1*2:=by rw[hvl]; simp only[List.length_take,Array.length_toList]; omega
  have hvg:∀ t,t<2→vs[t]?=vcur[t]?:=fun t ht=>by rw[hvl,List.getElem?_take,if_pos ht,Array.getElem?_toList]
  obtain ⟨cs2,hcs2⟩:∃ cs2,cs2=(cs1.toList.take (i*2)++vs++cs1.toList.drop (i*2+vs.length)).toArray:=⟨_,rfl⟩
  have hcp2:∀ (W:World),W.heap=W1.heap→∀ ty dc,(Builtin.copy_ #[40,40] ty #[.slice (some ⟨b,i*2,none⟩) (n+1 - i) dc,.slice (some ⟨vb,0,none⟩) 1 vc]).run Tryz.prog W=.ok (goInt 1) (W.setRow b cs2):=fun W hW ty dc=>by
    rw[hcs2]
    exact uV W 40 40 ty 113 b (i*2) (n+1 - i) dc 2 1 ⟨vb,0,none⟩ 1 vc cs1 T vs (elem?_inv kL) gU (by rw[hW]; exact hb1) (by simp only[Nat.min_def]; split <;> omega) hvsl
      (fun j v hj=>by
        have hj2:=(List.getElem?_eq_some_iff.1 hj).1
        rw[hvg j (by omega)] at hj
        rw[Addr.add_lit,Nat.zero_add]
        simp only[World.cell?,hW,hv1]
        exact hj) (by rw[hvsl,hc1s]; omega) (fun v hv=>by
        obtain ⟨t,ht⟩:=List.getElem?_of_mem hv
        have ht2:=(List.getElem?_eq_some_iff.1 ht).1
        rw[hvg t (by omega)] at ht
        exact honv t v (by omega) ht)
  have hov:∀ o lb cb,(callFunc 185 #[.slice (some ⟨vb,0,none⟩) 1 vc,.slice (some ⟨b,o,none⟩) lb cb]).run Tryz.prog w=.ok (.value (.bool false)) w:=fun o lb cb=>aDi w vb b o 1 vc lb cb vcur cur T2 T hv hb hne (by omega)
  have hfin:∀ q,q<(n+1)*2→cs2[q]?=if q<i*2 then cur[q]? else if q<i*2+2 then vcur[q - i*2]? else cur[q - 2]?:=fun q hq=>by
    rw[hcs2,List.getElem?_toArray,aCs (by rw[hvsl,Array.length_toList,hc1s]; omega),hvsl]
    have e1:cs1.toList[q]?=if q<(i+1)*2 then cur[q]? else if q<(i+1)*2+(n - i)*2 then mid[q - (i+1)*2]? else cur[q]?:=by
      rw[hcs1,aCs (by rw[hml,Array.length_toList]; omega),hml,Array.getElem?_toList]
    by_cases h1:q<i*2
    · rw[if_pos h1,if_pos h1,e1,if_pos (by omega)]
    · rw[if_neg h1,if_neg h1]
      by_cases h2:q<i*2+2
      · rw[if_pos h2,if_pos h2,hvg _ (by omega)]
      · rw[if_neg h2,if_neg h2,e1,if_neg (by omega),if_pos (by omega),hmg _ (by omega)]
        congr 1; omega
  have hc2s:cs2.size=cur.size:=by rw[hcs2]; simp only[List.size_toArray,List.length_append,List.length_take,List.length_drop,Array.length_toList,hvsl,hc1s]; omega
  rw[← hW1] at hcp1
  have mixed:=bF
  have hz1:¬ (((1:Nat):Int)=0):=by decide
  have hz2:¬ ((i:Int)=(n:Int)):=by omega
  have hin:i≤n:=by omega
  have htn:((i:Int)+1).toNat=i+1:=by omega
  have hw1:IntKind.i64.wrap ((i:Int)+1)=(i:Int)+1:=by rw[IntKind.wrap_i64]; omega
  have hw2:IntKind.i64.wrap ((n:Int)+1)=(n:Int)+1:=by rw[IntKind.wrap_i64]; omega
  have hb1':(0:Int)≤(i:Int)+1:=by omega
  have hb2:¬ (c=i+1):=by omega
  have hb3:(i:Int)≤(n:Int)+1:=by omega
  have hb4:¬ (c=i):=by omega
  have hic:i≤c:=by omega
  have hgt:¬ ((c:Int)<(n:Int)+1):=by omega
  have hn0:(0:Int)≤(n:Int)+1:=by omega
  have htn2:((n:Int)+1).toNat=n+1:=by omega
  have hfin2:Hid (cs2.size=cur.size∧∀ q,q<(n+1)*2→cs2[q]?=if q<i*2 then cur[q]? else if q<i*2+2 then vcur[q - i*2]? else cur[q - 2]?):=⟨hc2s,hfin⟩
  clear hfin hc2s hcs2 hvg hvsl hvl hm1 hmg hml hmid hcs1 hc1s hcell hone honv hb1 hv1
  go_enter Tryz.func165,Tryz.ntmps165
  go_wp2_with (simp only[hov])
  go_region_law_o (refine aCj rfl _ _ 40 40 rfl _ _ (by simp [Act.eval,Act.put]) (by simp [Act.eval,Act.put]) (hcp1 _ _ _) ?_)
  go_wp2_with (at_builtin; refine xA _ rfl _ _ 40 40 rfl _ _ rfl rfl (hcp2 _ rfl _ _) ?_)
  go_ret
  refine⟨rfl,cs2,?_,hfin2.out⟩
  exact setRow_setRow _ _ _ _
def aM7 (w:World) (x:Option Nat) (n i:Nat) (old:Nat→Option Value) (vcur:Array Value) (e:Ending) (w':World):Prop :=
  ∃ b' cap' cs T,e=.returned (.slice (some ⟨b',0,none⟩) (n+1) cap')∧n+1≤cap'∧cap'≤9223372036854775807∧w'.heap[b']?=some (.cells cs T (0,0))∧cap'*2≤cs.size∧(x=some b'∨w.heap.size≤b')∧w.heap.size≤w'.heap.size∧(∀ b,b<w.heap.size→x≠some b→w'.heap[b]?=w.heap[b]?)∧w'.os=w.os∧(w'.tape=w.tape∧w.drawn≤w'.drawn)∧w'.output=w.output ∧
    ∀ q,q<(n+1)*2→cs[q]?=if q<i*2 then old q else if q<i*2+2 then vcur[q - i*2]? else old (q - 2)
theorem tG (w:World) (b:Nat) (cs:Array Value):(w.setRow b cs).heap.size=w.heap.size:=by simp [World.setRow]
theorem aJ3 {w w1:World} {b n c i:Nat} {cur vcur cs:Array Value} {T:TypeId} (h1:w1.heap=w.heap) (h2:w1.os=w.os) (h3:w1.tape=w.tape∧w.drawn≤w1.drawn) (h4:w1.output=w.output) (hb:w.heap[b]?=some (.cells cur T (0,0))) (hroom:n+1≤c) (hc63:c≤9223372036854775807) (hsz:c*2≤cur.size) (hcs:cs.size=cur.size)
    (hq:∀ q,q<(n+1)*2→cs[q]?=if q<i*2 then cur[q]? else if q<i*2+2 then vcur[q - i*2]? else cur[q - 2]?):aM7 w (some b) n i (fun q=>cur[q]?) vcur (.returned (.slice (some ⟨b,0,none⟩) (n+1) c)) (w1.setRow b cs):=by
  refine⟨b,c,cs,T,rfl,hroom,hc63,setRow_heap _ b cur cs T _ (by rw[h1]; exact hb),by omega,.inl rfl,by rw[tG,h1]; exact Nat.le_refl _,fun b' hb' hne=>?_,h2,h3,h4,hq⟩
  rw[setRow_other w1 b b' cs (fun e=>hne (by rw[e])),h1]
set_option maxRecDepth 100000 in
theorem aBr (b n c vb vc:Nat) (cur vcur:Array Value) (T T2:TypeId) (w:World) (hb:w.heap[b]?=some (.cells cur T (0,0))) (hv:w.heap[vb]?=some (.cells vcur T2 (0,0)))
    (hroom:n+1≤c) (hc63:c≤9223372036854775807) (hsz:c*2≤cur.size) (hvs:2≤vcur.size) (honv:∀ (j:Nat) (v:Value),j<2→vcur[j]?=some v→v.oneCell'=true) :
    Calls Tryz.prog 165 #[.slice (some ⟨b,0,none⟩) n c,.int .i64 n,.slice (some ⟨vb,0,none⟩) 1 vc] w (aM7 w (some b) n n (fun q=>cur[q]?) vcur):=by
  obtain ⟨he,hck,hk0,i0,z,hi0,hzz,hik,hby,hzc⟩:=appT?_inv kS
  obtain ⟨vs,hvl⟩:∃ vs,vs=vcur.toList.take 2:=⟨_,rfl⟩
  have hvsl:vs.length=1*2:=by rw[hvl]; simp only[List.length_take,Array.length_toList]; omega
  have hvg:∀ t,t<2→vs[t]?=vcur[t]?:=fun t ht=>by rw[hvl,List.getElem?_take,if_pos ht,Array.getElem?_toList]
  obtain ⟨cs,hcs⟩:∃ cs,cs=(cur.toList.take (n*2)++vs++cur.toList.drop (n*2+vs.length)).toArray:=⟨_,rfl⟩
  have hrun:∀ ty,(Builtin.append_ #[40,40] ty #[.slice (some ⟨b,0,none⟩) n c,.slice (some ⟨vb,0,none⟩) 1 vc]).run Tryz.prog w=.ok (.slice (some ⟨b,0,none⟩) (n+1) c) (w.setRow b cs):=fun ty=>by
    rw[hcs]
    exact mQ he hck b n c cur hb ⟨vb,0,none⟩ 1 vc vs hvsl
      (fun j v hj=>by
        have hj2:=(List.getElem?_eq_some_iff.1 hj).1
        rw[hvg j (by omega)] at hj
        rw[Addr.add_lit,Nat.zero_add]
        simp only[World.cell?,hv]
        exact hj) (fun v hv=>by
        obtain ⟨t,ht⟩:=List.getElem?_of_mem hv
        have ht2:=(List.getElem?_eq_some_iff.1 ht).1
        rw[hvg t (by omega)] at ht
        exact honv t v (by omega) ht) hroom (by rw[hvsl]; omega)
  have hsz2:cs.size=cur.size:=by rw[hcs]; simp only[List.size_toArray,List.length_append,List.length_take,List.length_drop,Array.length_toList,hvsl]; omega
  have hq:Hid (aM7 w (some b) n n (fun q=>cur[q]?) vcur (.returned (.slice (some ⟨b,0,none⟩) (n+1) c)) (w.setRow b cs)):=aJ3 rfl rfl ⟨rfl,Nat.le_refl _⟩ rfl hb hroom hc63 hsz hsz2 (fun q hq=>by
    rw[hcs,List.getElem?_toArray,aCs (by rw[hvsl,Array.length_toList]; omega),hvsl,Array.getElem?_toList]
    by_cases h1:q<n*2
    · rw[if_pos h1,if_pos h1]
    · rw[if_neg h1,if_neg h1,if_pos (by omega),if_pos (by omega),hvg _ (by omega)])
  have mixed:=bF
  have hz1:¬ (((1:Nat):Int)=0):=by decide
  have hnc:n≤c:=by omega
  clear hcs hvg hvsl hvl honv hsz2 hv hb
  go_enter Tryz.func165,Tryz.ntmps165
  go_wp2_with (at_builtin; refine Lib.wpList_append_run _ rfl _ _ _ _ rfl _ _ rfl rfl _ _ (hrun _) ?_)
  go_ret
  exact hq.out
set_option maxRecDepth 100000 in
theorem oF (base:Option Addr) (n c vb vc:Nat) (old:Nat→Option Value) (x:Option Nat) (vcur:Array Value) (T2:TypeId) (w:World) (hv:w.heap[vb]?=some (.cells vcur T2 (0,0)))
    (hnc:n≤c) (hroom:c<n+1) (hbig:(n+1)*24≤140737488355328) (hnil:base=none→n=0) (olds:List Value) (hol:olds.length=n*2) (hog:∀ q,q<n*2→olds[q]?=old q)
    (hcs:∀ a,base=some a→∀ j v,olds[j]?=some v→w.cell? (a.add j)=some v) (hvs:2≤vcur.size) (honv:∀ (j:Nat) (v:Value),j<2→vcur[j]?=some v→v.oneCell'=true) :
    Calls Tryz.prog 165 #[.slice base n c,.int .i64 n,.slice (some ⟨vb,0,none⟩) 1 vc] w (aM7 w x n n old vcur):=by
  obtain ⟨he,hck,hk0,i0,z,hi0,hzz,hik,hby,hzc⟩:=appT?_inv kS
  obtain ⟨vs,hvl⟩:∃ vs,vs=vcur.toList.take 2:=⟨_,rfl⟩
  have hvsl:vs.length=1*2:=by rw[hvl]; simp only[List.length_take,Array.length_toList]; omega
  have hvg:∀ t,t<2→vs[t]?=vcur[t]?:=fun t ht=>by rw[hvl,List.getElem?_take,if_pos ht,Array.getElem?_toList]
  have hsrc:Src Tryz.prog i0.size 40 (.slice (some ⟨vb,0,none⟩) 1 vc) 1 vs w:=by
    rw[hik]
    exact Src.ofSlice w (elem?_inv he) ⟨vb,0,none⟩ 1 vc vs hvsl (fun j v hj=>by
        have hj2:=(List.getElem?_eq_some_iff.1 hj).1
        rw[hvg j (by omega)] at hj
        rw[Addr.add_lit,Nat.zero_add]
        simp only[World.cell?,hv]
        exact hj) (fun v hv=>by
        obtain ⟨t,ht⟩:=List.getElem?_of_mem hv
        have ht2:=(List.getElem?_eq_some_iff.1 ht).1
        rw[hvg t (by omega)] at ht
        exact honv t v (by omega) ht)
  have hold:(Builtin.firstCells i0.size n (.slice base n c)).run Tryz.prog w.drew=.ok olds.toArray w.drew:=by
    rw[hik]
    cases base with
    | none =>
      have h0:=hnil rfl
      subst h0
      obtain rfl:olds=[]:=List.length_eq_zero_iff.1 (by omega)
      exact run_firstCells_none w.drew 2 0 0 c
    | some a =>
      exact run_firstCells_some w.drew 2 n a n c olds hol (fun j v hj=>hcs a rfl j v hj)
  have hrun:∀ ty,(Builtin.append_ #[40,40] ty #[.slice base n c,.slice (some ⟨vb,0,none⟩) 1 vc]).run Tryz.prog w=_:=fun ty =>
    run_append_grow_src w 40 40 ty 113 i0 z (elem?_inv he) hi0 hzz base n c olds hold _ 1 vs hsrc hroom (by omega) (by rw[hby]; exact growslice_fits hroom hbig)
  obtain ⟨G,hG⟩:∃ G,G=grownCap w (n+1) c 113:=⟨_,rfl⟩
  have hGn:n+1≤G:=by rw[hG]; exact grownCap_ge w _ _ _
  have hG63:G≤9223372036854775807:=by
    have:=grownCap_le_maxLen w (n+1) c 113 (by unfold maxLen; omega)
    rw[← hG] at this
    unfold maxLen at this
    omega
  rw[← hG] at hrun
  obtain ⟨row,hrow⟩:∃ row:Array Value,row=(olds++vs).toArray++Builtin.zeroCells z.cells (G - (n+1)):=⟨_,rfl⟩
  rw[← hrow] at hrun
  have hrs:row.size=G*2:=by rw[hrow,Array.size_append,size_zeroCells,hzc,List.size_toArray,List.length_append,hol,hvsl]; omega
  have hq:Hid (aM7 w x n n old vcur (.returned (.slice (some ⟨w.heap.size,0,none⟩) (n+1) G)) (w.drew.alloc (.cells row 113 (0,0)))):=by
    refine⟨w.heap.size,G,row,113,rfl,hGn,hG63,heap_alloc_new w.drew _,by omega,.inr (Nat.le_refl _),by simp,fun b' hb' _=>Below.heap_alloc w.drew _ _ hb',rfl,⟨rfl,Nat.le_succ _⟩,rfl,fun q hq=>?_⟩
    rw[hrow,Array.getElem?_append_left (by rw[List.size_toArray,List.length_append,hol,hvsl]; omega),List.getElem?_toArray]
    by_cases h1:q<n*2
    · rw[if_pos h1,List.getElem?_append_left (by omega),hog q h1]
    · rw[if_neg h1,if_pos (by omega),List.getElem?_append_right (by omega),hol,hvg _ (by omega)]
  have mixed:=bF
  have hz1:¬ (((1:Nat):Int)=0):=by decide
  clear hrow hrs hvg hvsl hvl honv hv hsrc hold hG hGn hG63 hog hol
  go_enter Tryz.func165,Tryz.ntmps165
  cases base with
  | none =>
    have h0:=hnil rfl
    subst h0
    go_wp2_with (at_builtin; refine Lib.wpList_append_run _ rfl _ _ _ _ rfl _ _ rfl rfl _ _ (hrun _) ?_)
    go_ret
    exact hq.out
  | some a =>
    obtain ⟨ab,ao,asp⟩:=a
    go_wp2_with (at_builtin; refine Lib.wpList_append_run _ rfl _ _ _ _ rfl _ _ rfl rfl _ _ (hrun _) ?_)
    all_goals (go_ret; exact hq.out)
set_option maxRecDepth 100000 in
theorem aJ0 (b n c i vb vc:Nat) (cur vcur:Array Value) (T T2:TypeId) (w:World) (hb:w.heap[b]?=some (.cells cur T (0,0))) (hv:w.heap[vb]?=some (.cells vcur T2 (0,0)))
    (hi:i<n) (hnc:n≤c) (hroom:c<n+1) (hbig:(n+1)*24≤140737488355328) (hsz:c*2≤cur.size) (hvs:2≤vcur.size) (hone:∀ (j:Nat) (v:Value),j<n*2→cur[j]?=some v→v.oneCell'=true) (honv:∀ (j:Nat) (v:Value),j<2→vcur[j]?=some v→v.oneCell'=true) :
    Calls Tryz.prog 165 #[.slice (some ⟨b,0,none⟩) n c,.int .i64 i,.slice (some ⟨vb,0,none⟩) 1 vc] w (aM7 w (some b) n i (fun q=>cur[q]?) vcur):=by
  obtain ⟨he,hck,hk0,i0,z,hi0,hzz,hik,hby,hzc⟩:=appT?_inv kS
  have hbw:b<w.heap.size:=(Array.getElem?_eq_some_iff.1 hb).1
  have hvw:vb<w.heap.size:=(Array.getElem?_eq_some_iff.1 hv).1
  have hcell:∀ j,j<cur.size→w.drew.cell? ⟨b,j,none⟩=cur[j]?:=fun j hj=>by
    have hb':w.drew.heap[b]?=some (.cells cur T (0,0)):=hb
    simp [World.cell?,hb']
  obtain ⟨vs,hvl⟩:∃ vs,vs=vcur.toList.take 2:=⟨_,rfl⟩
  have hvsl:vs.length=1*2:=by rw[hvl]; simp only[List.length_take,Array.length_toList]; omega
  have hvg:∀ t,t<2→vs[t]?=vcur[t]?:=fun t ht=>by rw[hvl,List.getElem?_take,if_pos ht,Array.getElem?_toList]
  have hv1:∀ v∈vs,v.oneCell'=true:=fun v hv=>by
    obtain ⟨t,ht⟩:=List.getElem?_of_mem hv
    have ht2:=(List.getElem?_eq_some_iff.1 ht).1
    rw[hvg t (by omega)] at ht
    exact honv t v (by omega) ht
  obtain ⟨pre,hpl⟩:∃ pre,pre=cur.toList.take (i*2):=⟨_,rfl⟩
  have hpll:pre.length=i*2:=by rw[hpl]; simp only[List.length_take,Array.length_toList]; omega
  have hpg:∀ t,t<i*2→pre[t]?=cur[t]?:=fun t ht=>by rw[hpl,List.getElem?_take,if_pos ht,Array.getElem?_toList]
  obtain ⟨mid,hmid⟩:∃ mid,mid=(cur.toList.drop (i*2)).take ((n - i)*2):=⟨_,rfl⟩
  have hml:mid.length=(n - i)*2:=by rw[hmid]; simp only[List.length_take,List.length_drop,Array.length_toList]; omega
  have hmg:∀ t,t<(n - i)*2→mid[t]?=cur[i*2+t]?:=fun t ht=>by rw[hmid,List.getElem?_take,if_pos ht,List.getElem?_drop,Array.getElem?_toList]
  have hm1:∀ v∈mid,v.oneCell'=true:=fun v hv=>by
    obtain ⟨t,ht⟩:=List.getElem?_of_mem hv
    have ht2:=(List.getElem?_eq_some_iff.1 ht).1
    rw[hml] at ht2
    rw[hmg t ht2] at ht
    exact hone _ _ (by omega) ht
  have hold:(Builtin.firstCells i0.size i (.slice (some ⟨b,0,none⟩) i c)).run Tryz.prog w.drew=.ok pre.toArray w.drew:=by
    rw[hik]
    exact run_firstCells_some w.drew 2 i ⟨b,0,none⟩ i c pre hpll (fun j v hj=>by
      have hj2:=(List.getElem?_eq_some_iff.1 hj).1
      rw[hpll] at hj2
      rw[hpg j hj2] at hj
      rw[Addr.add_lit,Nat.zero_add]
      exact(hcell _ (by omega)).trans hj)
  have hik2:i+(n+1 - i)=n+1:=by omega
  have hkk:(n:Int)+1 - (i:Int)=((n+1 - i:Nat):Int):=by omega
  have hrun:∀ ty,(Builtin.append_ #[40,3] ty #[.slice (some ⟨b,0,none⟩) i c,.int .i64 ((n:Int)+1 - (i:Int))]).run Tryz.prog w =
      .ok (.slice (some ⟨w.heap.size,0,none⟩) (n+1) (grownCap w (n+1) c 113)) (w.drew.alloc (.cells (pre.toArray++Builtin.zeroCells z.cells (n+1 - i)++Builtin.zeroCells z.cells (grownCap w (n+1) c 113 - (n+1))) 113)):=fun ty=>by
    have h:=Lib.run_append_grow_zeros w 40 3 ty 113 i0 z .i64 .i64 (elem?_inv he) Tryz.underlying3 hi0 hzz (some ⟨b,0,none⟩) i c pre hold (n+1 - i) (by omega) (by omega) (by omega) (by omega) (by rw[hby]; omega) (by rw[hby,hik2]; exact growslice_fits hroom hbig)
    rw[hik2] at h
    rw[hkk]
    exact h
  obtain ⟨G,hG⟩:∃ G,G=grownCap w (n+1) c 113:=⟨_,rfl⟩
  have hGn:n+1≤G:=by rw[hG]; exact grownCap_ge w _ _ _
  have hG63:G≤9223372036854775807:=by
    have:=grownCap_le_maxLen w (n+1) c 113 (by unfold maxLen; omega)
    rw[← hG] at this
    unfold maxLen at this
    omega
  rw[← hG] at hrun
  obtain ⟨row,hrow⟩:∃ row:Array Value,row=pre.toArray++Builtin.zeroCells z.cells (n+1 - i)++Builtin.zeroCells z.cells (G - (n+1)):=⟨_,rfl⟩
  rw[← hrow] at hrun
  have hrs:row.size=G*2:=by rw[hrow,Array.size_append,Array.size_append,size_zeroCells,size_zeroCells,hzc,List.size_toArray,hpll]; omega
  have hrg:∀ q,q<i*2→row[q]?=cur[q]?:=fun q hq=>by
    rw[hrow,Array.append_assoc,Array.getElem?_append_left (by rw[List.size_toArray]; omega),List.getElem?_toArray,hpg q hq]
  obtain ⟨W1,hW1⟩:∃ W1,W1=w.drew.alloc (.cells row 113):=⟨_,rfl⟩
  rw[← hW1] at hrun
  have hN:W1.heap[w.heap.size]?=some (.cells row 113 (0,0)):=by rw[hW1]; exact heap_alloc_new w.drew _
  have hO:∀ b',b'<w.heap.size→W1.heap[b']?=w.heap[b']?:=fun b' h=>by rw[hW1]; exact Below.heap_alloc w.drew _ _ h
  obtain ⟨cs1,hcs1⟩:∃ cs1,cs1=(row.toList.take (i*2)++vs++row.toList.drop (i*2+vs.length)).toArray:=⟨_,rfl⟩
  have hc1s:cs1.size=G*2:=by rw[hcs1]; simp only[List.size_toArray,List.length_append,List.length_take,List.length_drop,Array.length_toList,hvsl,hrs]; omega
  have hcpA:∀ (W:World),W.heap=W1.heap→∀ ty dc,(Builtin.copy_ #[40,40] ty #[.slice (some ⟨w.heap.size,i*2,none⟩) (n+1 - i) dc,.slice (some ⟨vb,0,none⟩) 1 vc]).run Tryz.prog W=.ok (goInt 1) (W.setRow w.heap.size cs1):=fun W hW ty dc=>by
    rw[hcs1]
    exact uV W 40 40 ty 113 w.heap.size (i*2) (n+1 - i) dc 2 1 ⟨vb,0,none⟩ 1 vc row 113 vs (elem?_inv he) hck (by rw[hW]; exact hN) (by simp only[Nat.min_def]; split <;> omega) hvsl
      (fun j v hj=>by
        have hj2:=(List.getElem?_eq_some_iff.1 hj).1
        rw[hvg j (by omega)] at hj
        rw[Addr.add_lit,Nat.zero_add]
        simp only[World.cell?,hW,hO vb hvw,hv]
        exact hj) (by rw[hvsl,hrs]; omega) hv1
  obtain ⟨cs2,hcs2⟩:∃ cs2,cs2=(cs1.toList.take ((i+1)*2)++mid++cs1.toList.drop ((i+1)*2+mid.length)).toArray:=⟨_,rfl⟩
  have hc2s:cs2.size=G*2:=by rw[hcs2]; simp only[List.size_toArray,List.length_append,List.length_take,List.length_drop,Array.length_toList,hml,hc1s]; omega
  have hcpB:∀ (W:World),W.heap=(W1.setRow w.heap.size cs1).heap→∀ ty dc sc,(Builtin.copy_ #[40,40] ty #[.slice (some ⟨w.heap.size,(i+1)*2,none⟩) (n - i) dc,.slice (some ⟨b,i*2,none⟩) (n - i) sc]).run Tryz.prog W=.ok (goInt ((n - i:Nat):Int)) (W.setRow w.heap.size cs2):=fun W hW ty dc sc=>by
    rw[hcs2]
    exact uV W 40 40 ty 113 w.heap.size ((i+1)*2) (n - i) dc 2 (n - i) ⟨b,i*2,none⟩ (n - i) sc cs1 113 mid (elem?_inv he) hck (by rw[hW]; exact setRow_heap _ _ row cs1 _ _ hN) (by simp only[Nat.min_def]; split <;> omega) hml
      (fun j v hj=>by
        have hj2:=(List.getElem?_eq_some_iff.1 hj).1
        rw[hml] at hj2
        rw[hmg j hj2] at hj
        rw[Addr.add_lit]
        simp only[World.cell?,hW,setRow_other W1 _ b cs1 (by omega:b≠w.heap.size),hO b hbw,hb]
        exact hj) (by rw[hml,hc1s]; omega) hm1
  have hq:∀ (W:World),W.heap=(W1.setRow w.heap.size cs1).heap→W.os=w.os→(W.tape=w.tape∧w.drawn≤W.drawn)→W.output=w.output→Hid (aM7 w (some b) n i (fun q=>cur[q]?) vcur (.returned (.slice (some ⟨w.heap.size,0,none⟩) (n+1) G)) (W.setRow w.heap.size cs2)):=fun W hW h1 h2 h3=>by
    refine⟨w.heap.size,G,cs2,113,rfl,hGn,hG63,setRow_heap _ _ cs1 cs2 _ _ (by rw[hW]; exact setRow_heap _ _ row cs1 _ _ hN),by omega,.inr (Nat.le_refl _),?_,fun b' hb' _=>?_,h1,h2,h3,fun q hq=>?_⟩
    · rw[tG,hW,tG,hW1]; simp
    · rw[setRow_other W _ b' cs2 (by omega),hW,setRow_other W1 _ b' cs1 (by omega),hO b' hb']
    · have e1:cs1.toList[q]?=if q<i*2 then row.toList[q]? else if q<i*2+1*2 then vs[q - i*2]? else row.toList[q]?:=by
        rw[hcs1,aCs (by rw[hvsl,Array.length_toList,hrs]; omega),hvsl]
      rw[hcs2,List.getElem?_toArray,aCs (by rw[hml,Array.length_toList,hc1s]; omega),hml]
      by_cases h1:q<i*2
      · rw[if_pos (by omega),if_pos h1,e1,if_pos h1,Array.getElem?_toList,hrg q h1]
      · rw[if_neg h1]
        by_cases h2:q<i*2+2
        · rw[if_pos (by omega),if_pos h2,e1,if_neg h1,if_pos (by omega),hvg _ (by omega)]
        · rw[if_neg (by omega),if_neg h2,if_pos (by omega),hmg _ (by omega)]
          congr 1; omega
  have hE:∀ x,(w.alloc (.cells row 113)).drew=x→x.heap=W1.heap:=fun x h=>by rw[← h,hW1]; rfl
  have hW1o:W1.os=w.os∧(W1.tape=w.tape∧w.drawn≤W1.drawn)∧W1.output=w.output:=by rw[hW1]; exact⟨rfl,⟨rfl,Nat.le_succ _⟩,rfl⟩
  have mixed:=bF
  have hz1:¬ (((1:Nat):Int)=0):=by decide
  have hz2:¬ ((i:Int)=(n:Int)):=by omega
  have hz3:(c:Int)<(n:Int)+1:=by omega
  have hGi:¬ (G=i):=by omega
  have hGim:¬ (G=i+1):=by omega
  have hci:¬ (c=i):=by omega
  have hw1:IntKind.i64.wrap ((i:Int)+1)=(i:Int)+1:=by rw[IntKind.wrap_i64]; omega
  have hw2:IntKind.i64.wrap ((n:Int)+1)=(n:Int)+1:=by rw[IntKind.wrap_i64]; omega
  have hw3:IntKind.i64.wrap ((n:Int)+1 - (i:Int))=(n:Int)+1 - (i:Int):=by rw[IntKind.wrap_i64]; omega
  have hb1:(0:Int)≤(i:Int)+1:=by omega
  have hin:i≤n:=by omega
  have htn:((i:Int)+1).toNat=i+1:=by omega
  have hb3:(i:Int)≤(n:Int):=by omega
  have hic:i≤c:=by omega
  have hi1:i≤n+1:=by omega
  clear hkk hold hrow hG hcs1 hcs2 hrg hrs hmid hml hmg hm1 hpl hpll hpg hvl hvsl hvg hv1 hcell hone honv hc1s hc2s hN hO hik2
  go_enter Tryz.func165,Tryz.ntmps165
  go_wp2_with (first
    | (at_builtin; refine Lib.wpList_append_run _ rfl _ _ _ _ rfl _ _ rfl rfl _ _ (hrun _) ?_)
    | (at_builtin; refine xA _ rfl _ _ 40 40 rfl _ _ rfl rfl (hcpA _ rfl _ _) ?_))
  go_region_law_o (refine aCj rfl _ _ 40 40 rfl (.slice (some ⟨w.heap.size,(i+1)*2,none⟩) (n - i) (G - (i+1))) (.slice (some ⟨b,i*2,none⟩) (n - i) (c - i)) (by simp [Act.eval,Act.put]) (by simp [Act.eval,Act.put]) (hcpB _ (by rw[hW1]; rfl) 3 (G - (i+1)) (c - i)) ?_)
  go_wp2
  go_ret
  exact hq _ (by rw[hW1]; rfl) rfl ⟨rfl,Nat.le_trans (Nat.le_succ _) (Nat.le_succ _)⟩ rfl
theorem pick3 {α:Type} {l:List α} {y:α} {i j:Nat} (hi:i≤l.length) (hj:j<l.length+1):(l.take i++y::l.drop i)[j]?=if j<i then l[j]? else if j=i then some y else l[j - 1]?:=by
  have ht:(l.take i).length=i:=by rw[List.length_take]; omega
  by_cases h1:j<i
  · rw[if_pos h1,List.getElem?_append_left (by omega),List.getElem?_take,if_pos h1]
  · rw[if_neg h1,List.getElem?_append_right (by omega),ht]
    by_cases h2:j=i
    · rw[if_pos h2,h2,Nat.sub_self]; rfl
    · rw[if_neg h2,show j - i=(j - i - 1)+1 from by omega,List.getElem?_cons_succ,List.getElem?_drop]
      congr 1; omega
theorem aJ1 (xs:List (List AV)) (y:List AV) (n i:Nat) (hn:n=xs.length) (hi:i≤n) (hbig:(n+1)*24≤140737488355328) :
    DenX Tryz.prog 165 [.own E0 2 0 n,.s (.int .i64 (i:Nat)),.own E1 2 0 1] [(E0,.buf 2 xs),(E1,.buf 2 [y])] (fun r m=>r=.own E0 2 0 (n+1)∧m=[(E0,.buf 2 (xs.take i++y::xs.drop i))]):=by
  intro A w o vals hA hdom hm hr
  obtain ⟨v0,v1,v2,rfl⟩:∃ v0 v1 v2,vals=[v0,v1,v2]:=by
    have:=hr.1
    match vals,this with
    | [a,b,c],_=>exact⟨a,b,c,rfl⟩
  have r0:=hr.2 0 _ v0 rfl rfl
  have r1:=hr.2 1 _ v1 rfl rfl
  have r2:=hr.2 2 _ v2 rfl rfl
  cases r1
  have hl0:=hm.holds E0 (.buf 2 xs) rfl
  have hl1:=hm.holds E1 (.buf 2 [y]) rfl
  rcases hl1 with ⟨hx,_⟩ | ⟨vb,vcur,T2,hvE,hv,hvs,hvk,hvc⟩
  · cases hx
  obtain ⟨vc,rfl⟩:∃ vc,v2=.slice (some ⟨vb,0,none⟩) 1 vc:=by
    cases r2 with
    | own _ _ _ _ b' cap cur' T' hg h1 h2 h3 h4 =>
      have hg':o E1=some (some b'):=hg
      have hvE':o E1=some (some vb):=hvE
      rw[hg'] at hvE'; cases hvE'
      exact⟨cap,by simp⟩
  have hyl:y.length=2∧∀ c∈y,c.leaf=true:=hvk y (by simp)
  have hyc:∀ (q:Nat) (c:AV),y[q]?=some c→∃ v,vcur[q]?=some v∧RelV w ⟨o,A⟩ c v:=fun q c hc=>by
    obtain ⟨v,h1,h2⟩:=hvc 0 y q c rfl hc
    exact⟨v,by simpa using h1,h2⟩
  have honv:∀ (j:Nat) (v:Value),j<2→vcur[j]?=some v→v.oneCell'=true:=fun j v hj hv'=>by
    have hlt:j<y.length:=by rw[hyl.1]; exact hj
    obtain ⟨u,h1,h2⟩:=hyc j y[j] (List.getElem?_eq_getElem hlt)
    rw[hv'] at h1; cases h1
    exact h2.one (AV.one_of_leaf (hyl.2 _ (List.getElem_mem hlt)))
  have hvs2:2≤vcur.size:=by simpa using hvs
  -- what was there,cell by cell
  obtain ⟨x,old,hrun,hxo,hoc,hk⟩:∃ (x:Option Nat) (old:Nat→Option Value),Calls Tryz.prog 165 [v0,.int .i64 (i:Nat),.slice (some ⟨vb,0,none⟩) 1 vc].toArray w (aM7 w x n i old vcur)∧(∀ b,x=some b→o E0=some (some b)) ∧
      (∀ (j:Nat) z (q:Nat) c,xs[j]?=some z→z[q]?=some c→∃ v,old (j*2+q)=some v∧RelV w ⟨o,A⟩ c v)∧(∀ z∈xs,z.length=2∧∀ c∈z,c.leaf=true):=by
    have hempty:n=0→xs=[]:=fun h=>List.eq_nil_of_length_eq_zero (by omega)
    cases r0 with
    | ownn _ _ hg =>
      have hx0:=hempty rfl
      have hi0:i=0:=by omega
      subst hi0; subst hx0
      exact⟨none,fun _=>none,oF none 0 0 vb vc (fun _=>none) none vcur T2 w hv (Nat.le_refl _) (by omega) hbig (fun _=>rfl) [] rfl (fun q hq=>by omega) (fun a ha=>by cases ha) hvs2 honv,(fun b hb=>by cases hb),(fun j z q c h=>by simp at h),by simp⟩
    | own0 _ _ _ b a hg =>
      have hx0:=hempty rfl
      have hi0:i=0:=by omega
      subst hi0; subst hx0
      exact⟨some b,fun _=>none,oF (some ⟨b,a,none⟩) 0 0 vb vc (fun _=>none) (some b) vcur T2 w hv (Nat.le_refl _) (by omega) hbig (fun h=>by cases h) [] rfl (fun q hq=>by omega) (fun a ha j v hj=>by simp at hj) hvs2 honv,(fun b hb=>by cases hb; exact hg),(fun j z q c h=>by simp at h),by simp⟩
    | own _ _ _ _ b cap cur' T' hg h1 h2 h3 h4 =>
      rcases hl0 with ⟨_,hb⟩ | ⟨b0,cur,T,hbE,hh,hcs,hck,hcell⟩
      · have hg':o E0=some (some b):=hg
        have hb':o E0=some none:=hb
        rw[hg'] at hb'; cases hb'
      · have hg':o E0=some (some b):=hg
        have hb':o E0=some (some b0):=hbE
        rw[hg'] at hb'; cases hb'
        obtain ⟨e1,e2⟩:cur=cur'∧T=T':=by rw[hh] at h3; cases h3; exact⟨rfl,rfl⟩
        subst e1; subst e2
        have hsz:cap*2≤cur.size:=by omega
        have hc63:cap≤9223372036854775807:=by simpa [maxLen] using h2
        have hne:vb≠b:=fun e=>by
          have:=hm.inj E0 E1 b hg' (by rw[← e]; exact hvE)
          exact absurd this (by decide)
        have hone:∀ (j:Nat) (v:Value),j<n*2→cur[j]?=some v→v.oneCell'=true:=fun j v hj hv'=>by
          have hj2:j / 2<xs.length:=by rw[← hn]; omega
          have hy':xs[j / 2]?=some xs[j / 2]:=List.getElem?_eq_getElem hj2
          have hl:=hck _ (List.mem_of_getElem? hy')
          have hq:j % 2<(xs[j / 2]).length:=by rw[hl.1]; omega
          obtain ⟨u,hu,hru⟩:=hcell (j / 2) _ (j % 2) _ hy' (List.getElem?_eq_getElem hq)
          rw[show j / 2*2+j % 2=j by omega,hv'] at hu
          cases hu
          exact hru.one (AV.one_of_leaf (hl.2 _ (List.getElem_mem hq)))
        refine⟨some b,fun q=>cur[q]?,?_,(fun b' hb'=>by cases hb'; exact hg'),hcell,hck⟩
        have hv0:(⟨b,0*2,none⟩:Addr)=⟨b,0,none⟩:=by simp
        rw[hv0]
        by_cases hin:i<n
        · by_cases hroom:n+1≤cap
          · refine(aHj b n cap i vb vc cur vcur T T2 w hh hv hne hin hroom hc63 hsz hvs2 hone honv).mono ?_
            rintro e w' ⟨rfl,cs,rfl,hcsz,hq⟩
            exact aJ3 rfl rfl ⟨rfl,Nat.le_succ _⟩ rfl hh hroom hc63 hsz hcsz hq
          · exact aJ0 b n cap i vb vc cur vcur T T2 w hh hv hin h1 (by omega) hbig hsz hvs2 hone honv
        · have hie:i=n:=by omega
          rw[hie]
          by_cases hroom:n+1≤cap
          · exact aBr b n cap vb vc cur vcur T T2 w hh hv hroom hc63 hsz hvs2 honv
          · have htl:(cur.toList.take (n*2)).length=n*2:=by rw[List.length_take,Array.length_toList]; omega
            exact oF (some ⟨b,0,none⟩) n cap vb vc (fun q=>cur[q]?) (some b) vcur T2 w hv h1 (by omega) hbig (fun h=>by cases h) (cur.toList.take (n*2)) htl (fun q hq=>by rw[List.getElem?_take,if_pos hq,Array.getElem?_toList]) (fun a ha j v hj=>by
              cases ha
              have hj2:=(List.getElem?_eq_some_iff.1 hj).1
              rw[htl] at hj2
              rw[List.getElem?_take,if_pos hj2,Array.getElem?_toList] at hj
              rw[Addr.add_lit,Nat.zero_add]
              simp only[World.cell?,hh]
              exact hj) hvs2 honv
  refine hrun.mono ?_
  rintro e w' ⟨b',cap',cs,T,rfl,q1,q2,q3,q4,q5,q6,q7,q8,q9,q10,q11⟩
  have hnx:∀ b,Stable w ⟨o,A⟩ b→x≠some b:=fun b hb hx=>hb.2.1 E0 (hxo b hx)
  have hst:∀ b,Stable w ⟨o,A⟩ b→Stable w' ⟨fun g=>if g=E0 then some (some b') else none,A⟩ b∧w'.heap[b]?=w.heap[b]?:=fun b hb=>by
    refine⟨⟨Nat.lt_of_lt_of_le hb.1 q6,fun g hg=>?_,hb.2.2⟩,q7 b hb.1 (hnx b hb)⟩
    simp only at hg
    split at hg
    · cases hg
      rcases q5 with h | h
      · exact hnx b' hb h
      · have:=hb.1; omega
    · cases hg
  have hmv:∀ (a:AV) (v:Value),a.leaf=true→RelV w ⟨o,A⟩ a v→RelV w' ⟨fun g=>if g=E0 then some (some b') else none,A⟩ a v:=fun a v hlf h=>h.move (ok:=fun _=>false) hst (fun _ _ h _=>by cases h) (AV.clean_of_leaf hlf)
  have hlen:(xs.take i++y::xs.drop i).length=n+1:=by simp only[List.length_append,List.length_take,List.length_cons,List.length_drop]; omega
  have hA':¬ A b':=fun h=>by
    rcases q5 with h1 | h1
    · exact hm.avoid E0 b' (hxo b' h1) h
    · have:=hA b' h; omega
  refine⟨_,.own E0 2 0 (n+1),[(E0,.buf 2 (xs.take i++y::xs.drop i))],fun g=>if g=E0 then some (some b') else none,rfl,⟨rfl,rfl⟩,⟨q8,q9,q10,q6,fun b hb hno=>q7 b hb fun hx=>hno E0 (hxo b hx)⟩,fun g b hg=>?_,⟨fun g hg=>?_,fun g m hg=>?_,fun g g' b h1 h2=>?_,fun g b hg=>?_⟩,rfl,?_⟩
  · try simp only at hg
    split at hg
    · cases hg
      rcases q5 with h | h
      · exact .inl ⟨E0,hxo b' h⟩
      · exact .inr h
    · cases hg
  · show (if g=E0 then some (some b') else none)=none
    rw[cR] at hg
    split at hg
    · cases hg
    · rename_i hne; rw[if_neg (fun e=>hne e.symm)]
  · rw[cR] at hg
    split at hg
    · rename_i e; subst e; cases hg
      refine .inr ⟨b',cs,T,by simp,q3,by rw[hlen]; omega,fun z hz=>?_,fun j z q c hz hc=>?_⟩
      · rcases List.mem_append.1 hz with hz | hz
        · exact hk z (List.mem_of_mem_take hz)
        · rcases List.mem_cons.1 hz with rfl | hz
          · exact hyl
          · exact hk z (List.mem_of_mem_drop hz)
      · have hj:j<n+1:=by rw[← hlen]; exact(List.getElem?_eq_some_iff.1 hz).1
        rw[pick3 (by omega) (by omega)] at hz
        by_cases h1:j<i
        · rw[if_pos h1] at hz
          have hzk:=hk z (List.mem_of_getElem? hz)
          have hq:q<2:=by rw[← hzk.1]; exact(List.getElem?_eq_some_iff.1 hc).1
          obtain ⟨v,hv1,hv2⟩:=hoc j z q c hz hc
          exact⟨v,by rw[q11 _ (by omega),if_pos (by omega)]; exact hv1,hmv _ _ (hzk.2 c (List.mem_of_getElem? hc)) hv2⟩
        · rw[if_neg h1] at hz
          by_cases h2:j=i
          · rw[if_pos h2] at hz
            cases hz
            have hq:q<2:=by rw[← hyl.1]; exact(List.getElem?_eq_some_iff.1 hc).1
            obtain ⟨v,hv1,hv2⟩:=hyc q c hc
            refine⟨v,?_,hmv _ _ (hyl.2 c (List.mem_of_getElem? hc)) hv2⟩
            rw[q11 _ (by omega),if_neg (by omega),if_pos (by omega),show j*2+q - i*2=q from by omega]; exact hv1
          · rw[if_neg h2] at hz
            have hzk:=hk z (List.mem_of_getElem? hz)
            have hq:q<2:=by rw[← hzk.1]; exact(List.getElem?_eq_some_iff.1 hc).1
            obtain ⟨v,hv1,hv2⟩:=hoc (j - 1) z q c hz hc
            refine⟨v,?_,hmv _ _ (hzk.2 c (List.mem_of_getElem? hc)) hv2⟩
            rw[q11 _ (by omega),if_neg (by omega),if_neg (by omega),show j*2+q - 2=(j - 1)*2+q from by omega]; exact hv1
    · cases hg
  · try simp only at h1 h2
    split at h1
    · split at h2
      · rename_i e1 e2; rw[e1,e2]
      · cases h2
    · cases h1
  · try simp only at hg
    split at hg
    · cases hg; exact hA'
    · cases hg
  · have:=RelV.own (w:=w') (p:=⟨fun g=>if g=E0 then some (some b') else none,A⟩) E0 2 0 (n+1) b' cap' cs T (by simp) q1 (by simpa [maxLen] using q2) q3 (by omega)
    simpa using this
end Go.Proofs.YtpkanhklapfajaaGreat
