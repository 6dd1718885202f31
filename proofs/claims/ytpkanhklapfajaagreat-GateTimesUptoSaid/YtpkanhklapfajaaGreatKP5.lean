import Derived.WalkKit
import Derived.WalkSpells
import Derived.WalkLawsBesides
import Derived.Deep.LoopGhost
import Derived.ChangeKeysEq
import Derived.Still
import Derived.Lib.AppendZeros
import Derived.Laws.StructEq
import Derived.OpenShut
import Derived.Scope
import Derived.Shelf.SlSortCmp.Kit1
import Derived.Shelf.SlSortCmp.InsertionK
import Derived.Lib.SlicesCompact
import Derived.ProofKit
import Derived.ChangeSame
import Derived.Carry
import Derived.SliceStrings
import Derived.ChangeMaps5
import Derived.Deep.Slices
import Derived.Test.YtpkanhklapfajaaGreatRows
import Derived.Shelf.Abstract
import Derived.Shelf.SlSortCmp.WholeK
import Derived.Shelf.SlSortCmp.Whole1
import Derived.Shelf.SlSortCmp.NoneTotal
import Derived.Deep.RegionLaw
import Derived.Lib.Walk
import Derived.Lib.Overlaps
import Derived.Lib.AppendZerosOnto
import Derived.Laws.CopyRow
import Derived.Test.YtpkanhklapfajaaGreatKP1
import Derived.Test.YtpkanhklapfajaaGreatKP2
import Derived.Test.YtpkanhklapfajaaGreatKP3
import Derived.Test.YtpkanhklapfajaaGreatKP4
set_option maxRecDepth 20000
set_option maxHeartbeats 16000000
set_option linter.unusedVariables false
set_option linter.unusedSimpArgs false
namespace Go.Proofs.YtpkanhklapfajaaGreat
open Go Go.Abs
theorem aCd {g:Nat} {cap:List AV} (hent:∀ args w,(callFunc g args).run Tryz.prog w=.ok (.enter g args) w) (hcl:cleanL (fun _=>false) cap=true) (p:Us→Bool) (l:List Us) (hl:l.length≤9223372036854775807) (hp:∀ x∈l,Den Tryz.prog g (.agg (usC x)::cap) (·=.s (.bool (p x)))) :Den Tryz.prog 139 [.sl 2 (l.map usC),.fn g cap]  (·=.s (.int .i64 (pI p l))):=by
 refine aR Tryz.func139 rfl (Nat.le_of_ble_eq_true rfl) (fun w0 A hf=>(aC (fun K1 hK1=>(aB (aE aA 1 rfl (aD (hK1 _ (aC (fun K2 hK2=>(aC (fun K3 hK3=>(aB (aE aA 3 rfl (aD (hK3 _ (aM ?_))))))))))))))))
 refine bM (ι:=Nat) (fun k=>⟨19,[(0,.sl 2 (l.map usC)),(1,.fn g cap),(7,.s (.int .i64 ((l.map usC).length:Nat))),(8,.s (.int .i64 (k:Nat)))],[]⟩) (fun k=>k≤l.length∧∀ (j:Nat) (hj:j<l.length),j<k→p l[j]=false) (fun k=>l.length - k) 0 ?_ ?_ ?_
 · exact⟨by omega,by omega⟩
 · exact cN rfl
 ·
  rintro k hC
  obtain ⟨h1,h2⟩:=hC
  refine aC (fun K4 hK4=>(aB (aE aA 1 rfl (aD (hK4 _ (aC (fun K5 hK5=>(aK rfl (fun hc1=>?_) (fun hc1=>?_)))))))))
  ·
   simp only[bs] at hc1
   refine aL (hK5 _ (aC (fun K6 hK6=>(aM (aC (fun K7 hK7=>(aB (aE aA 2 rfl (aD (hK7 _ (aC (fun K8 hK8=>(aB (aE aA 3 rfl ?_))))))))))))))
   refine aG rfl (aY rfl rfl fR fS (by first | exact ixm (by omega) | assumption | exact⟨by decide,rfl⟩)) ?_
   refine aE aA 1 rfl (aJ hf rfl (aO rfl rfl hent (by rw[gS,hcl]; rfl) (hp _ (List.getElem_mem _))) ?_)
   refine aD (hK8 _ (aK rfl (fun hc2=>?_) (fun hc2=>?_)))
   ·
    refine aC (fun K9 hK9=>(aB (aE aA 2 rfl (aD (hK9 _ (aI ?_))))))
    refine⟨_,rfl,?_⟩
    refine dG ?_
    rw[pH (by omega) h2 (by assumption)]
   ·
    refine aL (hK6 _ (aB ?_))
    refine aG rfl (bK rfl rfl (by omega) (by omega)) ?_
    refine aE aA 1 rfl (aD ?_)
    exact⟨k+1,⟨by omega,fun j hj hjk=>by
      by_cases e:j=k
      · subst e; simp_all
      · exact h2 j hj (by omega)⟩,by omega,cN rfl⟩
  ·
   simp only[bs] at hc1
   refine aX (hK2 _ (aC (fun K10 hK10=>(aB (aE aA 1 rfl (aD (hK10 _ (aI ?_))))))))
   refine⟨_,rfl,?_⟩
   refine dG ?_
   rw[rG (fun j hj=>h2 j hj (by omega))]
theorem aBl {g:Nat} {cap:List AV} (hent:∀ args w,(callFunc g args).run Tryz.prog w=.ok (.enter g args) w) (hcl:cleanL (fun _=>false) cap=true) (hcv:∀ m,convL m cap=cap) (p:Us→Bool) (l:List Us) (n:Nat) (hn:n=l.length) (hl:l.length≤9223372036854775807) (hp:∀ x∈l,Den Tryz.prog g (.agg (usC x)::cap) (·=.s (.bool (p x)))) :DenM Tryz.prog 160 [.own E0 2 0 n,.fn g cap] 2 ((l.map usC)) (fun r ys=>r=.own E0 2 0 (l.filter fun x=>!p x).length∧ys=((l.filter fun x=>!p x).map usC)):=by
 subst hn
 have hq0:∀ j,((l.take j).filter fun x=>!p x).length≤j:=fun j=>iU _ l j
 have hq1:∀ j,((l.take j).filter fun x=>!p x).length≤l.length:=fun j=>hZ _ l j
 refine hJ Tryz.func160 rfl (Nat.le_of_ble_eq_true rfl) (fun w0 x0 A hf=>?_)
 refine aC (fun K1 hK1=>(aB (aG rfl (bD) (aD (hK1 _ (aC (fun K2 hK2=>(aB (aE aA 2 rfl (aJ hf rfl (sD rfl rfl (by show [AV.conv _ _,AV.fn g (convL _ cap)]=_; rw[hcv,cJ (g:=E0) rfl (by simp)]) aMm (aCd hent hcl p l hl hp) rfl) ?_))))))))))
 refine aE aA 1 rfl (aD (hK2 _ (aC (fun K3 hK3=>(aC (fun K4 hK4=>(aB (aE aA 2 rfl (aD (hK4 _ (aK rfl (fun hc1=>?_) (fun hc1=>?_))))))))))))
 ·
  simp only[bs] at hc1
  refine aC (fun K5 hK5=>(aB (aE aA 2 rfl (aD (hK5 _ (aI ?_))))))
  have hno:pI p l=-1:=by simpa using hc1
  rcases eL p l with ⟨_,hn⟩ | ⟨k,hk,e,_⟩
  · exact⟨_,.own E0 2 0 l.length,(l.map usC),Le.refl _,rfl,rfl,by rw[gQ p l hn],by rw[gQ p l hn]⟩
  · exfalso; omega
 ·
  simp only[bs] at hc1
  refine aL (hK3 _ (aC (fun K6 hK6=>(aC (fun K7 hK7=>(aB ?_))))))
  rcases eL p l with ⟨e0,_⟩ | ⟨k0,hk0,ek0,hpk0,hbef⟩
  · exact absurd e0 (by simpa using hc1)
  have hst:=mH (fun x=>!p x) l k0 hk0 (fun j hj hjk=>by simp [hbef j hj hjk]) (by simp [hpk0])
  rw[ek0]
  refine aE aA 1 rfl ?_
  refine aG rfl (bK rfl rfl (by omega) (by omega)) ?_
  refine aE aA 1 rfl (aD (hK7 _ (aM (bM (ι:=Nat) (fun j=>⟨42,[(0,.own E0 2 0 l.length),(1,.fn g cap),(5,.s (.int .i64 (((l.take j).filter fun x=>!p x).length:Nat))),(6,.s (.int .i64 (j:Nat)))],[(E0,.buf 2 ((jF (fun x=>!p x) l j).map usC))]⟩) (fun j=>j≤l.length) (fun j=>l.length - j) (k0+1) ?_ ?_ ?_))))
  · exact hk0
  · rw[hst.1,hst.2]; exact gN ⟨rfl,rfl,rfl,rfl,trivial⟩
  ·
   rintro j hC
   let q:=fun x=>!p x
   have hle:((l.take j).filter q).length≤j:=hq0 j
   have hle2:((l.take j).filter fun x=>!p x).length≤j:=hq0 j
   refine aC (fun K8 hK8=>(aC (fun K9 hK9=>(aB (aE aA 4 rfl (aD (hK9 _ (aK rfl (fun hc2=>?_) (fun hc2=>?_)))))))))
   ·
    simp only[bs] at hc2
    refine aL (hK8 _ (aC (fun K10 hK10=>(aM (aC (fun K11 hK11=>(aB (aE aA 2 rfl ?_))))))))
    refine aG rfl (bX rfl rfl fR fS (by omega)) ?_
    refine aG rfl (bZ rfl aUo fS rfl (sF (c:=2) (k:=j) (enc:=usC) (by omega) (by rw[eU]; omega) rfl) (cs':=usC l[j]) (by rw[oZ (c:=2) (k:=j) (enc:=usC) (by omega) (by rw[eU]; omega) rfl,rI q l j j (by omega) hle])) ?_
    refine cA hf rfl yI rfl fS rfl rfl rfl rfl (lf rfl) (aD (hK11 _ (aC (fun K12 hK12=>(aB (aE aA 2 rfl (aJ hf rfl (aO rfl rfl hent (by rw[gS,hcl]; rfl) (hp _ (List.getElem_mem _))) ?_)))))))
    refine aE aA 1 rfl (aD (hK12 _ (aK rfl (fun hc3=>?_) (fun hc3=>?_))))
    ·
     simp only[bs] at hc3
     refine aC (fun K13 hK13=>(aB (aE aA 3 rfl ?_)))
     refine aG rfl (bX rfl rfl fR fS (by omega)) ?_
     refine bB hf rfl rfl fS rfl rfl (by simp [usC,AV.cells,AV.one,Value.oneCell',splice]) (by simp [usC,AV.cells,AV.leaf,Value.oneCell',splice]) (hY (c:=2) (k:=((l.take j).filter fun x=>!p x).length) (enc:=usC) (v:=l[j]) (by omega) (by rw[eU]; omega) rfl (Nat.le_refl _)) ?_
     refine aD (hK13 _ (aB ?_))
     rw[kZ (fun x=>!p x) l j (by omega) (by simp_all)]
     refine aE aA 1 rfl ?_
     refine aG rfl (bK rfl rfl (by omega) (by omega)) ?_
     rw[nR (fun x=>!p x) l j (by omega) (by simp_all)]
     refine aE aA 1 rfl ?_
     refine bH ?_
     refine hK10 _ (aB (aE aA 1 rfl ?_))
     refine aG rfl (bK rfl rfl (by omega) (by omega)) ?_
     refine aE aA 1 rfl (aD ?_)
     exact⟨j+1,(by omega),by omega,cN rfl⟩
    ·
     simp only[bs] at hc3
     rw[lA (fun x=>!p x) l j (by omega) (by simp_all),nS (fun x=>!p x) l j (by omega) (by simp_all)]
     refine aL (hK10 _ (aB (aE aA 1 rfl ?_)))
     refine aG rfl (bK rfl rfl (by omega) (by omega)) ?_
     refine aE aA 1 rfl (aD ?_)
     exact⟨j+1,(by omega),by omega,cN rfl⟩
   ·
    simp only[bs] at hc2
    refine aX (hK6 _ (aC (fun K14 hK14=>(aB (aE aA 2 rfl ?_)))))
    refine aG rfl (eW rfl fR fS rfl rfl (by omega) (by omega)) ?_
    refine wZ hf lW yI (by simp [Value.oneCell']) rfl rfl ?_
    refine aD (hK14 _ (aC (fun K15 hK15=>(aB (aE aA 2 rfl ?_)))))
    refine aG rfl (eW rfl fR fS rfl rfl (by omega) (by omega)) ?_
    refine aE aA 1 rfl (aD (hK15 _ (aI ?_)))
    have hjl:l.length≤j:=by omega
    have he:=pN (fun x=>!p x) l j hjl
    refine⟨_,_,_,Le.refl _,rfl,rfl,?_,?_⟩
    · rw[List.take_of_length_le hjl]; rfl
    · rw[List.take_of_length_le hjl,Nat.zero_add,Int.toNat_natCast,← List.map_take,he]
theorem oS (l:List Us) (hl:l.length*40≤140737488355328) :DenO Tryz.prog 118 [.sl 2 (l.map usC)] 2 (·=(l.map usC)):=by
 refine fN Tryz.func118 rfl (Nat.le_of_ble_eq_true rfl) (fun w0 A hf=>?_)
 refine aC (fun K1 hK1=>(aB (aG rfl (bD) (aD (hK1 _ (aC (fun K2 hK2=>(aC (fun K3 hK3=>(aB (aE aA 1 rfl ?_)))))))))))
 refine mP rfl rfl rfl fR (fun b hb1=>?_)
 refine aD (hK3 _ (aK rfl (fun hc2=>?_) (fun hc2=>?_)))
 ·
  have hl0:l=[]:=by simpa using hb1 (by assumption)
  refine aC (fun K4 hK4=>(aB (kW hf 2 rfl rfl rfl (aD (hK4 _ (aI ?_))))))
  exact⟨2,[],by decide,rfl,rfl,by rw[hl0]; rfl⟩
 ·
  refine aL (hK2 _ (aC (fun K5 hK5=>(aB (cT hf rfl rfl rfl lW rfl rfl rfl rfl (l2 rfl) ?_)))))
  refine aE aA 1 rfl (aZ hf rfl lW rfl rfl rfl (.inl rfl) rfl rfl (by first | rfl | simp [dJ,bG]) (by first | (simp only[maxLen,List.length_map,List.length_append,List.length_cons,List.length_nil]; omega) | (simp [maxLen] <;> omega)) (by first | (simp only[List.length_map,List.length_append,List.length_cons,List.length_nil]; omega) | (simp <;> omega)) ?_)
  refine aU (cM [7] rfl) (aE aA 1 rfl (aD (hK5 _ (aI ?_))))
  refine⟨5,(l.map usC),by decide,rfl,?_,rfl⟩
  show some (AV.own 5 2 0 (0+(l.map usC).length))=_
  rw[Nat.zero_add]
theorem aQq (n:Nat) (hn:n*40≤140737488355328) :DenO Tryz.prog 187 [.s (.slice none 0 0),.s (.int .i64 (n:Nat))] 2 (·=[]):=by
 refine fN Tryz.func187 rfl (Nat.le_of_ble_eq_true rfl) (fun w0 A hf=>?_)
 refine aC (fun K1 hK1=>(aB (aG rfl (bD) (aD (hK1 _ (aC (fun K2 hK2=>(aC (fun K3 hK3=>(aB (aE aA 2 rfl (aD (hK3 _ (aK rfl (fun hc1=>?_) (fun hc1=>?_)))))))))))))))
 ·
  simp only[bs] at hc1
  omega
 ·
  simp only[bs] at hc1
  refine aL (hK2 _ (aC (fun K4 hK4=>(aC (fun K5 hK5=>(aB (aE aA 2 rfl (aG rfl (lN rfl fR) (aE aA 2 rfl ?_)))))))))
  refine aG rfl (eZ rfl rfl (by omega) (by omega)) ?_
  refine aG rfl (eZ rfl rfl (by omega) (by omega)) ?_
  refine aE aA 1 rfl (aD (hK5 _ (aC (fun K6 hK6=>(aB (aE aA 2 rfl (aD (hK6 _ (aK rfl (fun hc2=>?_) (fun hc2=>?_))))))))))
  ·
   simp only[bs] at hc2
   refine aB (aE aA 2 rfl (aG rfl (lN rfl fR) ?_))
   refine aG rfl (qC rfl fR fS rfl) ?_
   refine aE aA 1 rfl (uP hf rfl rfl rfl lW Tryz.underlying3 rfl rfl (by omega) (by omega) (by simp only[maxLen]; omega) ?_)
   refine aE aA 2 rfl ?_
   refine aG rfl (eW rfl fR fS rfl rfl (by omega) (by omega)) ?_
   refine aE aA 1 rfl (aD (hK4 _ (aC (fun K7 hK7=>(aB (aE aA 1 rfl ?_))))))
   refine aG rfl (tR rfl) ?_
   refine aD (hK7 _ (aI ?_))
   exact⟨22,[],by decide,rfl,rfl,rfl⟩
  ·
   simp only[bs] at hc2
   refine aL (hK4 _ (aC (fun K8 hK8=>(aB (aE aA 1 rfl ?_)))))
   refine aGu hf 2 rfl rfl rfl rfl ?_
   refine aD (hK8 _ (aI ?_))
   exact⟨4,[],by decide,rfl,rfl,rfl⟩
theorem aIn (rows:List (List Us)) (hl:rows.length≤9223372036854775807) (hb:rows.flatten.length*40≤140737488355328) :DenO Tryz.prog 166 [.sl 1 (rows.map fun r=>[AV.sl 2 (r.map usC)])] 2 (·=(rows.flatten.map usC)):=by
 refine fN Tryz.func166 rfl (Nat.le_of_ble_eq_true rfl) (fun w0 A hf=>?_)
 refine aC (fun K1 hK1=>(aB (aG rfl (bD) (aD (hK1 _ (aC (fun K2 hK2=>(aB (aE aA 1 rfl (aD (hK2 _ (aC (fun K3 hK3=>(aC (fun K4 hK4=>(aB ?_))))))))))))))))
 refine aE aA 3 rfl (aD (hK4 _ (aM (bM (ι:=Nat) (fun k=>⟨36,[(0,.sl 1 (rows.map fun r=>[AV.sl 2 (r.map usC)])),(3,.s (.int .i64 ((rows.take k).flatten.length:Nat))),(9,.sl 1 (rows.map fun r=>[AV.sl 2 (r.map usC)])),(10,.s (.int .i64 ((rows.map fun r=>[AV.sl 2 (r.map usC)]).length:Nat))),(11,.s (.int .i64 (k:Nat)))],[]⟩) (fun k=>k≤rows.length) (fun k=>rows.length - k) 0 ?_ ?_ ?_))))
 · exact Nat.zero_le _
 · exact cN rfl
 ·
  rintro k hC
  refine aC (fun K5 hK5=>(aB (aE aA 1 rfl (aD (hK5 _ (aC (fun K6 hK6=>(aK rfl (fun hc1=>?_) (fun hc1=>?_)))))))))
  ·
   simp only[bs] at hc1
   refine aL (hK6 _ (aC (fun K7 hK7=>(aM (aC (fun K8 hK8=>(aB ?_)))))))
   refine aG rfl (aY rfl rfl aGp pV (by first | exact ixm (by omega) | assumption | exact⟨by decide,rfl⟩)) ?_
   refine aE aA 2 rfl (aD (hK8 _ (aC (fun K9 hK9=>(aB ?_)))))
   have hk:k<rows.length:=by omega
   have e1:=congrArg List.length (hU rows k hk)
   rw[List.length_append] at e1
   have e2:=qE rows (k+1)
   have e3:(rows[k].map usC).length=rows[k].length:=List.length_map _
   refine aE aA 3 rfl ?_
   refine aG rfl (bK rfl rfl (by omega) (by omega)) ?_
   rw[show ((((rows.take k).flatten.length:Nat):Int)+(((rows[k].map usC).length:Nat):Int))=(((rows.take (k+1)).flatten.length:Nat):Int) from by omega]
   refine aE aA 1 rfl (aD (hK9 _ (aC (fun K10 hK10=>(aB (aE aA 2 rfl (aD (hK10 _ (aK rfl (fun hc2=>?_) (fun hc2=>?_))))))))))
   ·
    simp only[bs] at hc2
    omega
   ·
    simp only[bs] at hc2
    refine aL (hK7 _ (aB ?_))
    refine aG rfl (bK rfl rfl (by omega) (by omega)) ?_
    refine aE aA 1 rfl (aD ?_)
    exact⟨k+1,(by omega),by omega,cN rfl⟩
  ·
   simp only[bs] at hc1
   refine aX (hK3 _ (aC (fun K11 hK11=>(aB ?_))))
   rw[List.take_of_length_le (show rows.length≤k by omega)]
   refine aE aA 1 rfl (iB hf rfl rfl rfl rfl rfl aLp rfl (aQq rows.flatten.length (by omega)) ?_)
   rintro _ rfl
   refine aE aA 1 rfl (aD (hK11 _ (aC (fun K12 hK12=>(aC (fun K13 hK13=>(aB (aE aA 3 rfl (aD (hK13 _ (aM (bM (ι:=Nat) (fun j=>⟨36,[(6,.own 24 2 0 (rows.take j).flatten.length),(25,.sl 1 (rows.map fun r=>[AV.sl 2 (r.map usC)])),(26,.s (.int .i64 ((rows.map fun r=>[AV.sl 2 (r.map usC)]).length:Nat))),(27,.s (.int .i64 (j:Nat)))],[(24,.buf 2 ((rows.take j).flatten.map usC))]⟩) (fun j=>j≤rows.length) (fun j=>rows.length - j) 0 ?_ ?_ ?_))))))))))))
   · exact Nat.zero_le _
   · exact cN rfl
   ·
    rintro j hC
    refine aC (fun K14 hK14=>(aB (aE aA 1 rfl (aD (hK14 _ (aC (fun K15 hK15=>(aK rfl (fun hc3=>?_) (fun hc3=>?_)))))))))
    ·
     simp only[bs] at hc3
     refine aL (hK15 _ (aC (fun K16 hK16=>(aM (aC (fun K17 hK17=>(aB ?_)))))))
     refine aG rfl (aY rfl rfl aGp pV (by first | exact ixm (by omega) | assumption | exact⟨by decide,rfl⟩)) ?_
     refine aE aA 2 rfl (aD (hK17 _ (aB ?_)))
     have hj:j<rows.length:=by omega
     have e1:=congrArg List.length (hU rows j hj)
     rw[List.length_append] at e1
     have e2:=qE rows (j+1)
     have e3:(rows[j].map usC).length=rows[j].length:=List.length_map _
     refine aE aA 2 rfl (aZ hf rfl lW rfl rfl rfl (.inl rfl) (by simp only[List.length_map]) rfl (by first | rfl | simp [dJ,bG]) (by first | (simp only[maxLen,List.length_map,List.length_append,List.length_cons,List.length_nil]; omega) | (simp [maxLen] <;> omega)) (by first | (simp only[List.length_map,List.length_append,List.length_cons,List.length_nil]; omega) | (simp <;> omega)) ?_)
     refine aU (cM [25,26,27,33] rfl) ?_
     rw[show (rows.take j).flatten.length+(rows[j].map usC).length=(rows.take (j+1)).flatten.length from by omega,← List.map_append,← hU rows j hj]
     refine aE aA 1 rfl ?_
     refine bH ?_
     refine hK16 _ (aB ?_)
     refine aG rfl (bK rfl rfl (by omega) (by omega)) ?_
     refine aE aA 1 rfl (aD ?_)
     exact⟨j+1,(by omega),by omega,cN rfl⟩
    ·
     simp only[bs] at hc3
     refine aX (hK12 _ (aC (fun K18 hK18=>(aB (aE aA 2 rfl (aD (hK18 _ (aI ?_))))))))
     refine⟨24,(rows.flatten.map usC),by decide,?_,?_,rfl⟩
     · rw[List.take_of_length_le (show rows.length≤j by omega)]; rfl
     · rw[List.take_of_length_le (show rows.length≤j by omega)]
       show some (AV.own 24 2 0 rows.flatten.length)=_
       rw[List.length_map]
end Go.Proofs.YtpkanhklapfajaaGreat
set_option linter.unusedVariables false
set_option linter.unusedSimpArgs false
namespace Go.Proofs.YtpkanhklapfajaaGreat
open Go Go.Abs
theorem nT (s:Sta) (hz:SzS 140737488355328 s) :DenX Tryz.prog 61 [.agg (bJ s)] [] (fun r m=>r=.agg (eH s E0 E1)∧m=[(E0,.buf 2 (s.usr.map usC)),(E1,.buf 2 (s.tmb.map tmC))]):=by
 have z1:=hz.o
 have z2:=hz.u
 have z3:=hz.b
 have z4:=hz.t
 refine iJ [] Tryz.func61 rfl (Nat.le_of_ble_eq_true rfl) (args':=[.agg (bJ s)]) (m':=[]) rfl rfl (by decide) (by decide) rfl (fun w0 o0 A hf=>?_)
 refine aC (fun K1 hK1=>(aB (sZ hf rfl rfl rfl rfl (l1 rfl) ?_)))
 refine bV hf rfl rfl rfl bR (aD (hK1 _ (aC (fun K2 hK2=>(fJ bF ?_)))))
 refine bQ (listed':=#[true,false,false,false,false,false,false,false,false,false,false,false,false,false,false,false,false,false,false,false]) 0 rfl (by kernel_rfl) (by kernel_rfl) (by kernel_rfl) rfl (fun _ _ h=>h) (qP rfl aLl oC rfl) ?_
 refine bQ (listed':=#[true,false,false,true,false,false,false,false,false,false,false,false,false,false,false,false,false,false,false,false]) 3 rfl (by kernel_rfl) (by kernel_rfl) (by kernel_rfl) rfl (fun _ _ h=>h) (qP rfl aLk pV rfl) ?_
 refine bQ (listed':=#[true,false,false,true,false,false,true,false,false,false,false,false,false,false,false,false,false,false,false,false]) 6 rfl (by kernel_rfl) (by kernel_rfl) (by kernel_rfl) rfl (fun _ _ h=>h) (qP rfl aLj pU rfl) ?_
 refine bQ (listed':=#[true,false,false,true,false,false,true,false,false,true,false,false,false,false,false,false,false,false,false,false]) 9 rfl (by kernel_rfl) (by kernel_rfl) (by kernel_rfl) rfl (fun _ _ h=>h) (qP rfl aLi uO rfl) ?_
 refine aV 7 #[true,true,true,true,true,true,true,true,true,true,true,true,true,false,false,false,false,false,false,false] ⟨40,[(1,.ref 1 0 0 0),(2,.ref 2 0 0 0),(6,.sl 4 (s.opn.map seC)),(9,.own 9 2 0 (s.usr.map usC).length),(12,.sl 4 (s.sub.map enC)),(15,.own 15 2 0 (s.tmb.map tmC).length),(16,.ref 1 0 0 2)],[(15,.buf 2 (s.tmb.map tmC)),(9,.buf 2 (s.usr.map usC)),(2,.box [.s (.int .i64 0),.s (.int .i64 0),.s (.slice none 0 0),.s (.slice none 0 0),.s (.slice none 0 0),.s (.slice none 0 0)]),(1,.box (bJ s))]⟩ ?_ (fun hD0=>?_)
 ·
  refine aH 13 [] (by kernel_rfl) ⟨?_,trivial⟩
  ·
   refine⟨_,rfl,rfl,(ao rfl (bB hf rfl rfl oC rfl rfl (l1 rfl) (l4 rfl) rfl (aF (aH 14 [] (by kernel_rfl) ⟨?_,trivial⟩))))⟩
   ·
    refine⟨_,rfl,rfl,(ao rfl (aE aA 1 rfl (aF (aH 15 [] (by kernel_rfl) ⟨?_,trivial⟩))))⟩
    ·
     refine⟨_,rfl,rfl,(ao rfl (bB hf rfl rfl pV rfl rfl (l1 rfl) (l4 rfl) rfl (aF (aH 16 [] (by kernel_rfl) ⟨?_,trivial⟩))))⟩
     ·
      refine⟨_,rfl,rfl,(ao rfl (aE aA 1 rfl (aF (aH 17 [] (by kernel_rfl) ⟨?_,trivial⟩))))⟩
      ·
       refine⟨_,rfl,rfl,(ao rfl (bB hf rfl rfl pU rfl rfl (l1 rfl) (l4 rfl) rfl (aF (aH 18 [] (by kernel_rfl) ⟨?_,trivial⟩))))⟩
       ·
        refine⟨_,rfl,rfl,(ao rfl (aE aA 1 rfl (aF (aH 19 [] (by kernel_rfl) ⟨?_,trivial⟩))))⟩
        ·
         refine⟨_,rfl,rfl,(ao rfl (bB hf rfl rfl uO rfl rfl (l1 rfl) (l4 rfl) rfl (aF (bS (by kernel_rfl) ?_))))⟩
         refine hK2 _ (aC (fun K3 hK3=>(aC (fun K4 hK4=>(aB (aE aA 4 rfl (aD (hK4 _ (aM (bM (ι:=Nat) (fun k=>⟨40,[(1,.ref 1 0 0 0),(2,.ref 2 0 0 0),(22,.s (.int .i64 ((s.usr.map usC).length:Nat))),(23,.s (.int .i64 (k:Nat)))],[(15,.buf 2 (s.tmb.map tmC)),(9,.buf 2 (s.usr.map usC)),(2,.box [.s (.int .i64 0),.s (.int .i64 0),.s (.slice none 0 0),.s (.slice none 0 0),.s (.slice none 0 0),.s (.slice none 0 0)]),(1,.box (eH s 9 15))]⟩) (fun k=>k≤s.usr.length) (fun k=>s.usr.length - k) 0 ?_ ?_ ?_))))))))))
         · exact Nat.zero_le _
         · exact cN rfl
         ·
          rintro k hC
          refine aC (fun K5 hK5=>(aB (aE aA 1 rfl (aD (hK5 _ (aC (fun K6 hK6=>(aK rfl (fun hc1=>?_) (fun hc1=>?_)))))))))
          ·
           simp only[bs] at hc1
           refine aL (hK6 _ (aC (fun K7 hK7=>(aM (aC (fun K8 hK8=>(aB ?_)))))))
           have hk:k<s.usr.length:=by omega
           have hlm:(s.usr.map usC).length=s.usr.length:=List.length_map _
           refine aE aA 2 rfl (aD (hK8 _ (fO hf (L:=#[true,true,true,true,true,true,true,true,true,true,true,true,false]) 12 1 bF (by kernel_rfl) rfl (by kernel_rfl) rfl ?_)))
           refine aT aA 6 rfl ?_
           refine bI [(30,_),(31,_)] rfl rfl ⟨⟨rfl,rfl⟩,⟨rfl,rfl⟩,trivial⟩ rfl (bX rfl rfl fR fS (by omega)) ?_
           refine aT aA 1 rfl (bI [(33,_)] rfl rfl ⟨⟨rfl,rfl⟩,trivial⟩ rfl (gY rfl aLb rfl ((iD (by omega) hk 1).trans rfl)) (bL [(34,_)] rfl rfl ⟨⟨rfl,rfl⟩,trivial⟩ rfl (aO rfl rfl wP rfl (cQ (vX s.usr[k].2 (hz.y _ (List.getElem_mem hk))))) ?_))
           refine bI [(27,_),(28,_)] rfl rfl ⟨⟨rfl,rfl⟩,⟨rfl,rfl⟩,trivial⟩ rfl (bX rfl rfl fR fS (by omega)) ?_
           refine aT aA 1 rfl (pE [1,2,22,23,35,37] rfl rfl rfl ?_)
           refine aH 12 [] (by kernel_rfl) ⟨?_,trivial⟩
           ·
            refine⟨_,rfl,rfl,(ao rfl (bB hf rfl rfl yL rfl rfl (by simp [AV.cells,AV.one,Value.oneCell']) (by simp [AV.cells,AV.leaf,Value.oneCell']) (hY (c:=2) (k:=k) (f:=1) (enc:=usC) (v:=s.usr[k]) (by omega) (by omega) rfl (Nat.le_of_ble_eq_true rfl)) ?_))⟩
            refine aF (bS (by kernel_rfl) ?_)
            refine hK7 _ (aB ?_)
            refine aG rfl (bK rfl rfl (by omega) (by omega)) ?_
            refine aE aA 1 rfl (aD ?_)
            exact⟨k+1,by omega,by omega,cF ⟨rfl,rfl,rfl,rfl,trivial⟩ (by rw[List.set_getElem_self]; rfl)⟩
          ·
           simp only[bs] at hc1
           refine aX (hK3 _ (aC (fun K9 hK9=>(aB (aG rfl (bZ (cs':=eH s 9 15) rfl nV cP rfl rfl rfl) (bB hf rfl rfl cP rfl rfl (l1 rfl) (l4 rfl) rfl (aD (hK9 _ (aI ?_)))))))))
           exact⟨_,[(E0,9),(E1,15)],_,Le.refl _,by decide,rfl,rfl,⟨rfl,rfl⟩⟩
 refine aV 8 #[true,true,true,true,true,true,true,true,true,true,true,true,false,false,false,false,false,false,false,false] ⟨40,[(1,.ref 1 0 0 0),(2,.ref 2 0 0 0),(6,.sl 4 (s.opn.map seC)),(9,.own 9 2 0 (s.usr.map usC).length),(12,.sl 4 (s.sub.map enC)),(15,.own 15 2 0 (s.tmb.map tmC).length)],[(15,.buf 2 (s.tmb.map tmC)),(9,.buf 2 (s.usr.map usC)),(2,.box [.s (.int .i64 0),.s (.int .i64 0),.s (.slice none 0 0),.s (.slice none 0 0),.s (.slice none 0 0),.s (.slice none 0 0)]),(1,.box (bJ s))]⟩ ?_ (fun hD1=>?_)
 ·
  refine aH 12 [] (by kernel_rfl) ⟨?_,trivial⟩
  ·
   refine⟨_,rfl,rfl,(ao rfl (aE aA 1 rfl (aF (ag hD0 rfl rfl rfl))))⟩
 refine aV 8 #[true,true,true,true,true,true,true,true,true,true,true,false,true,false,false,false,false,false,false,false] ⟨40,[(1,.ref 1 0 0 0),(2,.ref 2 0 0 0),(6,.sl 4 (s.opn.map seC)),(9,.own 9 2 0 (s.usr.map usC).length),(12,.sl 4 (s.sub.map enC)),(14,.sl 2 (s.tmb.map tmC)),(16,.ref 1 0 0 2)],[(9,.buf 2 (s.usr.map usC)),(2,.box [.s (.int .i64 0),.s (.int .i64 0),.s (.slice none 0 0),.s (.slice none 0 0),.s (.slice none 0 0),.s (.slice none 0 0)]),(1,.box (bJ s))]⟩ ?_ (fun hD2=>?_)
 ·
  refine aH 11 [] (by kernel_rfl) ⟨?_,trivial⟩
  ·
   refine⟨_,rfl,rfl,(ao rfl (iB hf rfl rfl rfl rfl rfl aBg rfl (aCh s.tmb (by omega)) ?_))⟩
   rintro _ rfl
   refine aF (ag hD0 rfl rfl rfl)
 refine aV 9 #[true,true,true,true,true,true,true,true,true,true,true,false,false,false,false,false,false,false,false,false] ⟨40,[(1,.ref 1 0 0 0),(2,.ref 2 0 0 0),(6,.sl 4 (s.opn.map seC)),(9,.own 9 2 0 (s.usr.map usC).length),(12,.sl 4 (s.sub.map enC)),(14,.sl 2 (s.tmb.map tmC))],[(9,.buf 2 (s.usr.map usC)),(2,.box [.s (.int .i64 0),.s (.int .i64 0),.s (.slice none 0 0),.s (.slice none 0 0),.s (.slice none 0 0),.s (.slice none 0 0)]),(1,.box (bJ s))]⟩ ?_ (fun hD3=>?_)
 ·
  refine aH 11 [12] (by kernel_rfl) ⟨?_,?_,trivial⟩
  ·
   refine⟨_,rfl,rfl,(ao rfl (iB hf rfl rfl rfl rfl rfl aBg rfl (aCh s.tmb (by omega)) ?_))⟩
   rintro _ rfl
   refine aF (ag hD1 rfl rfl rfl)
  ·
   refine⟨_,rfl,rfl,(ao rfl (aE aA 1 rfl (aF (ag hD2 rfl rfl rfl))))⟩
 refine aV 9 #[true,true,true,true,true,true,true,true,false,true,true,false,true,false,false,false,false,false,false,false] ⟨40,[(1,.ref 1 0 0 0),(2,.ref 2 0 0 0),(6,.sl 4 (s.opn.map seC)),(9,.own 9 2 0 (s.usr.map usC).length),(11,.sl 4 (s.sub.map enC)),(14,.sl 2 (s.tmb.map tmC)),(16,.ref 1 0 0 2)],[(9,.buf 2 (s.usr.map usC)),(2,.box [.s (.int .i64 0),.s (.int .i64 0),.s (.slice none 0 0),.s (.slice none 0 0),.s (.slice none 0 0),.s (.slice none 0 0)]),(1,.box (bJ s))]⟩ ?_ (fun hD4=>?_)
 ·
  refine aH 8 [] (by kernel_rfl) ⟨?_,trivial⟩
  ·
   refine⟨_,rfl,rfl,(ao rfl (aJ hf rfl (aO rfl rfl nW rfl (cQ (pM s.sub (by omega)))) (aF (ag hD2 rfl rfl rfl))))⟩
 refine aV 10 #[true,true,true,true,true,true,true,true,true,true,false,false,false,false,false,false,false,false,false,false] ⟨40,[(1,.ref 1 0 0 0),(2,.ref 2 0 0 0),(6,.sl 4 (s.opn.map seC)),(9,.own 9 2 0 (s.usr.map usC).length),(12,.sl 4 (s.sub.map enC)),(13,.ref 1 0 0 5)],[(9,.buf 2 (s.usr.map usC)),(2,.box [.s (.int .i64 0),.s (.int .i64 0),.s (.slice none 0 0),.s (.slice none 0 0),.s (.slice none 0 0),.s (.slice none 0 0)]),(1,.box (bJ s))]⟩ ?_ (fun hD5=>?_)
 ·
  refine aH 10 [] (by kernel_rfl) ⟨?_,trivial⟩
  ·
   refine⟨_,rfl,rfl,(ao rfl (aE aA 1 rfl (aF (ag hD3 rfl rfl rfl))))⟩
 refine aV 10 #[true,true,true,true,true,true,true,true,false,true,true,false,false,false,false,false,false,false,false,false] ⟨40,[(1,.ref 1 0 0 0),(2,.ref 2 0 0 0),(6,.sl 4 (s.opn.map seC)),(9,.own 9 2 0 (s.usr.map usC).length),(11,.sl 4 (s.sub.map enC)),(14,.sl 2 (s.tmb.map tmC))],[(9,.buf 2 (s.usr.map usC)),(2,.box [.s (.int .i64 0),.s (.int .i64 0),.s (.slice none 0 0),.s (.slice none 0 0),.s (.slice none 0 0),.s (.slice none 0 0)]),(1,.box (bJ s))]⟩ ?_ (fun hD6=>?_)
 ·
  refine aH 8 [12] (by kernel_rfl) ⟨?_,?_,trivial⟩
  ·
   refine⟨_,rfl,rfl,(ao rfl (aJ hf rfl (aO rfl rfl nW rfl (cQ (pM s.sub (by omega)))) (aF (ag hD3 rfl rfl rfl))))⟩
  ·
   refine⟨_,rfl,rfl,(ao rfl (aE aA 1 rfl (aF (ag hD4 rfl rfl rfl))))⟩
 refine aV 10 #[true,true,true,true,true,false,true,true,false,true,true,false,true,false,false,false,false,false,false,false] ⟨40,[(1,.ref 1 0 0 0),(2,.ref 2 0 0 0),(6,.sl 4 (s.opn.map seC)),(8,.sl 2 (s.usr.map usC)),(11,.sl 4 (s.sub.map enC)),(14,.sl 2 (s.tmb.map tmC)),(16,.ref 1 0 0 2)],[(2,.box [.s (.int .i64 0),.s (.int .i64 0),.s (.slice none 0 0),.s (.slice none 0 0),.s (.slice none 0 0),.s (.slice none 0 0)]),(1,.box (bJ s))]⟩ ?_ (fun hD7=>?_)
 ·
  refine aH 5 [] (by kernel_rfl) ⟨?_,trivial⟩
  ·
   refine⟨_,rfl,rfl,(ao rfl (iB hf rfl rfl rfl rfl rfl nX rfl (oS s.usr (by omega)) ?_))⟩
   rintro _ rfl
   refine aF (ag hD4 rfl rfl rfl)
 refine aV 11 #[true,true,true,true,true,true,true,true,false,true,false,false,false,false,false,false,false,false,false,false] ⟨40,[(1,.ref 1 0 0 0),(2,.ref 2 0 0 0),(6,.sl 4 (s.opn.map seC)),(9,.own 9 2 0 (s.usr.map usC).length),(11,.sl 4 (s.sub.map enC)),(13,.ref 1 0 0 5)],[(9,.buf 2 (s.usr.map usC)),(2,.box [.s (.int .i64 0),.s (.int .i64 0),.s (.slice none 0 0),.s (.slice none 0 0),.s (.slice none 0 0),.s (.slice none 0 0)]),(1,.box (bJ s))]⟩ ?_ (fun hD8=>?_)
 ·
  refine aH 8 [10] (by kernel_rfl) ⟨?_,?_,trivial⟩
  ·
   refine⟨_,rfl,rfl,(ao rfl (aJ hf rfl (aO rfl rfl nW rfl (cQ (pM s.sub (by omega)))) (aF (ag hD5 rfl rfl rfl))))⟩
  ·
   refine⟨_,rfl,rfl,(ao rfl (aE aA 1 rfl (aF (ag hD6 rfl rfl rfl))))⟩
 refine aV 11 #[true,true,true,true,true,true,true,false,false,true,true,false,false,false,false,false,false,false,false,false] ⟨40,[(1,.ref 1 0 0 0),(2,.ref 2 0 0 0),(6,.sl 4 (s.opn.map seC)),(9,.own 9 2 0 (s.usr.map usC).length),(10,.ref 1 0 0 4),(14,.sl 2 (s.tmb.map tmC))],[(9,.buf 2 (s.usr.map usC)),(2,.box [.s (.int .i64 0),.s (.int .i64 0),.s (.slice none 0 0),.s (.slice none 0 0),.s (.slice none 0 0),.s (.slice none 0 0)]),(1,.box (bJ s))]⟩ ?_ (fun hD9=>?_)
 ·
  refine aH 7 [] (by kernel_rfl) ⟨?_,trivial⟩
  ·
   refine⟨_,rfl,rfl,(ao rfl (aE aA 1 rfl (aF (ag hD6 rfl rfl rfl))))⟩
 refine aV 11 #[true,true,true,true,true,false,true,true,false,true,true,false,false,false,false,false,false,false,false,false] ⟨40,[(1,.ref 1 0 0 0),(2,.ref 2 0 0 0),(6,.sl 4 (s.opn.map seC)),(8,.sl 2 (s.usr.map usC)),(11,.sl 4 (s.sub.map enC)),(14,.sl 2 (s.tmb.map tmC))],[(2,.box [.s (.int .i64 0),.s (.int .i64 0),.s (.slice none 0 0),.s (.slice none 0 0),.s (.slice none 0 0),.s (.slice none 0 0)]),(1,.box (bJ s))]⟩ ?_ (fun hD10=>?_)
 ·
  refine aH 5 [12] (by kernel_rfl) ⟨?_,?_,trivial⟩
  ·
   refine⟨_,rfl,rfl,(ao rfl (iB hf rfl rfl rfl rfl rfl nX rfl (oS s.usr (by omega)) ?_))⟩
   rintro _ rfl
   refine aF (ag hD6 rfl rfl rfl)
  ·
   refine⟨_,rfl,rfl,(ao rfl (aE aA 1 rfl (aF (ag hD7 rfl rfl rfl))))⟩
 refine aV 12 #[true,true,true,true,true,true,true,false,false,true,false,false,false,false,false,false,false,false,false,false] ⟨40,[(1,.ref 1 0 0 0),(2,.ref 2 0 0 0),(6,.sl 4 (s.opn.map seC)),(9,.own 9 2 0 (s.usr.map usC).length),(10,.ref 1 0 0 4),(13,.ref 1 0 0 5)],[(9,.buf 2 (s.usr.map usC)),(2,.box [.s (.int .i64 0),.s (.int .i64 0),.s (.slice none 0 0),.s (.slice none 0 0),.s (.slice none 0 0),.s (.slice none 0 0)]),(1,.box (bJ s))]⟩ ?_ (fun hD11=>?_)
 ·
  refine aH 7 [10] (by kernel_rfl) ⟨?_,?_,trivial⟩
  ·
   refine⟨_,rfl,rfl,(ao rfl (aE aA 1 rfl (aF (ag hD8 rfl rfl rfl))))⟩
  ·
   refine⟨_,rfl,rfl,(ao rfl (aE aA 1 rfl (aF (ag hD9 rfl rfl rfl))))⟩
 refine aV 12 #[true,true,true,true,true,false,true,true,false,true,false,false,false,false,false,false,false,false,false,false] ⟨40,[(1,.ref 1 0 0 0),(2,.ref 2 0 0 0),(6,.sl 4 (s.opn.map seC)),(8,.sl 2 (s.usr.map usC)),(11,.sl 4 (s.sub.map enC)),(13,.ref 1 0 0 5)],[(2,.box [.s (.int .i64 0),.s (.int .i64 0),.s (.slice none 0 0),.s (.slice none 0 0),.s (.slice none 0 0),.s (.slice none 0 0)]),(1,.box (bJ s))]⟩ ?_ (fun hD12=>?_)
 ·
  refine aH 5 [10] (by kernel_rfl) ⟨?_,?_,trivial⟩
  ·
   refine⟨_,rfl,rfl,(ao rfl (iB hf rfl rfl rfl rfl rfl nX rfl (oS s.usr (by omega)) ?_))⟩
   rintro _ rfl
   refine aF (ag hD8 rfl rfl rfl)
  ·
   refine⟨_,rfl,rfl,(ao rfl (aE aA 1 rfl (aF (ag hD10 rfl rfl rfl))))⟩
 refine aV 12 #[true,true,true,true,true,false,true,false,false,true,true,false,false,false,false,false,false,false,false,false] ⟨40,[(1,.ref 1 0 0 0),(2,.ref 2 0 0 0),(6,.sl 4 (s.opn.map seC)),(8,.sl 2 (s.usr.map usC)),(10,.ref 1 0 0 4),(14,.sl 2 (s.tmb.map tmC))],[(2,.box [.s (.int .i64 0),.s (.int .i64 0),.s (.slice none 0 0),.s (.slice none 0 0),.s (.slice none 0 0),.s (.slice none 0 0)]),(1,.box (bJ s))]⟩ ?_ (fun hD13=>?_)
 ·
  refine aH 5 [7] (by kernel_rfl) ⟨?_,?_,trivial⟩
  ·
   refine⟨_,rfl,rfl,(ao rfl (iB hf rfl rfl rfl rfl rfl nX rfl (oS s.usr (by omega)) ?_))⟩
   rintro _ rfl
   refine aF (ag hD9 rfl rfl rfl)
  ·
   refine⟨_,rfl,rfl,(ao rfl (aE aA 1 rfl (aF (ag hD10 rfl rfl rfl))))⟩
 refine aV 12 #[true,true,true,true,false,false,true,true,false,true,true,false,false,false,false,false,false,false,false,false] ⟨40,[(1,.ref 1 0 0 0),(2,.ref 2 0 0 0),(6,.sl 4 (s.opn.map seC)),(7,.ref 1 0 0 3),(11,.sl 4 (s.sub.map enC)),(14,.sl 2 (s.tmb.map tmC))],[(2,.box [.s (.int .i64 0),.s (.int .i64 0),.s (.slice none 0 0),.s (.slice none 0 0),.s (.slice none 0 0),.s (.slice none 0 0)]),(1,.box (bJ s))]⟩ ?_ (fun hD14=>?_)
 ·
  refine aH 4 [] (by kernel_rfl) ⟨?_,trivial⟩
  ·
   refine⟨_,rfl,rfl,(ao rfl (aE aA 1 rfl (aF (ag hD10 rfl rfl rfl))))⟩
 refine aV 12 #[true,true,false,true,true,false,true,true,false,true,true,false,false,false,false,false,false,false,false,false] ⟨40,[(1,.ref 1 0 0 0),(2,.ref 2 0 0 0),(5,.sl 4 (s.opn.map seC)),(8,.sl 2 (s.usr.map usC)),(11,.sl 4 (s.sub.map enC)),(14,.sl 2 (s.tmb.map tmC))],[(2,.box [.s (.int .i64 0),.s (.int .i64 0),.s (.slice none 0 0),.s (.slice none 0 0),.s (.slice none 0 0),.s (.slice none 0 0)]),(1,.box (bJ s))]⟩ ?_ (fun hD15=>?_)
 ·
  refine aH 2 [] (by kernel_rfl) ⟨?_,trivial⟩
  ·
   refine⟨_,rfl,rfl,(ao rfl (aJ hf rfl (aO rfl rfl gT rfl (cQ (iH s.opn (by omega)))) (aF (ag hD10 rfl rfl rfl))))⟩
 refine aV 13 #[true,true,true,true,true,false,true,false,false,true,false,false,false,false,false,false,false,false,false,false] ⟨40,[(1,.ref 1 0 0 0),(2,.ref 2 0 0 0),(6,.sl 4 (s.opn.map seC)),(8,.sl 2 (s.usr.map usC)),(10,.ref 1 0 0 4),(13,.ref 1 0 0 5)],[(2,.box [.s (.int .i64 0),.s (.int .i64 0),.s (.slice none 0 0),.s (.slice none 0 0),.s (.slice none 0 0),.s (.slice none 0 0)]),(1,.box (bJ s))]⟩ ?_ (fun hD16=>?_)
 ·
  refine aH 5 [7,10] (by kernel_rfl) ⟨?_,?_,?_,trivial⟩
  ·
   refine⟨_,rfl,rfl,(ao rfl (iB hf rfl rfl rfl rfl rfl nX rfl (oS s.usr (by omega)) ?_))⟩
   rintro _ rfl
   refine aF (ag hD11 rfl rfl rfl)
  ·
   refine⟨_,rfl,rfl,(ao rfl (aE aA 1 rfl (aF (ag hD12 rfl rfl rfl))))⟩
  ·
   refine⟨_,rfl,rfl,(ao rfl (aE aA 1 rfl (aF (ag hD13 rfl rfl rfl))))⟩
 refine aV 13 #[true,true,true,true,false,false,true,true,false,true,false,false,false,false,false,false,false,false,false,false] ⟨40,[(1,.ref 1 0 0 0),(2,.ref 2 0 0 0),(6,.sl 4 (s.opn.map seC)),(7,.ref 1 0 0 3),(11,.sl 4 (s.sub.map enC)),(13,.ref 1 0 0 5)],[(2,.box [.s (.int .i64 0),.s (.int .i64 0),.s (.slice none 0 0),.s (.slice none 0 0),.s (.slice none 0 0),.s (.slice none 0 0)]),(1,.box (bJ s))]⟩ ?_ (fun hD17=>?_)
 ·
  refine aH 4 [10] (by kernel_rfl) ⟨?_,?_,trivial⟩
  ·
   refine⟨_,rfl,rfl,(ao rfl (aE aA 1 rfl (aF (ag hD12 rfl rfl rfl))))⟩
  ·
   refine⟨_,rfl,rfl,(ao rfl (aE aA 1 rfl (aF (ag hD14 rfl rfl rfl))))⟩
 refine aV 13 #[true,true,true,true,false,false,true,false,false,true,true,false,false,false,false,false,false,false,false,false] ⟨40,[(1,.ref 1 0 0 0),(2,.ref 2 0 0 0),(6,.sl 4 (s.opn.map seC)),(7,.ref 1 0 0 3),(10,.ref 1 0 0 4),(14,.sl 2 (s.tmb.map tmC))],[(2,.box [.s (.int .i64 0),.s (.int .i64 0),.s (.slice none 0 0),.s (.slice none 0 0),.s (.slice none 0 0),.s (.slice none 0 0)]),(1,.box (bJ s))]⟩ ?_ (fun hD18=>?_)
 ·
  refine aH 4 [7] (by kernel_rfl) ⟨?_,?_,trivial⟩
  ·
   refine⟨_,rfl,rfl,(ao rfl (aE aA 1 rfl (aF (ag hD13 rfl rfl rfl))))⟩
  ·
   refine⟨_,rfl,rfl,(ao rfl (aE aA 1 rfl (aF (ag hD14 rfl rfl rfl))))⟩
 refine aV 13 #[true,true,false,true,true,false,true,true,false,true,false,false,false,false,false,false,false,false,false,false] ⟨40,[(1,.ref 1 0 0 0),(2,.ref 2 0 0 0),(5,.sl 4 (s.opn.map seC)),(8,.sl 2 (s.usr.map usC)),(11,.sl 4 (s.sub.map enC)),(13,.ref 1 0 0 5)],[(2,.box [.s (.int .i64 0),.s (.int .i64 0),.s (.slice none 0 0),.s (.slice none 0 0),.s (.slice none 0 0),.s (.slice none 0 0)]),(1,.box (bJ s))]⟩ ?_ (fun hD19=>?_)
 ·
  refine aH 2 [10] (by kernel_rfl) ⟨?_,?_,trivial⟩
  ·
   refine⟨_,rfl,rfl,(ao rfl (aJ hf rfl (aO rfl rfl gT rfl (cQ (iH s.opn (by omega)))) (aF (ag hD12 rfl rfl rfl))))⟩
  ·
   refine⟨_,rfl,rfl,(ao rfl (aE aA 1 rfl (aF (ag hD15 rfl rfl rfl))))⟩
 refine aV 13 #[true,true,false,true,true,false,true,false,false,true,true,false,false,false,false,false,false,false,false,false] ⟨40,[(1,.ref 1 0 0 0),(2,.ref 2 0 0 0),(5,.sl 4 (s.opn.map seC)),(8,.sl 2 (s.usr.map usC)),(10,.ref 1 0 0 4),(14,.sl 2 (s.tmb.map tmC))],[(2,.box [.s (.int .i64 0),.s (.int .i64 0),.s (.slice none 0 0),.s (.slice none 0 0),.s (.slice none 0 0),.s (.slice none 0 0)]),(1,.box (bJ s))]⟩ ?_ (fun hD20=>?_)
 ·
  refine aH 2 [7] (by kernel_rfl) ⟨?_,?_,trivial⟩
  ·
   refine⟨_,rfl,rfl,(ao rfl (aJ hf rfl (aO rfl rfl gT rfl (cQ (iH s.opn (by omega)))) (aF (ag hD13 rfl rfl rfl))))⟩
  ·
   refine⟨_,rfl,rfl,(ao rfl (aE aA 1 rfl (aF (ag hD15 rfl rfl rfl))))⟩
 refine aV 13 #[true,true,false,true,false,false,true,true,false,true,true,false,false,false,false,false,false,false,false,false] ⟨40,[(1,.ref 1 0 0 0),(2,.ref 2 0 0 0),(5,.sl 4 (s.opn.map seC)),(7,.ref 1 0 0 3),(11,.sl 4 (s.sub.map enC)),(14,.sl 2 (s.tmb.map tmC))],[(2,.box [.s (.int .i64 0),.s (.int .i64 0),.s (.slice none 0 0),.s (.slice none 0 0),.s (.slice none 0 0),.s (.slice none 0 0)]),(1,.box (bJ s))]⟩ ?_ (fun hD21=>?_)
 ·
  refine aH 2 [4] (by kernel_rfl) ⟨?_,?_,trivial⟩
  ·
   refine⟨_,rfl,rfl,(ao rfl (aJ hf rfl (aO rfl rfl gT rfl (cQ (iH s.opn (by omega)))) (aF (ag hD14 rfl rfl rfl))))⟩
  ·
   refine⟨_,rfl,rfl,(ao rfl (aE aA 1 rfl (aF (ag hD15 rfl rfl rfl))))⟩
 refine aV 13 #[true,false,false,true,true,false,true,true,false,true,true,false,false,false,false,false,false,false,false,false] ⟨40,[(1,.ref 1 0 0 0),(2,.ref 2 0 0 0),(4,.ref 1 0 0 2),(8,.sl 2 (s.usr.map usC)),(11,.sl 4 (s.sub.map enC)),(14,.sl 2 (s.tmb.map tmC))],[(2,.box [.s (.int .i64 0),.s (.int .i64 0),.s (.slice none 0 0),.s (.slice none 0 0),.s (.slice none 0 0),.s (.slice none 0 0)]),(1,.box (bJ s))]⟩ ?_ (fun hD22=>?_)
 ·
  refine aH 1 [] (by kernel_rfl) ⟨?_,trivial⟩
  ·
   refine⟨_,rfl,rfl,(ao rfl (aE aA 1 rfl (aF (ag hD15 rfl rfl rfl))))⟩
 refine aV 14 #[true,true,true,true,false,false,true,false,false,true,false,false,false,false,false,false,false,false,false,false] ⟨40,[(1,.ref 1 0 0 0),(2,.ref 2 0 0 0),(6,.sl 4 (s.opn.map seC)),(7,.ref 1 0 0 3),(10,.ref 1 0 0 4),(13,.ref 1 0 0 5)],[(2,.box [.s (.int .i64 0),.s (.int .i64 0),.s (.slice none 0 0),.s (.slice none 0 0),.s (.slice none 0 0),.s (.slice none 0 0)]),(1,.box (bJ s))]⟩ ?_ (fun hD23=>?_)
 ·
  refine aH 4 [7,10] (by kernel_rfl) ⟨?_,?_,?_,trivial⟩
  ·
   refine⟨_,rfl,rfl,(ao rfl (aE aA 1 rfl (aF (ag hD16 rfl rfl rfl))))⟩
  ·
   refine⟨_,rfl,rfl,(ao rfl (aE aA 1 rfl (aF (ag hD17 rfl rfl rfl))))⟩
  ·
   refine⟨_,rfl,rfl,(ao rfl (aE aA 1 rfl (aF (ag hD18 rfl rfl rfl))))⟩
 refine aV 14 #[true,true,false,true,true,false,true,false,false,true,false,false,false,false,false,false,false,false,false,false] ⟨40,[(1,.ref 1 0 0 0),(2,.ref 2 0 0 0),(5,.sl 4 (s.opn.map seC)),(8,.sl 2 (s.usr.map usC)),(10,.ref 1 0 0 4),(13,.ref 1 0 0 5)],[(2,.box [.s (.int .i64 0),.s (.int .i64 0),.s (.slice none 0 0),.s (.slice none 0 0),.s (.slice none 0 0),.s (.slice none 0 0)]),(1,.box (bJ s))]⟩ ?_ (fun hD24=>?_)
 ·
  refine aH 2 [7,10] (by kernel_rfl) ⟨?_,?_,?_,trivial⟩
  ·
   refine⟨_,rfl,rfl,(ao rfl (aJ hf rfl (aO rfl rfl gT rfl (cQ (iH s.opn (by omega)))) (aF (ag hD16 rfl rfl rfl))))⟩
  ·
   refine⟨_,rfl,rfl,(ao rfl (aE aA 1 rfl (aF (ag hD19 rfl rfl rfl))))⟩
  ·
   refine⟨_,rfl,rfl,(ao rfl (aE aA 1 rfl (aF (ag hD20 rfl rfl rfl))))⟩
 refine aV 14 #[true,true,false,true,false,false,true,true,false,true,false,false,false,false,false,false,false,false,false,false] ⟨40,[(1,.ref 1 0 0 0),(2,.ref 2 0 0 0),(5,.sl 4 (s.opn.map seC)),(7,.ref 1 0 0 3),(11,.sl 4 (s.sub.map enC)),(13,.ref 1 0 0 5)],[(2,.box [.s (.int .i64 0),.s (.int .i64 0),.s (.slice none 0 0),.s (.slice none 0 0),.s (.slice none 0 0),.s (.slice none 0 0)]),(1,.box (bJ s))]⟩ ?_ (fun hD25=>?_)
 ·
  refine aH 2 [4,10] (by kernel_rfl) ⟨?_,?_,?_,trivial⟩
  ·
   refine⟨_,rfl,rfl,(ao rfl (aJ hf rfl (aO rfl rfl gT rfl (cQ (iH s.opn (by omega)))) (aF (ag hD17 rfl rfl rfl))))⟩
  ·
   refine⟨_,rfl,rfl,(ao rfl (aE aA 1 rfl (aF (ag hD19 rfl rfl rfl))))⟩
  ·
   refine⟨_,rfl,rfl,(ao rfl (aE aA 1 rfl (aF (ag hD21 rfl rfl rfl))))⟩
 refine aV 14 #[true,true,false,true,false,false,true,false,false,true,true,false,false,false,false,false,false,false,false,false] ⟨40,[(1,.ref 1 0 0 0),(2,.ref 2 0 0 0),(5,.sl 4 (s.opn.map seC)),(7,.ref 1 0 0 3),(10,.ref 1 0 0 4),(14,.sl 2 (s.tmb.map tmC))],[(2,.box [.s (.int .i64 0),.s (.int .i64 0),.s (.slice none 0 0),.s (.slice none 0 0),.s (.slice none 0 0),.s (.slice none 0 0)]),(1,.box (bJ s))]⟩ ?_ (fun hD26=>?_)
 ·
  refine aH 2 [4,7] (by kernel_rfl) ⟨?_,?_,?_,trivial⟩
  ·
   refine⟨_,rfl,rfl,(ao rfl (aJ hf rfl (aO rfl rfl gT rfl (cQ (iH s.opn (by omega)))) (aF (ag hD18 rfl rfl rfl))))⟩
  ·
   refine⟨_,rfl,rfl,(ao rfl (aE aA 1 rfl (aF (ag hD20 rfl rfl rfl))))⟩
  ·
   refine⟨_,rfl,rfl,(ao rfl (aE aA 1 rfl (aF (ag hD21 rfl rfl rfl))))⟩
 refine aV 14 #[true,false,false,true,true,false,true,true,false,true,false,false,false,false,false,false,false,false,false,false] ⟨40,[(1,.ref 1 0 0 0),(2,.ref 2 0 0 0),(4,.ref 1 0 0 2),(8,.sl 2 (s.usr.map usC)),(11,.sl 4 (s.sub.map enC)),(13,.ref 1 0 0 5)],[(2,.box [.s (.int .i64 0),.s (.int .i64 0),.s (.slice none 0 0),.s (.slice none 0 0),.s (.slice none 0 0),.s (.slice none 0 0)]),(1,.box (bJ s))]⟩ ?_ (fun hD27=>?_)
 ·
  refine aH 1 [10] (by kernel_rfl) ⟨?_,?_,trivial⟩
  ·
   refine⟨_,rfl,rfl,(ao rfl (aE aA 1 rfl (aF (ag hD19 rfl rfl rfl))))⟩
  ·
   refine⟨_,rfl,rfl,(ao rfl (aE aA 1 rfl (aF (ag hD22 rfl rfl rfl))))⟩
 refine aV 14 #[true,false,false,true,true,false,true,false,false,true,true,false,false,false,false,false,false,false,false,false] ⟨40,[(1,.ref 1 0 0 0),(2,.ref 2 0 0 0),(4,.ref 1 0 0 2),(8,.sl 2 (s.usr.map usC)),(10,.ref 1 0 0 4),(14,.sl 2 (s.tmb.map tmC))],[(2,.box [.s (.int .i64 0),.s (.int .i64 0),.s (.slice none 0 0),.s (.slice none 0 0),.s (.slice none 0 0),.s (.slice none 0 0)]),(1,.box (bJ s))]⟩ ?_ (fun hD28=>?_)
 ·
  refine aH 1 [7] (by kernel_rfl) ⟨?_,?_,trivial⟩
  ·
   refine⟨_,rfl,rfl,(ao rfl (aE aA 1 rfl (aF (ag hD20 rfl rfl rfl))))⟩
  ·
   refine⟨_,rfl,rfl,(ao rfl (aE aA 1 rfl (aF (ag hD22 rfl rfl rfl))))⟩
 refine aV 14 #[true,false,false,true,false,false,true,true,false,true,true,false,false,false,false,false,false,false,false,false] ⟨40,[(1,.ref 1 0 0 0),(2,.ref 2 0 0 0),(4,.ref 1 0 0 2),(7,.ref 1 0 0 3),(11,.sl 4 (s.sub.map enC)),(14,.sl 2 (s.tmb.map tmC))],[(2,.box [.s (.int .i64 0),.s (.int .i64 0),.s (.slice none 0 0),.s (.slice none 0 0),.s (.slice none 0 0),.s (.slice none 0 0)]),(1,.box (bJ s))]⟩ ?_ (fun hD29=>?_)
 ·
  refine aH 1 [4] (by kernel_rfl) ⟨?_,?_,trivial⟩
  ·
   refine⟨_,rfl,rfl,(ao rfl (aE aA 1 rfl (aF (ag hD21 rfl rfl rfl))))⟩
  ·
   refine⟨_,rfl,rfl,(ao rfl (aE aA 1 rfl (aF (ag hD22 rfl rfl rfl))))⟩
 refine aV 15 #[true,true,false,true,false,false,true,false,false,true,false,false,false,false,false,false,false,false,false,false] ⟨40,[(1,.ref 1 0 0 0),(2,.ref 2 0 0 0),(5,.sl 4 (s.opn.map seC)),(7,.ref 1 0 0 3),(10,.ref 1 0 0 4),(13,.ref 1 0 0 5)],[(2,.box [.s (.int .i64 0),.s (.int .i64 0),.s (.slice none 0 0),.s (.slice none 0 0),.s (.slice none 0 0),.s (.slice none 0 0)]),(1,.box (bJ s))]⟩ ?_ (fun hD30=>?_)
 ·
  refine aH 2 [4,7,10] (by kernel_rfl) ⟨?_,?_,?_,?_,trivial⟩
  ·
   refine⟨_,rfl,rfl,(ao rfl (aJ hf rfl (aO rfl rfl gT rfl (cQ (iH s.opn (by omega)))) (aF (ag hD23 rfl rfl rfl))))⟩
  ·
   refine⟨_,rfl,rfl,(ao rfl (aE aA 1 rfl (aF (ag hD24 rfl rfl rfl))))⟩
  ·
   refine⟨_,rfl,rfl,(ao rfl (aE aA 1 rfl (aF (ag hD25 rfl rfl rfl))))⟩
  ·
   refine⟨_,rfl,rfl,(ao rfl (aE aA 1 rfl (aF (ag hD26 rfl rfl rfl))))⟩
 refine aV 15 #[true,false,false,true,true,false,true,false,false,true,false,false,false,false,false,false,false,false,false,false] ⟨40,[(1,.ref 1 0 0 0),(2,.ref 2 0 0 0),(4,.ref 1 0 0 2),(8,.sl 2 (s.usr.map usC)),(10,.ref 1 0 0 4),(13,.ref 1 0 0 5)],[(2,.box [.s (.int .i64 0),.s (.int .i64 0),.s (.slice none 0 0),.s (.slice none 0 0),.s (.slice none 0 0),.s (.slice none 0 0)]),(1,.box (bJ s))]⟩ ?_ (fun hD31=>?_)
 ·
  refine aH 1 [7,10] (by kernel_rfl) ⟨?_,?_,?_,trivial⟩
  ·
   refine⟨_,rfl,rfl,(ao rfl (aE aA 1 rfl (aF (ag hD24 rfl rfl rfl))))⟩
  ·
   refine⟨_,rfl,rfl,(ao rfl (aE aA 1 rfl (aF (ag hD27 rfl rfl rfl))))⟩
  ·
   refine⟨_,rfl,rfl,(ao rfl (aE aA 1 rfl (aF (ag hD28 rfl rfl rfl))))⟩
 refine aV 15 #[true,false,false,true,false,false,true,true,false,true,false,false,false,false,false,false,false,false,false,false] ⟨40,[(1,.ref 1 0 0 0),(2,.ref 2 0 0 0),(4,.ref 1 0 0 2),(7,.ref 1 0 0 3),(11,.sl 4 (s.sub.map enC)),(13,.ref 1 0 0 5)],[(2,.box [.s (.int .i64 0),.s (.int .i64 0),.s (.slice none 0 0),.s (.slice none 0 0),.s (.slice none 0 0),.s (.slice none 0 0)]),(1,.box (bJ s))]⟩ ?_ (fun hD32=>?_)
 ·
  refine aH 1 [4,10] (by kernel_rfl) ⟨?_,?_,?_,trivial⟩
  ·
   refine⟨_,rfl,rfl,(ao rfl (aE aA 1 rfl (aF (ag hD25 rfl rfl rfl))))⟩
  ·
   refine⟨_,rfl,rfl,(ao rfl (aE aA 1 rfl (aF (ag hD27 rfl rfl rfl))))⟩
  ·
   refine⟨_,rfl,rfl,(ao rfl (aE aA 1 rfl (aF (ag hD29 rfl rfl rfl))))⟩
 refine aV 15 #[true,false,false,true,false,false,true,false,false,true,true,false,false,false,false,false,false,false,false,false] ⟨40,[(1,.ref 1 0 0 0),(2,.ref 2 0 0 0),(4,.ref 1 0 0 2),(7,.ref 1 0 0 3),(10,.ref 1 0 0 4),(14,.sl 2 (s.tmb.map tmC))],[(2,.box [.s (.int .i64 0),.s (.int .i64 0),.s (.slice none 0 0),.s (.slice none 0 0),.s (.slice none 0 0),.s (.slice none 0 0)]),(1,.box (bJ s))]⟩ ?_ (fun hD33=>?_)
 ·
  refine aH 1 [4,7] (by kernel_rfl) ⟨?_,?_,?_,trivial⟩
  ·
   refine⟨_,rfl,rfl,(ao rfl (aE aA 1 rfl (aF (ag hD26 rfl rfl rfl))))⟩
  ·
   refine⟨_,rfl,rfl,(ao rfl (aE aA 1 rfl (aF (ag hD28 rfl rfl rfl))))⟩
  ·
   refine⟨_,rfl,rfl,(ao rfl (aE aA 1 rfl (aF (ag hD29 rfl rfl rfl))))⟩
 refine mL (aDq (sl':=[(1,.ref 1 0 0 0),(2,.ref 2 0 0 0),(4,.ref 1 0 0 2),(7,.ref 1 0 0 3),(10,.ref 1 0 0 4),(13,.ref 1 0 0 5)]) (m':=[(2,.box [.s (.int .i64 0),.s (.int .i64 0),.s (.slice none 0 0),.s (.slice none 0 0),.s (.slice none 0 0),.s (.slice none 0 0)]),(1,.box (bJ s))]) rfl rfl rfl) (aH 1 [4,7,10] (by kernel_rfl) ⟨?_,?_,?_,?_,trivial⟩)
 ·
  refine⟨_,rfl,rfl,(ao rfl (aE aA 1 rfl (aF (ag hD30 rfl rfl rfl))))⟩
 ·
  refine⟨_,rfl,rfl,(ao rfl (aE aA 1 rfl (aF (ag hD31 rfl rfl rfl))))⟩
 ·
  refine⟨_,rfl,rfl,(ao rfl (aE aA 1 rfl (aF (ag hD32 rfl rfl rfl))))⟩
 ·
  refine⟨_,rfl,rfl,(ao rfl (aE aA 1 rfl (aF (ag hD33 rfl rfl rfl))))⟩
end Go.Proofs.YtpkanhklapfajaaGreat
set_option linter.unusedVariables false
set_option linter.unusedSimpArgs false
namespace Go.Proofs.YtpkanhklapfajaaGreat
open Go Go.Abs
theorem mX (s:Sta) (u:ByteArray) (x:bC) (hz:SzS 140737488355200 s) (hr:dI cW s.usr) :DenX Tryz.prog 116 [.agg (eH s E0 E1),.s (.string u),.agg (stC x)] [(E0,.buf 2 (s.usr.map usC)),(E1,.buf 2 (s.tmb.map tmC))] (fun r m=>r=.agg (eH (dZ s u x) E0 E1)∧m=[(E0,.buf 2 ((dZ s u x).usr.map usC)),(E1,.buf 2 ((dZ s u x).tmb.map tmC))]):=by
 have z1:=hz.o
 have z2:=hz.u
 have z3:=hz.b
 have z4:=hz.t
 have hlm:(s.usr.map usC).length=s.usr.length:=List.length_map _
 have hpl:=xM (key:=cW) s.usr u
 refine iJ [(E0,G0),(E1,G1)] Tryz.func116 rfl (Nat.le_of_ble_eq_true rfl) (args':=[.agg (eH s G0 G1),.s (.string u),.agg (stC x)]) (m':=[(G0,.buf 2 (s.usr.map usC)),(G1,.buf 2 (s.tmb.map tmC))]) rfl rfl (by decide) (by decide) rfl (fun w0 o0 A hf=>?_)
 refine aC (fun K1 hK1=>(aB (sZ hf rfl rfl rfl rfl (l1 rfl) ?_)))
 refine aJ hf rfl (cE rfl rfl (lf rfl)) (bV hf rfl rfl rfl bR (aD (hK1 _ (aC (fun K2 hK2=>(aC (fun K3 hK3=>(aB (aE aA 2 rfl (aJ hf rfl (aO rfl rfl lI rfl (pC x.1)) (aD (hK3 _ (aK rfl (fun hc1=>?_) (fun hc1=>?_))))))))))))))
 ·
  simp only[bs] at hc1
  refine aC (fun K4 hK4=>(aB (aG rfl (bZ (cs':=eH s G0 G1) rfl nV cP rfl rfl rfl) (bB hf rfl rfl cP rfl rfl (l1 rfl) (l4 rfl) rfl (aD (hK4 _ (aI ?_)))))))
  rw[lT (by assumption)]
  exact⟨_,[(E0,G0),(E1,G1)],_,Le.refl _,by decide,rfl,rfl,⟨rfl,rfl⟩⟩
 ·
  simp only[bs] at hc1
  have hx:¬ x.1.2≤x.1.1:=by simpa using hc1
  refine aL (hK2 _ (aC (fun K5 hK5=>(aB (aE aA 3 rfl (aJ hf rfl (sD rfl rfl (by show [AV.conv _ _,_,_]=_; rw[cJ (g:=G0) rfl rfl]; rfl) aEn (aCc s.usr u (by omega) hr) rfl) ?_))))))
  refine aE aA 5 rfl (aD (hK5 _ (aC (fun K6 hK6=>(aC (fun K7 hK7=>(aB (aE aA 1 rfl (aD (hK7 _ (aK rfl (fun hc2=>?_) (fun hc2=>?_))))))))))))
  ·
   obtain ⟨hk,he⟩:=aDl hr (show lX cW s.usr u=true by assumption)
   refine aC (fun K8 hK8=>(fO hf (L:=#[true,true,true,true,true,true,true,true,true,true,true,true,true,false]) 13 1 bF (by kernel_rfl) rfl (by kernel_rfl) rfl ?_))
   refine aT aA 6 rfl ?_
   refine bI [(25,_),(26,_)] rfl rfl ⟨⟨rfl,rfl⟩,⟨rfl,rfl⟩,trivial⟩ rfl (bX rfl rfl fR fS (by omega)) ?_
   refine aT aA 1 rfl (bI [(28,_)] rfl rfl ⟨⟨rfl,rfl⟩,trivial⟩ rfl (gY rfl aLb rfl ((iD (by omega) hk 1).trans rfl)) (aT aA 1 rfl (bL [(29,_),(30,_)] rfl rfl ⟨⟨rfl,rfl⟩,⟨rfl,rfl⟩,trivial⟩ rfl (aO rfl rfl wT rfl (aEj s.usr[cZ cW s.usr u].2 x (by have:=hz.y _ (List.getElem_mem hk); omega))) ?_)))
   refine bI [(22,_),(23,_)] rfl rfl ⟨⟨rfl,rfl⟩,⟨rfl,rfl⟩,trivial⟩ rfl (bX rfl rfl fR fS (by omega)) ?_
   refine aT aA 1 rfl (pE [3,6,31,33] rfl rfl rfl ?_)
   refine aH 13 [] (by kernel_rfl) ⟨?_,trivial⟩
   ·
    refine⟨_,rfl,rfl,(ao rfl (bB hf rfl rfl yL rfl rfl (by simp [AV.cells,AV.one,Value.oneCell']) (by simp [AV.cells,AV.leaf,Value.oneCell']) (hY (c:=2) (k:=cZ cW s.usr u) (f:=1) (enc:=usC) (v:=(s.usr[cZ cW s.usr u].1,gA s.usr[cZ cW s.usr u].2 x)) (by omega) hk rfl (Nat.le_of_ble_eq_true rfl)) ?_))⟩
    refine aF (bS (by kernel_rfl) ?_)
    refine hK8 _ (aC (fun K9 hK9=>(aB ?_)))
    rw[aQl hr (by assumption) hx hk,show eH s G0 G1=eH (dZ s u x) G0 G1 from by simp only[eH,dZ]; rw[show ((mO s.usr u x).map usC).length=(s.usr.map usC).length from by rw[← aQl hr (by assumption) hx hk,List.length_map,List.length_map,List.length_set]]]
    refine aG rfl (bZ (cs':=eH (dZ s u x) G0 G1) rfl nV cP rfl rfl rfl) (bB hf rfl rfl cP rfl rfl (l1 rfl) (l4 rfl) rfl (aD (hK9 _ (aI ?_))))
    exact⟨_,[(E0,G0),(E1,G1)],_,Le.refl _,by decide,rfl,rfl,⟨rfl,rfl⟩⟩
  ·
   have hno:lX cW s.usr u=false:=by simp_all
   refine aUa (aB3 (nee G0) (sl':=[(1,_),(3,_),(5,_),(6,_),(7,_)]) (m':=[(6,.box [.s (.int .i64 0),.s (.int .i64 0),.s (.slice none 0 0),.s (.slice none 0 0),.s (.slice none 0 0),.s (.slice none 0 0)]),(3,.box [.s (.int .i64 s.now),.s (.int .i64 s.hor),.sl 4 (s.opn.map seC),.sl 2 (s.usr.map usC),.sl 4 (s.sub.map enC),.own G1 2 0 (s.tmb.map tmC).length]),(G1,.buf 2 (s.tmb.map tmC))]) ⟨⟨_,rfl,rfl⟩,⟨_,rfl,rfl⟩,⟨_,rfl,rfl⟩,⟨_,rfl,rfl⟩,⟨_,rfl,rfl⟩,trivial⟩ (Eq.trans (show _=[(6,AM.box [.s (.int .i64 0),.s (.int .i64 0),.s (.slice none 0 0),.s (.slice none 0 0),.s (.slice none 0 0),.s (.slice none 0 0)]),(3,.box [.s (.int .i64 s.now),.s (.int .i64 s.hor),.sl 4 (s.opn.map seC),AV.only (nee G0) [(6,.box [.s (.int .i64 0),.s (.int .i64 0),.s (.slice none 0 0),.s (.slice none 0 0),.s (.slice none 0 0),.s (.slice none 0 0)]),(3,.box (eH s G0 G1)),(G0,.buf 2 (s.usr.map usC)),(G1,.buf 2 (s.tmb.map tmC))] (.own G0 2 0 (s.usr.map usC).length),.sl 4 (s.sub.map enC),.own G1 2 0 (s.tmb.map tmC).length]),(G1,.buf 2 (s.tmb.map tmC))] from rfl) (by rw[aDj (ok:=nee G0) (g:=G0) rfl rfl rfl]))) ?_
   refine aL (hK6 _ (aC (fun K10 hK10=>(fO hf (L:=#[true,true,true,true,true,true,true,true,true,true,true,true,true,true,false,false,false]) 14 3 bF (by kernel_rfl) rfl (by kernel_rfl) rfl ?_))))
   refine aT aA 3 rfl (bI [(36,_),(37,_)] rfl rfl ⟨⟨rfl,rfl⟩,⟨rfl,rfl⟩,trivial⟩ rfl (dE rfl fR fS rfl (kH rfl (by omega)) (by omega) (by omega) (jW (by omega))) (aT aA 2 rfl (bL [(40,_)] rfl rfl ⟨⟨rfl,rfl⟩,trivial⟩ rfl (aP gW rfl rfl rfl rfl (l2 rfl)) (bI [(39,_),(41,_)] rfl rfl ⟨⟨rfl,rfl⟩,⟨rfl,rfl⟩,trivial⟩ rfl (bO rfl yI aGn (l3 rfl) rfl) (bL [(42,_)] rfl rfl ⟨⟨rfl,rfl⟩,trivial⟩ rfl (aP lW rfl rfl rfl rfl (l2 rfl)) (aT aA 3 rfl (bI [(45,_),(46,_)] rfl rfl ⟨⟨rfl,rfl⟩,⟨rfl,rfl⟩,trivial⟩ rfl (dE rfl fR fS (kH rfl (by omega)) rfl (by omega) (by omega) (gX (by omega))) ?_)))))))
   refine bL [(38,_),(43,_),(47,_)] rfl rfl ⟨⟨rfl,rfl⟩,⟨rfl,rfl⟩,⟨rfl,rfl⟩,trivial⟩ rfl (aP aPh rfl rfl rfl rfl (l2 rfl)) (pE [3,6,48] rfl rfl rfl ?_)
   refine aH 14 [] (by kernel_rfl) ⟨?_,trivial⟩
   ·
    refine⟨_,rfl,rfl,(ao rfl (iB hf rfl rfl rfl rfl rfl aL2 rfl (aIn [s.usr.take (cZ cW s.usr u),[(u,[x])],s.usr.drop (cZ cW s.usr u)] (by simp) (by simp only[List.flatten_cons,List.flatten_nil,List.length_append,List.length_take,List.length_drop,List.length_cons,List.length_nil]; omega)) ?_))⟩
    rintro _ rfl
    refine aF (aH 15 [] (by kernel_rfl) ⟨?_,trivial⟩)
    ·
     refine⟨_,rfl,rfl,(ao rfl (aE aA 1 rfl (aF (aH 16 [] (by kernel_rfl) ⟨?_,trivial⟩))))⟩
     ·
      refine⟨_,rfl,rfl,(ao rfl (bB hf rfl rfl pV rfl rfl (l1 rfl) (l4 rfl) rfl (aF (bS (by kernel_rfl) ?_))))⟩
      refine hK10 _ (aC (fun K11 hK11=>(aB ?_)))
      rw[aUi hr hno hx]
      refine aG rfl (bZ (cs':=eH (dZ s u x) 49 G1) rfl nV cP rfl rfl rfl) (bB hf rfl rfl cP rfl rfl (l1 rfl) (l4 rfl) rfl (aD (hK11 _ (aI ?_))))
      exact⟨_,[(E0,49),(E1,G1)],_,Le.refl _,by decide,rfl,rfl,⟨rfl,rfl⟩⟩
end Go.Proofs.YtpkanhklapfajaaGreat
set_option linter.unusedVariables false
set_option linter.unusedSimpArgs false
namespace Go.Proofs.YtpkanhklapfajaaGreat
open Go Go.Abs
theorem aKf (x:Us) (u:ByteArray) :Den Tryz.prog 161 [.agg (usC x),.adr [.s (.string u)]]  (·=.s (.bool (isK cW u x))):=by
 refine aR Tryz.func161 rfl (Nat.le_of_ble_eq_true rfl) (fun w0 A hf=>(aC (fun K1 hK1=>(aB (aJ hf rfl (cE rfl rfl (lf rfl)) (aE aA 1 rfl (aD (hK1 _ (aC (fun K2 hK2=>(aB (aE aA 5 rfl (aD (hK2 _ (aI ?_)))))))))))))))
 refine⟨_,rfl,?_⟩
 refine aQ ?_
 rw[Bool.eq_iff_iff]
 simp [isK,toList_inj]
theorem aKe (x:Tm) (u:ByteArray) :Den Tryz.prog 163 [.agg (tmC x),.adr [.s (.string u)]]  (·=.s (.bool (isK eO u x))):=by
 refine aR Tryz.func163 rfl (Nat.le_of_ble_eq_true rfl) (fun w0 A hf=>(aC (fun K1 hK1=>(aB (aJ hf rfl (cE rfl rfl (lf rfl)) (aE aA 1 rfl (aD (hK1 _ (aC (fun K2 hK2=>(aB (aE aA 5 rfl (aD (hK2 _ (aI ?_)))))))))))))))
 refine⟨_,rfl,?_⟩
 refine aQ ?_
 rw[Bool.eq_iff_iff]
 simp [isK,toList_inj]
theorem aGh (g k off n:Nat):AV.fromE g (.own E0 k off n)=.own g k off n:=by simp [AV.fromE]
theorem lL (s:Sta):(AV.agg (eH s E0 E1)).ren [(E0,G0),(E1,G1)]=.agg (eH s G0 G1):=rfl
theorem aN4 (s:Sta) (u:ByteArray) (t:Int) (hz:SzS 140737488355200 s) (hr:dI cW s.usr) (hr2:dI eO s.tmb) :DenX Tryz.prog 115 [.agg (eH s E0 E1),.s (.string u),.s (.int .i64 t)] [(E0,.buf 2 (s.usr.map usC)),(E1,.buf 2 (s.tmb.map tmC))] (fun r m=>r=.agg (eH (hP s u t) E0 E1)∧m=[(E0,.buf 2 ((hP s u t).usr.map usC)),(E1,.buf 2 ((hP s u t).tmb.map tmC))]):=by
 have z1:=hz.o
 have z2:=hz.u
 have z3:=hz.b
 have z4:=hz.t
 have tf:=List.length_filter_le (fun x=>!isK eO u x) s.tmb
 have hpl:=xM (key:=eO) (s.tmb.filter fun x=>!isK eO u x) u
 refine iJ [(E0,G0),(E1,G1)] Tryz.func115 rfl (Nat.le_of_ble_eq_true rfl) (args':=[.agg (eH s G0 G1),.s (.string u),.s (.int .i64 t)]) (m':=[(G0,.buf 2 (s.usr.map usC)),(G1,.buf 2 (s.tmb.map tmC))]) rfl rfl (by decide) (by decide) rfl (fun w0 o0 A hf=>?_)
 refine aC (fun K1 hK1=>(aB (sZ hf rfl rfl rfl rfl (l1 rfl) ?_)))
 refine aJ hf rfl (cE rfl rfl (lf rfl)) (bV hf rfl rfl rfl bR (aD (hK1 _ (aC (fun K2 hK2=>(fO hf (L:=#[true,true,true,true,true,true,true,true,true,false,false,false]) 9 3 bF (by kernel_rfl) rfl (by kernel_rfl) rfl ?_))))))
 refine aT aA 3 rfl (bL [(10,_),(11,_)] rfl rfl ⟨⟨rfl,rfl⟩,⟨rfl,rfl⟩,trivial⟩ rfl (aO rfl rfl aMa rfl (aE4 s.opn u (by omega))) (aT aA 3 rfl (bL [(14,_),(15,_)] rfl rfl ⟨⟨rfl,rfl⟩,⟨rfl,rfl⟩,trivial⟩ rfl (aO rfl rfl aL9 rfl (aIi s.sub u (by omega))) (aT aA 1 rfl (pE [2,3,4,6,12,16,17] rfl rfl rfl ?_)))))
 refine aH 9 [] (by kernel_rfl) ⟨?_,trivial⟩
 ·
  refine⟨_,rfl,rfl,(ao rfl (bB hf rfl rfl oC rfl rfl (l1 rfl) (l4 rfl) rfl (aF (aH 10 [] (by kernel_rfl) ⟨?_,trivial⟩))))⟩
  ·
   refine⟨_,rfl,rfl,(ao rfl (aE aA 1 rfl (aF (aH 11 [] (by kernel_rfl) ⟨?_,trivial⟩))))⟩
   ·
    refine⟨_,rfl,rfl,(ao rfl (bB hf rfl rfl pU rfl rfl (l1 rfl) (l4 rfl) rfl (aF (bS (by kernel_rfl) ?_))))⟩
    refine hK2 _ (aC (fun K3 hK3=>(aB (aE aA 2 rfl (aG rfl (iI rfl) (gG hf G0 rfl rfl rfl rfl rfl aL8 (aBl aL7 rfl (fun _=>rfl) (isK cW u) s.usr _ (by rw[List.length_map]) (by omega) (fun x _=>aKf x u)) ?_))))))
    rintro r zs ⟨rfl,rfl⟩
    rw[aGh]
    refine aE aA 1 rfl (bB hf rfl rfl pV rfl rfl (l1 rfl) (l4 rfl) rfl (aD (hK3 _ (aC (fun K4 hK4=>(aB (aE aA 2 rfl (aG rfl (iI rfl) (gG hf G1 rfl rfl rfl rfl rfl aL6 (aBm aL5 rfl (fun _=>rfl) (isK eO u) s.tmb _ (by rw[List.length_map]) (by omega) (fun x _=>aKe x u)) ?_)))))))))
    rintro r zs ⟨rfl,rfl⟩
    rw[aGh]
    refine aE aA 1 rfl (bB hf rfl rfl uO rfl rfl (l1 rfl) (l4 rfl) rfl (aD (hK4 _ (aC (fun K5 hK5=>(aB (aE aA 3 rfl (aJ hf rfl (sD rfl rfl (by show [AV.conv _ _,_,_]=_; rw[cJ (g:=G1) rfl (by rw[List.length_map])]; rfl) aL4 (aNd (s.tmb.filter fun x=>!isK eO u x) u (by omega) (mU hr2 _)) rfl) ?_))))))))
    refine aE aA 5 rfl (aD (hK5 _ (aC (fun K6 hK6=>(aB (aE aA 5 rfl (aG rfl (bO rfl zU aOj (l3 rfl) rfl) (cT hf rfl rfl rfl kS rfl rfl rfl rfl (l2 rfl) ?_))))))))
    refine iM hf [(E0,G1),(E1,42)] [(E0,43)] rfl rfl rfl rfl rfl rfl (by decide) (by decide) (by decide) rfl aL3 (aJ1 ((s.tmb.filter fun x=>!isK eO u x).map tmC) [.s (.string u),.s (.int .i64 t)] _ (cZ eO (s.tmb.filter fun x=>!isK eO u x) u) (by rw[List.length_map]) hpl (by omega)) ?_
    rintro r m1 ⟨rfl,rfl⟩
    refine aU (cF (sl':=[(3,.ref 3 0 0 0),(6,.ref 6 0 0 0),(43,.own 43 2 0 ((s.tmb.filter fun x=>!isK eO u x).length+1))]) (m':=[(43,.buf 2 (((s.tmb.filter fun x=>!isK eO u x).map tmC).take (cZ eO (s.tmb.filter fun x=>!isK eO u x) u)++[.s (.string u),.s (.int .i64 t)]::((s.tmb.filter fun x=>!isK eO u x).map tmC).drop (cZ eO (s.tmb.filter fun x=>!isK eO u x) u))),(6,.box [.s (.int .i64 0),.s (.int .i64 0),.s (.slice none 0 0),.s (.slice none 0 0),.s (.slice none 0 0),.s (.slice none 0 0)]),(3,.box [.s (.int .i64 s.now),.s (.int .i64 s.hor),.sl 4 ((s.opn.filter fun e=>!pJ u e).map seC),.own G0 2 0 (s.usr.filter fun x=>!isK cW u x).length,.sl 4 ((s.sub.filter fun e=>!aDx u e).map enC),.bad]),(G0,.buf 2 ((s.usr.filter fun x=>!isK cW u x).map usC))]) ⟨rfl,rfl,rfl,trivial⟩ rfl) ?_
    refine aE aA 1 rfl (bB hf rfl rfl uO rfl rfl (l1 rfl) (l4 rfl) rfl (aD (hK6 _ (aC (fun K7 hK7=>(aB ?_))))))
    rw[aQr hr2,erTl (t:=t) hr2,erUl (t:=t) hr,erU (t:=t) hr]
    refine aG rfl (bZ (cs':=eH (hP s u t) G0 43) rfl nV cP rfl rfl rfl) (bB hf rfl rfl cP rfl rfl (l1 rfl) (l4 rfl) rfl (aD (hK7 _ (aI ?_))))
    exact⟨_,[(E0,G0),(E1,43)],_,Le.refl _,by decide,rfl,rfl,⟨rfl,rfl⟩⟩
end Go.Proofs.YtpkanhklapfajaaGreat
set_option linter.unusedVariables false
set_option linter.unusedSimpArgs false
namespace Go.Proofs.YtpkanhklapfajaaGreat
open Go Go.Abs
theorem aH6 (l:List Se) (n:Int) (u:ByteArray) (st t:Int) (hl:l.length*40+40≤140737488355328) :Den Tryz.prog 111 [.sl 4 (l.map seC),.s (.int .i64 n),.s (.string u),.s (.int .i64 st),.s (.int .i64 t)]  (·=.tup [.sl 4 ((pY l n u st t).map seC),.agg (stC (stR l n u t)),.s (.int .i64 (iV l n u))]):=by
 refine aR Tryz.func111 rfl (Nat.le_of_ble_eq_true rfl) (fun w0 A hf=>(aC (fun K1 hK1=>(aB (aG rfl (bD) (bV hf rfl rfl rfl eE (aE aA 1 rfl (aD (hK1 _ (aC (fun K2 hK2=>(aB (aE aA 3 rfl (aJ hf rfl (aO rfl rfl uJ rfl (aEg _ _ _ (by omega))) (aE aA 5 rfl ?_)))))))))))))))
 refine aD (hK2 _ (aC (fun K3 hK3=>(aC (fun K4 hK4=>(aB (aE aA 2 rfl (aD (hK4 _ (aK rfl (fun hc1=>?_) (fun hc1=>?_)))))))))))
 ·
  simp only[bs] at hc1
  refine aC (fun K5 hK5=>(aB (aG rfl (bO rfl eE rO (l3 rfl) rfl) (aE aA 1 rfl (aG rfl (qY (k:=4)) (bB hf rfl rfl bA rfl rfl (l1 rfl) (l4 rfl) rfl (aE aA 1 rfl (aD (hK5 _ (aI ?_))))))))))
  refine⟨_,rfl,?_⟩
  rw[pY,stR,if_neg (by assumption),if_neg (by assumption)]; rfl
 ·
  simp only[bs] at hc1
  obtain ⟨k,hk,ek,hk1,hk2,hk3⟩:=aH4 (show iV l n u=0 by assumption)
  obtain ⟨c1,c2,c3⟩:=aTu hk hk1 hk2 hk3
  obtain ⟨_,_,_,c4,c5⟩:=oL n u st t l k hk hk3 hk1
  rw[ek]
  refine aL (hK3 _ (aC (fun K6 hK6=>(aB (aE aA 1 rfl (iB hf rfl rfl rfl rfl rfl gT rfl (iH _ (by omega)) ?_))))))
  rintro _ rfl
  refine aE aA 1 rfl (aD (hK6 _ (aC (fun K7 hK7=>(aB ?_)))))
  have hml:(l.map seC).length=l.length:=List.length_map _
  refine aE aA 6 rfl ?_
  refine aG rfl (bX rfl rfl eR dM (by omega)) ?_
  refine aE aA 1 rfl (bB hf rfl rfl cD rfl rfl (by simp [AV.cells,AV.one,Value.oneCell']) (by simp [AV.cells,AV.leaf,Value.oneCell']) (hY (c:=4) (k:=k) (f:=2) (enc:=seC) (v:=(l[k].1,(st,l[k].2.2))) (by omega) (by first | omega | (rw[List.length_set]; omega)) (by first | rfl | (simp only[List.getElem_set_self]; rfl)) (Nat.le_of_ble_eq_true rfl)) ?_)
  refine aG rfl (bX rfl rfl eR dM (by omega)) ?_
  refine aE aA 1 rfl (bB hf rfl rfl cD rfl rfl (by simp [AV.cells,AV.one,Value.oneCell']) (by simp [AV.cells,AV.leaf,Value.oneCell']) (hY (c:=4) (k:=k) (f:=3) (enc:=seC) (v:=(l[k].1,(st,t))) (by omega) (by first | omega | (rw[List.length_set]; omega)) (by first | rfl | (simp only[List.getElem_set_self]; rfl)) (Nat.le_of_ble_eq_true rfl)) ?_)
  refine aD (hK7 _ (aC (fun K8 hK8=>(aB (aE aA 3 rfl ?_)))))
  refine aG rfl (aY rfl rfl eR dM (by first | exact ixm (by omega) | assumption | exact⟨by decide,rfl⟩)) ?_
  refine aE aA 2 rfl (aJ hf rfl (aO rfl rfl uK rfl (vS _ _)) (aE aA 1 rfl (bB hf rfl rfl bA rfl rfl (l1 rfl) (l4 rfl) rfl (aE aA 1 rfl (aD (hK8 _ (aI ?_)))))))
  refine⟨_,rfl,?_⟩
  refine(congrArg (fun z=>AV.tup [z,.agg (stC (eB l[k] t)),.s (.int .i64 0)]) (cJ (g:=28) rfl (by simp only[List.length_map,List.length_set]))).trans ?_
  rw[pY,stR,if_pos c1,if_pos c1,c1,c2,c4,List.set_set]
end Go.Proofs.YtpkanhklapfajaaGreat
set_option linter.unusedVariables false
set_option linter.unusedSimpArgs false
namespace Go.Proofs.YtpkanhklapfajaaGreat
open Go Go.Abs
theorem aKv (l:List Se) (n:Int) (u:ByteArray) (t:Int) (hl:l.length*40+40≤140737488355328) :Den Tryz.prog 112 [.sl 4 (l.map seC),.s (.int .i64 n),.s (.string u),.s (.int .i64 t)]  (·=.tup [.sl 4 ((pX l n u).map seC),.agg (stC (stR l n u t)),.s (.int .i64 (iV l n u))]):=by
 refine aR Tryz.func112 rfl (Nat.le_of_ble_eq_true rfl) (fun w0 A hf=>(aC (fun K1 hK1=>(aB (aG rfl (bD) (bV hf rfl rfl rfl eE (aE aA 1 rfl (aD (hK1 _ (aC (fun K2 hK2=>(aB (aE aA 3 rfl (aJ hf rfl (aO rfl rfl uJ rfl (aEg _ _ _ (by omega))) (aE aA 5 rfl ?_)))))))))))))))
 refine aD (hK2 _ (aC (fun K3 hK3=>(aC (fun K4 hK4=>(aB (aE aA 2 rfl (aD (hK4 _ (aK rfl (fun hc1=>?_) (fun hc1=>?_)))))))))))
 ·
  simp only[bs] at hc1
  refine aC (fun K5 hK5=>(aB (aG rfl (bO rfl eE rO (l3 rfl) rfl) (aE aA 1 rfl (aG rfl (qY (k:=4)) (bB hf rfl rfl bA rfl rfl (l1 rfl) (l4 rfl) rfl (aE aA 1 rfl (aD (hK5 _ (aI ?_))))))))))
  refine⟨_,rfl,?_⟩
  rw[pX,stR,if_neg (by assumption),if_neg (by assumption)]; rfl
 ·
  simp only[bs] at hc1
  obtain ⟨k,hk,ek,hk1,hk2,hk3⟩:=aH4 (show iV l n u=0 by assumption)
  obtain ⟨c1,c2,c3⟩:=aTu hk hk1 hk2 hk3
  obtain ⟨_,_,_,c4,c5⟩:=oL n u 0 t l k hk hk3 hk1
  rw[ek]
  refine aL (hK3 _ (aC (fun K6 hK6=>(fO hf (L:=#[true,true,true,true,true,true,true,true,true,true,true,true,true,true,true,true,false,false]) 16 2 bF (by kernel_rfl) rfl (by kernel_rfl) rfl ?_))))
  refine aT aA 2 rfl (bI [(24,_),(25,_)] rfl rfl ⟨⟨rfl,rfl⟩,⟨rfl,rfl⟩,trivial⟩ rfl (dE rfl eR dM rfl (kH rfl (by omega)) (by omega) (by simp only[List.length_map,Int.toNat_natCast] <;> omega) (jW (k:=k) (by omega))) ?_)
  refine aT aA 2 rfl ?_
  refine bI [(28,_)] rfl rfl ⟨⟨rfl,rfl⟩,trivial⟩ rfl (bK rfl rfl (by omega) (by omega)) ?_
  refine bI [(27,_),(29,_)] rfl rfl ⟨⟨rfl,rfl⟩,⟨rfl,rfl⟩,trivial⟩ rfl (dE rfl eR dM (kH rfl (by omega)) rfl (by simp only[List.length_map,Int.toNat_natCast] <;> omega) (by omega) (gX (k:=k+1) (by omega))) ?_
  refine bL [(26,_),(30,_)] rfl rfl ⟨⟨rfl,rfl⟩,⟨rfl,rfl⟩,trivial⟩ rfl (aP wY rfl rfl rfl rfl (l2 rfl)) (bL [(31,_)] rfl rfl ⟨⟨rfl,rfl⟩,trivial⟩ rfl (aO rfl rfl uI rfl ((show Den Tryz.prog _ _ (·=.sl 4 ((l.take k++l.drop (k+1)).map seC)) from (cQ (tB [l.take k,l.drop (k+1)] (by simp) (by simp only[List.flatten_cons,List.flatten_nil,List.length_append,List.length_take,List.length_drop,List.length_nil]; omega))).mono fun r h=>h.trans (by simp)))) ?_)
  refine aT aA 2 rfl ?_
  refine bI [(33,_),(34,_)] rfl rfl ⟨⟨rfl,rfl⟩,⟨rfl,rfl⟩,trivial⟩ rfl (aY rfl rfl eR dM (by first | exact ixm (by omega) | assumption | exact⟨by decide,rfl⟩)) ?_
  refine aT aA 2 rfl (bL [(36,_),(37,_)] rfl rfl ⟨⟨rfl,rfl⟩,⟨rfl,rfl⟩,trivial⟩ rfl (aO rfl rfl uK rfl (vS l[k] t)) (aT aA 1 rfl (pE [8,9,38] rfl rfl rfl ?_)))
  refine aH 16 [] (by kernel_rfl) ⟨?_,trivial⟩
  ·
   refine⟨_,rfl,rfl,(ao rfl (bB hf rfl rfl bA rfl rfl (l1 rfl) (l4 rfl) rfl (aF (aH 17 [] (by kernel_rfl) ⟨?_,trivial⟩))))⟩
   ·
    refine⟨_,rfl,rfl,(ao rfl (aE aA 1 rfl (aF (bS (by kernel_rfl) ?_))))⟩
    refine hK6 _ (aI ?_)
    refine⟨_,rfl,?_⟩
    rw[pX,stR,if_pos c1,if_pos c1,c1,c2,c5]; rfl
end Go.Proofs.YtpkanhklapfajaaGreat
set_option linter.unusedVariables false
set_option linter.unusedSimpArgs false
namespace Go.Proofs.YtpkanhklapfajaaGreat
open Go Go.Abs
theorem aNq (l:List Se) (e:Se) (hl:l.length*40+40≤140737488355328) :Den Tryz.prog 110 [.sl 4 (l.map seC),.agg (seC e)]  (·=.tup [.sl 4 ((pW l e).map seC),.s (.int .i64 (wC l e))]):=by
 refine aR Tryz.func110 rfl (Nat.le_of_ble_eq_true rfl) (fun w0 A hf=>(aC (fun K1 hK1=>(aB (aJ hf rfl (cE rfl rfl (lf rfl)) (aG rfl (bD) (aE aA 1 rfl (aD (hK1 _ (aC (fun K2 hK2=>(aB (aE aA 5 rfl (aJ hf rfl (aO rfl rfl uJ rfl (aEg _ _ _ (by omega))) (aE aA 5 rfl ?_)))))))))))))))
 refine aD (hK2 _ (aC (fun K3 hK3=>(aM (aC (fun K4 hK4=>(aB (aE aA 3 rfl (aD (hK4 _ (aK rfl (fun hc1=>?_) (fun hc1=>?_))))))))))))
 ·
  simp only[bs] at hc1
  refine aC (fun K5 hK5=>(aB (aG rfl (qY (k:=4)) (aE aA 1 rfl (aD (hK5 _ (aI ?_)))))))
  refine⟨_,rfl,?_⟩
  have ho:wC l e=100:=by
   unfold wC
   rw[if_pos (by have:=(aKp (l:=l) (n:=e.1.1) (u:=e.1.2)); cases hh:aJ7 l e.1.1 <;> simp_all)]
  rw[pW,if_neg (by omega),ho]; rfl
 ·
  simp only[bs] at hc1
  have hno:aJ7 l e.1.1=false:=(aKp (u:=e.1.2)).1 (by assumption)
  refine aC (fun K6 hK6=>(aB (aE aA 4 rfl (aD (hK6 _ (aK rfl (fun hc2=>?_) (fun hc2=>?_)))))))
  ·
   simp only[bs] at hc2
   refine aC (fun K7 hK7=>(aB (aG rfl (qY (k:=4)) (aE aA 1 rfl (aD (hK7 _ (aI ?_)))))))
   refine⟨_,rfl,?_⟩
   have ho:wC l e=103:=by
    unfold wC
    rw[if_neg (by simp [hno]),if_pos (by omega)]
   rw[pW,if_neg (by omega),ho]; rfl
  ·
   simp only[bs] at hc2
   refine aL (hK3 _ (aC (fun K8 hK8=>(aB (aE aA 1 rfl (aG rfl (iI rfl) (aJ hf rfl (aO rfl rfl aBd rfl (tA aMe rfl (mY e.1.1) l (by omega) (fun x _=>aQ7 x e))) (aE aA 1 rfl (aD (hK8 _ (aC (fun K9 hK9=>(aC (fun K10 hK10=>(aB ?_)))))))))))))))
   refine aE aA 2 rfl (aD (hK10 _ (aK rfl (fun hc3=>?_) (fun hc3=>?_))))
   ·
    simp only[bs] at hc3
    obtain ⟨k,hk⟩:∃ k:Nat,k=l.length:=⟨_,rfl⟩
    have hnA:∀ x∈l,mY e.1.1 x=false:=by
     rcases eL (mY e.1.1) l with ⟨_,h⟩ | ⟨k',_,e0,_⟩
     · exact h
     · exfalso; omega
    have hins:=aHk (mY e.1.1) e l k (by omega) (fun j hj _=>hnA _ (List.getElem_mem hj)) (fun h=>by omega)
    refine aB (aE aA 2 rfl ?_)
    rw[List.length_map,← hk]
    refine aE aA 1 rfl (aD (hK9 _ (aC (fun K11 hK11=>(cU hf bF (by kernel_rfl) rfl (aT aA 2 rfl (bI [(32,_),(33,_)] rfl rfl ⟨⟨rfl,rfl⟩,⟨rfl,rfl⟩,trivial⟩ rfl (dE rfl eR dM rfl (kH rfl (by omega)) (by omega) (by simp only[List.length_map,Int.toNat_natCast] <;> omega) (jW (k:=k) (by omega))) ?_)))))))
    refine aT aA 1 rfl (bL [(35,_)] rfl rfl ⟨⟨rfl,rfl⟩,trivial⟩ rfl (aP kT rfl rfl rfl rfl (l2 rfl)) (aT aA 2 rfl (bI [(37,_),(38,_)] rfl rfl ⟨⟨rfl,rfl⟩,⟨rfl,rfl⟩,trivial⟩ rfl (dE rfl eR dM (kH rfl (by omega)) rfl (by simp only[List.length_map,Int.toNat_natCast] <;> omega) (by omega) (gX (k:=k) (by omega))) ?_)))
    refine bL [(34,_),(36,_),(39,_)] rfl rfl ⟨⟨rfl,rfl⟩,⟨rfl,rfl⟩,⟨rfl,rfl⟩,trivial⟩ rfl (aP wY rfl rfl rfl rfl (l2 rfl)) (bL [(40,_)] rfl rfl ⟨⟨rfl,rfl⟩,trivial⟩ rfl (aO rfl rfl uI rfl ((show Den Tryz.prog _ _ (·=.sl 4 ((l.take k++e::l.drop k).map seC)) from (cQ (tB [l.take k,[e],l.drop k] (by simp) (by simp only[List.flatten_cons,List.flatten_nil,List.length_append,List.length_take,List.length_drop,List.length_cons,List.length_nil]; omega))).mono fun r h=>h.trans (by simp)))) ?_)
    refine aT aA 2 rfl (cY [4,5] rfl rfl rfl (hK11 _ (aI ?_)))
    refine⟨_,rfl,?_⟩
    have ho:wC l e=0:=by
     unfold wC
     rw[if_neg (by simp [hno]),if_neg (by omega)]
    rw[pW,if_pos ho,ho,aHd,hins]; rfl
   ·
    simp only[bs] at hc3
    obtain ⟨k,hk,ek,hk1,hk2⟩:∃ k:Nat,∃ h:k<l.length,pI (mY e.1.1) l=(k:Nat)∧mY e.1.1 l[k]=true∧∀ (j:Nat) (hj:j<l.length),j<k→mY e.1.1 l[j]=false:=by
     rcases eL (mY e.1.1) l with ⟨e0,_⟩ | ⟨k',h1,e0,h2,h3⟩
     · exfalso; omega
     · exact⟨k',h1,e0,h2,h3⟩
    rw[ek]
    have hins:=aHk (mY e.1.1) e l k (by omega) hk2 (fun _=>hk1)
    refine aL (hK9 _ (aC (fun K12 hK12=>(cU hf bF (by kernel_rfl) rfl (aT aA 2 rfl (bI [(32,_),(33,_)] rfl rfl ⟨⟨rfl,rfl⟩,⟨rfl,rfl⟩,trivial⟩ rfl (dE rfl eR dM rfl (kH rfl (by omega)) (by omega) (by simp only[List.length_map,Int.toNat_natCast] <;> omega) (jW (k:=k) (by omega))) ?_))))))
    refine aT aA 1 rfl (bL [(35,_)] rfl rfl ⟨⟨rfl,rfl⟩,trivial⟩ rfl (aP kT rfl rfl rfl rfl (l2 rfl)) (aT aA 2 rfl (bI [(37,_),(38,_)] rfl rfl ⟨⟨rfl,rfl⟩,⟨rfl,rfl⟩,trivial⟩ rfl (dE rfl eR dM (kH rfl (by omega)) rfl (by simp only[List.length_map,Int.toNat_natCast] <;> omega) (by omega) (gX (k:=k) (by omega))) ?_)))
    refine bL [(34,_),(36,_),(39,_)] rfl rfl ⟨⟨rfl,rfl⟩,⟨rfl,rfl⟩,⟨rfl,rfl⟩,trivial⟩ rfl (aP wY rfl rfl rfl rfl (l2 rfl)) (bL [(40,_)] rfl rfl ⟨⟨rfl,rfl⟩,trivial⟩ rfl (aO rfl rfl uI rfl ((show Den Tryz.prog _ _ (·=.sl 4 ((l.take k++e::l.drop k).map seC)) from (cQ (tB [l.take k,[e],l.drop k] (by simp) (by simp only[List.flatten_cons,List.flatten_nil,List.length_append,List.length_take,List.length_drop,List.length_cons,List.length_nil]; omega))).mono fun r h=>h.trans (by simp)))) ?_)
    refine aT aA 2 rfl (cY [4,5] rfl rfl rfl (hK12 _ (aI ?_)))
    refine⟨_,rfl,?_⟩
    have ho:wC l e=0:=by
     unfold wC
     rw[if_neg (by simp [hno]),if_neg (by omega)]
    rw[pW,if_pos ho,ho,aHd,hins]; rfl
end Go.Proofs.YtpkanhklapfajaaGreat
set_option linter.unusedVariables false
set_option linter.unusedSimpArgs false
namespace Go.Proofs.YtpkanhklapfajaaGreat
open Go Go.Abs
end Go.Proofs.YtpkanhklapfajaaGreat
set_option linter.unusedVariables false
set_option linter.unusedSimpArgs false
namespace Go.Proofs.YtpkanhklapfajaaGreat
open Go Go.Abs
end Go.Proofs.YtpkanhklapfajaaGreat
set_option linter.unusedVariables false
namespace Go.Proofs.YtpkanhklapfajaaGreat
open Go Go.Abs Go.RowKit Go.Lib Go.Sort
theorem xD {P:Program} {ops:Array Oper} {o:Oper} {a:Act} {w:World} {K:Act→World→Prop} {Q:Exit→Act→World→Prop} {E:Prop}
    (hg:o.guard=none) (s x:Operand) (t:TypeId) (hop:o.op=Op.call { callee:=Callee.builtin Builtin.append,args:=#[s,x],argTypes:=#[t,t] })
    {e k:Nat} (ht:elem? P t=some e) (hk:cells? P e=some k) {T:TypeId} (g n cap:Nat) (hs:a.eval s=.slice (some ⟨g,0,none⟩) n cap)
    (cur:Array Value) (hg0:w.heap[g]?=some (.cells cur T (0,0))) (ad:Addr) (m c:Nat) (news:List Value) (hx:a.eval x=.slice (some ad) m c) (hl:news.length=m*k)
    (hnews:∀ j u,news[j]?=some u→w.cell? (ad.add j)=some u) (h1:∀ u∈news,u.oneCell'=true) (hroom:n+m≤cap) (hfit:n*k+news.length≤cur.size)
    (hK:K (a.put o.dst (.slice (some ⟨g,0,none⟩) (n+m) cap)) (w.setRow g (cur.toList.take (n*k)++news++cur.toList.drop (n*k+news.length)).toArray)) :
    if Region.wanted o (yielded ops a.tmps)=true then Oper.wp P o a w K Q else E:=by
  have hw:Region.wanted o (yielded ops a.tmps)=true:=by simp [Region.wanted,hg]
  rw[if_pos hw]
  have hrun:=mQ (P:=P) (t:=t) (ty:=o.type) ht hk g n cap cur hg0 ad m c news hl hnews h1 hroom hfit
  unfold Oper.wp
  have he:(execOp a.eval o).run P w=((Builtin.append_ #[t,t] o.type #[a.eval s,a.eval x]).run P w).andThen fun v w'=>.ok (.value v) w':=by
    simp [execOp,hop,resolve,invoke,builtin]
  rw[he,hs,hx,hrun]
  exact hK
theorem aG4 (w:World) (b:Nat) (c1 c2:Array Value):(w.setRow b c1).setRow b c2=w.setRow b c2:=by
  unfold World.setRow
  congr 1
  apply Array.ext
  · simp
  · intro i h1 h2
    simp only[Array.getElem_modify]
    split
    · generalize w.heap[i]'(by simpa using h2)=x
      cases x <;> rfl
    · rfl
set_option maxRecDepth 1000000 in
theorem aH2 (b cap n i j:Nat) (cur:Array Value) (T:TypeId) (w:World) (hh:w.heap[b]?=some (.cells cur T (0,0))) (hsz:cap*4≤cur.size) (hn:n≤cap) (hm:cap≤9223372036854775807) (hij:j=i+1) (hi:i<n)
    (hone:∀ (j:Nat) (v:Value),j<n*4→cur[j]?=some v→v.oneCell'=true) :
    Calls Tryz.prog 157 #[.slice (some ⟨b,0,none⟩) n cap,.int .i64 i,.int .i64 ((j:Nat):Int)] w fun e w'=>e=.returned (.slice (some ⟨b,0,none⟩) (n - 1) cap) ∧
      ∃ cs,w'=w.drew.setRow b cs∧cs.size=cur.size∧∀ q,q<(n - 1)*4→cs[q]?=if q<i*4 then cur[q]? else cur[q+4]?:=by
  have hh':w.drew.heap[b]?=some (.cells cur T (0,0)):=hh
  have hcell:∀ j,j<cap*4→w.drew.cell? ⟨b,j,none⟩=cur[j]?:=fun j hj=>by simp [World.cell?,hh']
  obtain ⟨news,hnews⟩:∃ news,news=(cur.toList.drop (j*4)).take ((n - j)*4):=⟨_,rfl⟩
  have hlen:news.length=(n - j)*4:=by
    rw[hnews]; simp only[List.length_take,List.length_drop,Array.length_toList]; omega
  have hget:∀ t,t<(n - j)*4→news[t]?=cur[j*4+t]?:=fun t ht=>by
    rw[hnews,List.getElem?_take,if_pos ht,List.getElem?_drop,Array.getElem?_toList]
  obtain ⟨A,hA,hsrc⟩:∃ A:Addr,(if cap=j then some (⟨b,0,none⟩:Addr) else some ⟨b,j*4,none⟩)=some A∧Hid (∀ t u,news[t]?=some u→w.drew.cell? (A.add t)=some u):=by
    by_cases h:cap=j
    · refine⟨⟨b,0,none⟩,by simp [h],fun t u hu=>?_⟩
      have h0:news.length=0:=by rw[hlen]; omega
      rw[List.length_eq_zero_iff.1 h0] at hu
      simp at hu
    · refine⟨⟨b,j*4,none⟩,by simp [h],fun t u hu=>?_⟩
      have ht:t<(n - j)*4:=by
        have:=(List.getElem?_eq_some_iff.1 hu).1
        rwa [hlen] at this
      rw[hget t ht] at hu
      rw[Addr.add_lit]
      exact(hcell _ (by omega)).trans hu
  obtain ⟨he,hck,hk0,i0,z,hi0,hzz,hik,hby,hzc⟩:=appT?_inv jN
  have s1:Hid (news.length=(n - j)*4):=hlen
  have s2:Hid (∀ u∈news,u.oneCell'=true):=by
    intro u hu
    obtain ⟨t,ht⟩:=List.getElem?_of_mem hu
    have ht2:=(List.getElem?_eq_some_iff.1 ht).1
    rw[hlen] at ht2
    rw[hget t ht2] at ht
    exact hone _ _ (by omega) ht
  have s3:Hid (i*4+news.length≤cur.size):=by show i*4+news.length≤cur.size; rw[hlen]; omega
  have s4:Hid (w.drew.heap[b]?=some (.cells cur T (0,0))):=hh'
  obtain ⟨cs1,hcs1⟩:∃ cs1,cs1=(cur.toList.take (i*4)++news++cur.toList.drop (i*4+news.length)).toArray:=⟨_,rfl⟩
  have hc1s:cs1.size=cur.size:=by
    rw[hcs1]; simp only[List.size_toArray,List.length_append,List.length_take,List.length_drop,Array.length_toList,hlen]; omega
  obtain ⟨W1,hW1⟩:∃ W1,W1=w.drew.setRow b cs1:=⟨_,rfl⟩
  have hb1:W1.heap[b]?=some (.cells cs1 T (0,0)):=by rw[hW1]; exact setRow_heap _ b cur cs1 T _ hh'
  have hW:Hid (W1=w.drew.setRow b (cur.toList.take (i*4)++news++cur.toList.drop (i*4+news.length)).toArray):=by rw[← hcs1]; exact hW1
  have hrz:(zeroValue 147).run Tryz.prog W1=.ok z W1:=by simp [zeroValue,typeInfo,hi0,hzz]
  have hz1:∀ u∈z.cells.toList,u.oneCell'=true:=by
    have hz:=lU
    unfold zeros? at hz
    simp [hi0,hzz] at hz
    intro u hu
    rw[hz] at hu
    simp at hu
    rcases hu with rfl | rfl <;> rfl
  have hzl:(Builtin.zeroCells z.cells (n - (i+(n - j)))).toList.length=4:=by rw[Array.length_toList,size_zeroCells,hzc]; omega
  have hst:=run_storeCells_at Tryz.prog b ((i+(n - j))*4) T (Builtin.zeroCells z.cells (n - (i+(n - j)))).toList 0 cs1 W1 hb1 (by rw[hzl,hc1s]; omega) (fun u hu=>hz1 u (vM (by rw[hzc]; exact hk0) hu))
  simp only[Nat.add_zero] at hst
  obtain ⟨cs2,hcs2⟩:∃ cs2,cs2=(cs1.toList.take ((i+(n - j))*4)++(Builtin.zeroCells z.cells (n - (i+(n - j)))).toList++cs1.toList.drop ((i+(n - j))*4+(Builtin.zeroCells z.cells (n - (i+(n - j)))).toList.length)).toArray:=⟨_,rfl⟩
  rw[← hcs2] at hst
  have hcl:∀ ty,(Builtin.clear_ #[39] ty #[.slice (some ⟨b,(i+(n - j))*4,none⟩) (n - (i+(n - j))) (cap - (i+(n - j)))]).run Tryz.prog W1=.ok (.tuple #[]) (W1.setRow b cs2):=fun ty=>by
    have h0:¬ (n - (i+(n - j))=0):=by omega
    simp [Builtin.clear_,run_underlying (elem?_inv he),h0,hrz,hst]
  have hlt:i<j:=by omega
  have hjn:j≤n:=by omega
  have hic:i≤cap:=by omega
  have hjc:j≤cap:=by omega
  have hfin:W1.setRow b cs2=w.drew.setRow b cs2∧cs2.size=cur.size∧∀ q,q<(n - 1)*4→cs2[q]?=if q<i*4 then cur[q]? else cur[q+4]?:=by
    have hnj:(i+(n - j))*4=(n - 1)*4:=by rw[hij]; omega
    refine⟨?_,?_,?_⟩
    · rw[hW1]; exact aG4 _ _ _ _
    · rw[hcs2]; simp only[List.size_toArray,List.length_append,List.length_take,List.length_drop,hzl,Array.length_toList,hc1s]; omega
    · intro q hq
      have e2:cs2[q]?=cs1[q]?:=by
        rw[hcs2,List.getElem?_toArray,List.append_assoc,List.getElem?_append_left (by simp only[List.length_take,Array.length_toList]; omega),List.getElem?_take,if_pos (by omega),Array.getElem?_toList]
      rw[e2,hcs1,List.getElem?_toArray,List.append_assoc]
      by_cases h:q<i*4
      · rw[if_pos h,List.getElem?_append_left (by simp only[List.length_take,Array.length_toList]; omega),List.getElem?_take,if_pos h,Array.getElem?_toList]
      · have hlt:(cur.toList.take (i*4)).length=i*4:=by simp only[List.length_take,Array.length_toList]; omega
        rw[if_neg h,List.getElem?_append_right (by omega),hlt,List.getElem?_append_left (by rw[hlen]; omega),hget _ (by omega)]
        congr 1
        omega
  have hfin':=show Hid _ from hfin
  clear hW1 hb1 hcs1 hcs2 hst hnews hget hfin hh' hcell hh hone hc1s hzl
  have hij2:Hid (j=i+1):=hij
  clear hij
  go_enter Tryz.func157,Tryz.ntmps157
  go_wp2_with fail
  go_region_law (refine xD rfl (.tmp 22) (.tmp 25) 39 rfl he hck b i cap (by simp [Act.eval,Act.put]) cur s4.out A (n - j) (cap - j) news (by simp [Act.eval,Act.put]) s1.out hsrc.out s2.out (by omega) s3.out ?_; rw[← hW.out])
  go_wp2
  go_ret
  have h1:j=i+1:=hij2
  refine⟨?_,cs2,hfin'⟩
  rw[show n - 1=i+(n - j) by omega]
  rfl
theorem aKl (xs:List (List AV)) (n i:Nat) (z:Int) (hz:z=((i+1:Nat):Int)) (hn:n=xs.length) (hi:i<n):DenM Tryz.prog 157 [.own E0 4 0 n,.s (.int .i64 (i:Nat)),.s (.int .i64 z)] 4 xs (fun r ys=>r=.own E0 4 0 (n - 1)∧ys=xs.take i++xs.drop (i+1)):=by
  subst hz
  intro A w x vals hA hx hr hb
  obtain ⟨v0,v1,v2,rfl⟩:∃ v0 v1 v2,vals=[v0,v1,v2]:=by
    have:=hr.1
    match vals,this with
    | [a,b,c],_=>exact⟨a,b,c,rfl⟩
  have r0:=hr.2 0 _ v0 rfl rfl
  have r1:=hr.2 1 _ v1 rfl rfl
  have r2:=hr.2 2 _ v2 rfl rfl
  cases r1
  cases r2
  rcases hb with ⟨hb,_⟩ | ⟨b,cur,T,hbE,hh,hcs,hck,hcell⟩
  · rw[hb] at hn; simp at hn; omega
  have hxb:=(gC hbE).2
  subst hxb
  have hbs:b<w.heap.size:=(Array.getElem?_eq_some_iff.1 hh).1
  obtain ⟨cap,hcap,hcm,hsz,rfl⟩:∃ cap,n≤cap∧cap≤9223372036854775807∧cap*4≤cur.size∧v0=.slice (some ⟨b,0,none⟩) n cap:=by
    cases r0 with
    | ownn _ _ _=>omega
    | own _ _ _ _ b' cap cur' T' hg h1 h2 h3 h4 =>
      have:=(gC hg).2; cases this
      rw[hh] at h3; cases h3
      exact⟨cap,h1,by simpa [maxLen] using h2,by omega,by simp⟩
    | own0 _ _ _ _ _ _=>omega
  have hleaf:∀ (j:Nat) (y:List AV) (q:Nat) (a:AV),xs[j]?=some y→y[q]?=some a→a.leaf=true∧q<4:=fun j y q a hy ha =>
    ⟨(hck y (List.mem_of_getElem? hy)).2 a (List.mem_of_getElem? ha),by rw[← (hck y (List.mem_of_getElem? hy)).1]; exact(List.getElem?_eq_some_iff.1 ha).1⟩
  have hone:∀ (j:Nat) (v:Value),j<n*4→cur[j]?=some v→v.oneCell'=true:=fun j v hj hv=>by
    have hj4:j / 4<xs.length:=by rw[← hn]; omega
    have hy:xs[j / 4]?=some xs[j / 4]:=List.getElem?_eq_getElem hj4
    have hl:=(hck _ (List.mem_of_getElem? hy)).1
    obtain ⟨u,hu,hru⟩:=hcell (j / 4) _ (j % 4) _ hy (List.getElem?_eq_getElem (by rw[hl]; omega))
    rw[show j / 4*4+j % 4=j by omega,hv] at hu
    cases hu
    exact hru.one (AV.one_of_leaf (hleaf _ _ (j % 4) _ hy (List.getElem?_eq_getElem (by rw[hl]; omega))).1)
  refine(aH2 b cap n i (i+1) cur T w hh hsz hcap hcm rfl hi hone).mono ?_
  rintro e w' ⟨rfl,cs,rfl,hcsz,hget⟩
  have hb':(w.drew.setRow b cs).heap[b]?=some (.cells cs T (0,0)):=setRow_heap _ b cur cs T _ hh
  have hoth:∀ b',b'≠b→(w.drew.setRow b cs).heap[b']?=w.heap[b']?:=fun b' hne=>setRow_other w.drew b b' cs hne
  have hwsz:(w.drew.setRow b cs).heap.size=w.heap.size:=by
    show (w.drew.setRow b cs).heap.size=w.drew.heap.size
    simp [World.setRow]
  have hne:∀ b',Stable w (eI (some b) A) b'→b'≠b:=fun b' hb' h=>hb'.2.1 E0 (by rw[dV,h])
  have hstab:∀ b',Stable w (eI (some b) A) b'→Stable (w.drew.setRow b cs) (eI (some b) A) b':=fun b' hb'=>⟨by rw[hwsz]; exact hb'.1,hb'.2⟩
  have hmv:∀ (a:AV) (v:Value),a.leaf=true→RelV w (eI (some b) A) a v→RelV (w.drew.setRow b cs) (eI (some b) A) a v :=
    fun a v hlf h=>h.move (ok:=fun _=>false) (fun b' hb'=>⟨hstab b' hb',hoth b' (hne b' hb')⟩) (fun _ _ h _=>by cases h) (AV.clean_of_leaf hlf)
  have hl2:(xs.take i++xs.drop (i+1)).length=n - 1:=by simp only[List.length_append,List.length_take,List.length_drop]; omega
  refine⟨_,.own E0 4 0 (n - 1),xs.take i++xs.drop (i+1),rfl,⟨rfl,rfl⟩,?_,?_,?_⟩
  · refine⟨rfl,⟨rfl,Nat.le_add_right _ _⟩,rfl,by rw[hwsz]; omega,rfl,fun b' hb'=>⟨hstab b' hb',hoth b' (hne b' hb')⟩,fun b' hb' hAb=>hoth b' (fun h=>hx b' (by rw[h]) hAb),fun g' x hg'=>?_⟩
    have:=gC hg'
    obtain ⟨rfl,rfl⟩:=this
    refine .inr ⟨dV _ _,fun b' hb' cur' T' hh'=>?_⟩
    cases hb'
    rw[hh] at hh'; cases hh'
    exact⟨_,by assumption,hcsz⟩
  · refine .inr ⟨b,cs,T,dV _ _,hb',?_,?_,?_⟩
    · rw[hl2,hcsz]; omega
    · intro y hy
      rcases List.mem_append.1 hy with hy | hy
      · exact hck y (List.mem_of_mem_take hy)
      · exact hck y (List.mem_of_mem_drop hy)
    · intro j y q a hy ha
      have hj:j<n - 1:=by rw[← hl2]; exact(List.getElem?_eq_some_iff.1 hy).1
      by_cases h:j<i
      · rw[List.getElem?_append_left (by simp only[List.length_take]; omega),List.getElem?_take,if_pos h] at hy
        obtain ⟨hlf,hq⟩:=hleaf j y q a hy ha
        obtain ⟨u,hu,hru⟩:=hcell j y q a hy ha
        refine⟨u,?_,hmv _ _ hlf hru⟩
        rw[hget _ (by omega),if_pos (by omega)]; exact hu
      · have htl:(xs.take i).length=i:=by simp only[List.length_take]; omega
        rw[List.getElem?_append_right (by omega),htl,List.getElem?_drop,show i+1+(j - i)=j+1 by omega] at hy
        obtain ⟨hlf,hq⟩:=hleaf (j+1) y q a hy ha
        obtain ⟨u,hu,hru⟩:=hcell (j+1) y q a hy ha
        refine⟨u,?_,hmv _ _ hlf hru⟩
        rw[hget _ (by omega),if_neg (by omega),← hu]
        congr 1; omega
  · have:=RelV.own (w:=w.drew.setRow b cs) (p:=eI (some b) A) E0 4 0 (n - 1) b cap cs T (dV _ _) (by omega) (by simpa [maxLen] using hcm) hb' (by omega)
    simpa using this
end Go.Proofs.YtpkanhklapfajaaGreat
set_option linter.unusedVariables false
set_option linter.unusedSimpArgs false
namespace Go.Proofs.YtpkanhklapfajaaGreat
open Go Go.Abs
theorem aNm (l:List En) (p:Pr) (t:Int) (hl:l.length*48+48≤140737488355328) :Den Tryz.prog 114 [.sl 4 (l.map enC),.agg (prC p),.s (.int .i64 t)]  (·=.tup [.sl 4 ((if onB l p then kX l p t else []).map enC),.s (.int .i64 (if onB l p then 0 else 91))]):=by
 refine aR Tryz.func114 rfl (Nat.le_of_ble_eq_true rfl) (fun w0 A hf=>(aC (fun K1 hK1=>(aB (aJ hf rfl (cE rfl rfl (lf rfl)) (aG rfl (bD) (aE aA 1 rfl (aD (hK1 _ (aC (fun K2 hK2=>(aB (aE aA 2 rfl (aJ hf rfl (aO rfl rfl aBa rfl (aGi _ _ (by omega))) (aE aA 1 rfl ?_)))))))))))))))
 refine aD (hK2 _ (aC (fun K3 hK3=>(aC (fun K4 hK4=>(aB (aE aA 2 rfl (aD (hK4 _ (aK rfl (fun hc1=>?_) (fun hc1=>?_)))))))))))
 ·
  simp only[bs] at hc1
  refine aC (fun K5 hK5=>(aB (aG rfl (qY (k:=4)) (aE aA 1 rfl (aD (hK5 _ (aI ?_)))))))
  refine⟨_,rfl,?_⟩
  rw[show onB l p=false from onB_f (by omega)]; rfl
 ·
  simp only[bs] at hc1
  obtain ⟨k,hk,ek,hk1,hk2⟩:∃ k:Nat,∃ h:k<l.length,pI (gK p) l=(k:Nat)∧gK p l[k]=true∧∀ (j:Nat) (hj:j<l.length),j<k→gK p l[j]=false:=by
    rcases eL (gK p) l with ⟨e,_⟩ | ⟨k',h1,e,h2,h3⟩
    · exfalso; omega
    · exact⟨k',h1,e,h2,h3⟩
  rw[ek]
  refine aL (hK3 _ (aC (fun K6 hK6=>(aB (aE aA 1 rfl (iB hf rfl rfl rfl rfl rfl nW rfl (pM _ (by omega)) ?_))))))
  rintro _ rfl
  refine aE aA 1 rfl (aD (hK6 _ (aC (fun K7 hK7=>(aB ?_)))))
  have hml:(l.map enC).length=l.length:=List.length_map _
  refine aE aA 3 rfl ?_
  refine aG rfl (bX rfl rfl gF eK (by omega)) ?_
  refine aE aA 2 rfl (bB hf rfl rfl cD rfl rfl (by simp [AV.cells,AV.one,Value.oneCell']) (by simp [AV.cells,AV.leaf,Value.oneCell']) (hY (c:=4) (k:=k) (f:=3) (enc:=enC) (v:=(l[k].1,(l[k].2.1,t))) (by omega) (by omega) rfl (Nat.le_refl _)) ?_)
  refine aD (hK7 _ (aC (fun K8 hK8=>(aC (fun K9 hK9=>(aB (aE aA 2 rfl ?_)))))))
  refine aG rfl (bX rfl rfl gF eK (by omega)) ?_
  refine aE aA 1 rfl (aG rfl (bZ rfl aEl dP rfl (by rw[aDh (c:=4) (k:=k) (enc:=enC) (by omega) (by rw[List.length_set]; omega),List.getElem_set_self]; rfl) (cs':=spC (l[k].2.1,t)) (by rw[aDh (c:=4) (k:=k) (enc:=enC) (by omega) (by rw[List.length_set]; omega),List.getElem_set_self]; rfl)) ?_)
  refine aJ hf rfl (aO rfl rfl lI rfl (pC _)) (aD (hK9 _ (aK rfl (fun hc2=>?_) (fun hc2=>?_))))
  ·
   simp only[bs] at hc2
   refine aB (aE aA 3 rfl ?_)
   refine aG rfl (bK rfl rfl (by omega) (by omega)) ?_
   refine gG hf 16 rfl rfl rfl rfl rfl aMb (aKl (List.map enC (l.set k (l[k].1,(l[k].2.1,t)))) _ k _ (by omega) (by simp only[List.length_map,List.length_set] <;> omega) (by simp only[List.length_map] <;> omega)) ?_
   rintro r zs ⟨rfl,rfl⟩
   refine aE aA 1 rfl (aD (hK8 _ (aC (fun K10 hK10=>(aB (aE aA 3 rfl (aD (hK10 _ (aI ?_)))))))))
   refine⟨_,rfl,?_⟩
   rw[show onB l p=true from aTd hk hk1]
   (refine(congrArg (fun z=>AV.tup [z,.s (.int .i64 0)]) (cJ (g:=16) rfl (by first | rfl | (simp only[List.length_map,List.length_append,List.length_take,List.length_drop,List.length_set]; omega)))).trans ?_; rw[if_pos rfl,if_pos rfl,← rev_del (v:=(l[k].1,(l[k].2.1,t))) hk hk2 hk1 (by omega),List.map_append,List.map_take,List.map_drop])
  ·
   simp only[bs] at hc2
   refine aL (hK8 _ (aC (fun K11 hK11=>(aB (aE aA 3 rfl (aD (hK11 _ (aI ?_))))))))
   refine⟨_,rfl,?_⟩
   rw[show onB l p=true from aTd hk hk1]
   (refine(congrArg (fun z=>AV.tup [z,.s (.int .i64 0)]) (cJ (g:=16) rfl (by rw[List.length_map,List.length_map,List.length_set]))).trans ?_; rw[if_pos rfl,if_pos rfl,rev_set hk hk2 hk1 (by omega)])
end Go.Proofs.YtpkanhklapfajaaGreat
set_option linter.unusedVariables false
set_option linter.unusedSimpArgs false
namespace Go.Proofs.YtpkanhklapfajaaGreat
open Go Go.Abs
theorem aR4 (s:Sta) (e:Ev) (hz:SzS 140737488355100 s) (hr:dI cW s.usr) (hr2:dI eO s.tmb) (hk:e.kind=1) :DenX Tryz.prog 60 [.agg (eH s E0 E1),.agg (evC e)] [(E0,.buf 2 (s.usr.map usC)),(E1,.buf 2 (s.tmb.map tmC))] (fun r m=>r=.tup [.agg (eH (bN s e).1 E0 E1),.s (.int .i64 (bN s e).2)]∧m=[(E0,.buf 2 ((bN s e).1.usr.map usC)),(E1,.buf 2 ((bN s e).1.tmb.map tmC))]):=by
 have z1:=hz.o
 have z2:=hz.u
 have z3:=hz.b
 have z4:=hz.t
 have q:=aJo s.opn ((e.n,e.user),(e.st,e.at'))
 have hz2:SzS 140737488355200 ({ s with opn:=pW s.opn ((e.n,e.user),(e.st,e.at')) }):=⟨by show (pW s.opn ((e.n,e.user),(e.st,e.at'))).length*40≤_; omega,by show s.usr.length*40≤_; omega,by show s.sub.length*48≤_; omega,by show s.tmb.length*24≤_; omega,fun x hx=>by have:=hz.y x hx; omega⟩
 have hr3:dI cW (({ s with opn:=pW s.opn ((e.n,e.user),(e.st,e.at')) })).usr:=hr
 have hd:bN s e=(dZ ({ s with opn:=pW s.opn ((e.n,e.user),(e.st,e.at')) }) e.user (st0),wC s.opn ((e.n,e.user),(e.st,e.at'))):=by
  rw[bN,if_pos hk]
  rw[lT (show st0.1.2≤st0.1.1 from Int.le_refl _)]
 rw[hd]
 refine iJ [(E0,G0),(E1,G1)] Tryz.func60 rfl (Nat.le_of_ble_eq_true rfl) (args':=[.agg (eH s G0 G1),.agg (evC e)]) (m':=[(G0,.buf 2 (s.usr.map usC)),(G1,.buf 2 (s.tmb.map tmC))]) rfl rfl (by decide) (by decide) rfl (fun w0 o0 A hf=>?_)
 refine aC (fun K1 hK1=>(aB (sZ hf rfl rfl rfl rfl (l1 rfl) ?_)))
 refine aJ hf rfl (cE rfl rfl (lf rfl)) (bV hf rfl rfl rfl bR (aE aA 1 rfl (aD (hK1 _ (aC (fun K2 hK2=>(aB (aE aA 4 rfl (aG rfl (bO rfl fP iX (l3 rfl) rfl) (cA hf rfl fP rfl oB rfl rfl rfl rfl (lf rfl) (aD (hK2 _ (aC (fun K3 hK3=>?_))))))))))))))
 refine aB (aE aA 1 rfl (aD (hK3 _ (aC (fun K4 hK4=>(aB (bV hf rfl rfl rfl eE (aD (hK4 _ (aC (fun K5 hK5=>(aC (fun K6 hK6=>(aB (aE aA 2 rfl ?_)))))))))))))))
 refine aD (hK6 _ (aM (aC (fun K7 hK7=>(aB (aG rfl (eN rfl rfl (iF (by omega))) (aE aA 1 rfl (aD (hK7 _ (bY rfl (aB (aE aA 10 rfl (aG rfl (bO rfl rN aOi (l3 rfl) rfl) ?_)))))))))))))
 refine aJ hf rfl (aO rfl rfl aMz rfl (aNq s.opn ((e.n,e.user),(e.st,e.at')) (by omega))) (aE aA 4 rfl (bB hf rfl rfl oC rfl rfl (l1 rfl) (l4 rfl) rfl (aE aA 1 rfl ?_)))
 refine bH ?_
 refine hK5 _ (aC (fun K8 hK8=>(aB (aE aA 4 rfl (iM hf [(E0,G0),(E1,G1)] [(E0,G0),(E1,G1)] rfl rfl rfl rfl rfl rfl (by decide) (by decide) (by decide) rfl kJ (mX ({ s with opn:=pW s.opn ((e.n,e.user),(e.st,e.at')) }) e.user (st0) hz2 hr3) ?_)))))
 rintro r m1 ⟨rfl,rfl⟩
 rw[lL]
 refine aU (cF (sl':=[(4,.ref 4 0 0 0),(7,.s (.int .i64 (wC s.opn ((e.n,e.user),(e.st,e.at'))))),(112,.agg (eH (dZ ({ s with opn:=pW s.opn ((e.n,e.user),(e.st,e.at')) }) e.user (st0)) G0 G1))]) (m':=[(G0,.buf 2 ((dZ ({ s with opn:=pW s.opn ((e.n,e.user),(e.st,e.at')) }) e.user (st0)).usr.map usC)),(G1,.buf 2 ((dZ ({ s with opn:=pW s.opn ((e.n,e.user),(e.st,e.at')) }) e.user (st0)).tmb.map tmC)),(8,.box (stC (st0))),(4,.box [.s (.int .i64 0),.s (.int .i64 0),.s (.slice none 0 0),.s (.slice none 0 0),.s (.slice none 0 0),.s (.slice none 0 0)]),(2,.box [.s (.int .i64 (({ s with opn:=pW s.opn ((e.n,e.user),(e.st,e.at')) })).now),.s (.int .i64 (({ s with opn:=pW s.opn ((e.n,e.user),(e.st,e.at')) })).hor),.sl 4 ((({ s with opn:=pW s.opn ((e.n,e.user),(e.st,e.at')) })).opn.map seC),.bad,.sl 4 ((({ s with opn:=pW s.opn ((e.n,e.user),(e.st,e.at')) })).sub.map enC),.bad])]) ⟨rfl,rfl,rfl,trivial⟩ rfl) ?_
 refine aE aA 1 rfl (bB hf rfl rfl cP rfl rfl (l1 rfl) (l4 rfl) rfl (aE aA 1 rfl (aD (hK8 _ (aI ?_)))))
 exact⟨_,[(E0,G0),(E1,G1)],_,Le.refl _,by decide,rfl,rfl,⟨rfl,rfl⟩⟩
theorem aR3 (s:Sta) (e:Ev) (hz:SzS 140737488355100 s) (hr:dI cW s.usr) (hr2:dI eO s.tmb) (hk:e.kind=2) :DenX Tryz.prog 60 [.agg (eH s E0 E1),.agg (evC e)] [(E0,.buf 2 (s.usr.map usC)),(E1,.buf 2 (s.tmb.map tmC))] (fun r m=>r=.tup [.agg (eH (bN s e).1 E0 E1),.s (.int .i64 (bN s e).2)]∧m=[(E0,.buf 2 ((bN s e).1.usr.map usC)),(E1,.buf 2 ((bN s e).1.tmb.map tmC))]):=by
 have z1:=hz.o
 have z2:=hz.u
 have z3:=hz.b
 have z4:=hz.t
 have q:=aKw s.opn e.n e.user e.st e.at'
 have hz2:SzS 140737488355200 ({ s with opn:=pY s.opn e.n e.user e.st e.at' }):=⟨by show (pY s.opn e.n e.user e.st e.at').length*40≤_; omega,by show s.usr.length*40≤_; omega,by show s.sub.length*48≤_; omega,by show s.tmb.length*24≤_; omega,fun x hx=>by have:=hz.y x hx; omega⟩
 have hr3:dI cW (({ s with opn:=pY s.opn e.n e.user e.st e.at' })).usr:=hr
 have hd:bN s e=(dZ ({ s with opn:=pY s.opn e.n e.user e.st e.at' }) e.user (stR s.opn e.n e.user e.at'),iV s.opn e.n e.user):=by
  rw[bN,if_neg (by omega),if_pos hk]
  rfl
 rw[hd]
 refine iJ [(E0,G0),(E1,G1)] Tryz.func60 rfl (Nat.le_of_ble_eq_true rfl) (args':=[.agg (eH s G0 G1),.agg (evC e)]) (m':=[(G0,.buf 2 (s.usr.map usC)),(G1,.buf 2 (s.tmb.map tmC))]) rfl rfl (by decide) (by decide) rfl (fun w0 o0 A hf=>?_)
 refine aC (fun K1 hK1=>(aB (sZ hf rfl rfl rfl rfl (l1 rfl) ?_)))
 refine aJ hf rfl (cE rfl rfl (lf rfl)) (bV hf rfl rfl rfl bR (aE aA 1 rfl (aD (hK1 _ (aC (fun K2 hK2=>(aB (aE aA 4 rfl (aG rfl (bO rfl fP iX (l3 rfl) rfl) (cA hf rfl fP rfl oB rfl rfl rfl rfl (lf rfl) (aD (hK2 _ (aC (fun K3 hK3=>?_))))))))))))))
 refine aB (aE aA 1 rfl (aD (hK3 _ (aC (fun K4 hK4=>(aB (bV hf rfl rfl rfl eE (aD (hK4 _ (aC (fun K5 hK5=>(aC (fun K6 hK6=>(aB (aE aA 2 rfl ?_)))))))))))))))
 refine aD (hK6 _ (aM (aC (fun K7 hK7=>(aB (aG rfl (eN rfl rfl (fY (by omega))) (aE aA 1 rfl (aD (hK7 _ (bT rfl (aC (fun K8 hK8=>(aB (aG rfl (eN rfl rfl (iF (by omega))) ?_))))))))))))))
 refine aE aA 1 rfl (aD (hK8 _ (bY rfl (aB (aE aA 10 rfl (aJ hf rfl (aO rfl rfl aMy rfl (aH6 s.opn e.n e.user e.st e.at' (by omega))) (aE aA 5 rfl (bB hf rfl rfl oC rfl rfl (l1 rfl) (l4 rfl) rfl (bB hf rfl rfl bA rfl rfl (l1 rfl) (l4 rfl) rfl (aE aA 1 rfl ?_))))))))))
 refine bH ?_
 refine hK5 _ (aC (fun K9 hK9=>(aB (aE aA 4 rfl (iM hf [(E0,G0),(E1,G1)] [(E0,G0),(E1,G1)] rfl rfl rfl rfl rfl rfl (by decide) (by decide) (by decide) rfl kJ (mX ({ s with opn:=pY s.opn e.n e.user e.st e.at' }) e.user (stR s.opn e.n e.user e.at') hz2 hr3) ?_)))))
 rintro r m1 ⟨rfl,rfl⟩
 rw[lL]
 refine aU (cF (sl':=[(4,.ref 4 0 0 0),(7,.s (.int .i64 (iV s.opn e.n e.user))),(112,.agg (eH (dZ ({ s with opn:=pY s.opn e.n e.user e.st e.at' }) e.user (stR s.opn e.n e.user e.at')) G0 G1))]) (m':=[(G0,.buf 2 ((dZ ({ s with opn:=pY s.opn e.n e.user e.st e.at' }) e.user (stR s.opn e.n e.user e.at')).usr.map usC)),(G1,.buf 2 ((dZ ({ s with opn:=pY s.opn e.n e.user e.st e.at' }) e.user (stR s.opn e.n e.user e.at')).tmb.map tmC)),(8,.box (stC (stR s.opn e.n e.user e.at'))),(4,.box [.s (.int .i64 0),.s (.int .i64 0),.s (.slice none 0 0),.s (.slice none 0 0),.s (.slice none 0 0),.s (.slice none 0 0)]),(2,.box [.s (.int .i64 (({ s with opn:=pY s.opn e.n e.user e.st e.at' })).now),.s (.int .i64 (({ s with opn:=pY s.opn e.n e.user e.st e.at' })).hor),.sl 4 ((({ s with opn:=pY s.opn e.n e.user e.st e.at' })).opn.map seC),.bad,.sl 4 ((({ s with opn:=pY s.opn e.n e.user e.st e.at' })).sub.map enC),.bad])]) ⟨rfl,rfl,rfl,trivial⟩ rfl) ?_
 refine aE aA 1 rfl (bB hf rfl rfl cP rfl rfl (l1 rfl) (l4 rfl) rfl (aE aA 1 rfl (aD (hK9 _ (aI ?_)))))
 exact⟨_,[(E0,G0),(E1,G1)],_,Le.refl _,by decide,rfl,rfl,⟨rfl,rfl⟩⟩
theorem aR2 (s:Sta) (e:Ev) (hz:SzS 140737488355100 s) (hr:dI cW s.usr) (hr2:dI eO s.tmb) (hk:e.kind=3) :DenX Tryz.prog 60 [.agg (eH s E0 E1),.agg (evC e)] [(E0,.buf 2 (s.usr.map usC)),(E1,.buf 2 (s.tmb.map tmC))] (fun r m=>r=.tup [.agg (eH (bN s e).1 E0 E1),.s (.int .i64 (bN s e).2)]∧m=[(E0,.buf 2 ((bN s e).1.usr.map usC)),(E1,.buf 2 ((bN s e).1.tmb.map tmC))]):=by
 have z1:=hz.o
 have z2:=hz.u
 have z3:=hz.b
 have z4:=hz.t
 have q:=aKs s.opn e.n e.user
 have hz2:SzS 140737488355200 ({ s with opn:=pX s.opn e.n e.user }):=⟨by show (pX s.opn e.n e.user).length*40≤_; omega,by show s.usr.length*40≤_; omega,by show s.sub.length*48≤_; omega,by show s.tmb.length*24≤_; omega,fun x hx=>by have:=hz.y x hx; omega⟩
 have hr3:dI cW (({ s with opn:=pX s.opn e.n e.user })).usr:=hr
 have hd:bN s e=(dZ ({ s with opn:=pX s.opn e.n e.user }) e.user (stR s.opn e.n e.user e.at'),iV s.opn e.n e.user):=by
  rw[bN,if_neg (by omega),if_neg (by omega),if_pos hk]
  rfl
 rw[hd]
 refine iJ [(E0,G0),(E1,G1)] Tryz.func60 rfl (Nat.le_of_ble_eq_true rfl) (args':=[.agg (eH s G0 G1),.agg (evC e)]) (m':=[(G0,.buf 2 (s.usr.map usC)),(G1,.buf 2 (s.tmb.map tmC))]) rfl rfl (by decide) (by decide) rfl (fun w0 o0 A hf=>?_)
 refine aC (fun K1 hK1=>(aB (sZ hf rfl rfl rfl rfl (l1 rfl) ?_)))
 refine aJ hf rfl (cE rfl rfl (lf rfl)) (bV hf rfl rfl rfl bR (aE aA 1 rfl (aD (hK1 _ (aC (fun K2 hK2=>(aB (aE aA 4 rfl (aG rfl (bO rfl fP iX (l3 rfl) rfl) (cA hf rfl fP rfl oB rfl rfl rfl rfl (lf rfl) (aD (hK2 _ (aC (fun K3 hK3=>?_))))))))))))))
 refine aB (aE aA 1 rfl (aD (hK3 _ (aC (fun K4 hK4=>(aB (bV hf rfl rfl rfl eE (aD (hK4 _ (aC (fun K5 hK5=>(aC (fun K6 hK6=>(aB (aE aA 2 rfl ?_)))))))))))))))
 refine aD (hK6 _ (aM (aC (fun K7 hK7=>(aB (aG rfl (eN rfl rfl (fY (by omega))) (aE aA 1 rfl (aD (hK7 _ (bT rfl (aC (fun K8 hK8=>(aB (aG rfl (eN rfl rfl (fY (by omega))) ?_))))))))))))))
 refine aE aA 1 rfl (aD (hK8 _ (bT rfl (aC (fun K9 hK9=>(aB (aG rfl (eN rfl rfl (iF (by omega))) (aE aA 1 rfl (aD (hK9 _ (bY rfl (aB (aE aA 8 rfl ?_)))))))))))))
 refine aJ hf rfl (aO rfl rfl aMx rfl (aKv s.opn e.n e.user e.at' (by omega))) (aE aA 5 rfl (bB hf rfl rfl oC rfl rfl (l1 rfl) (l4 rfl) rfl (bB hf rfl rfl bA rfl rfl (l1 rfl) (l4 rfl) rfl (aE aA 1 rfl ?_))))
 refine bH ?_
 refine hK5 _ (aC (fun K10 hK10=>(aB (aE aA 4 rfl (iM hf [(E0,G0),(E1,G1)] [(E0,G0),(E1,G1)] rfl rfl rfl rfl rfl rfl (by decide) (by decide) (by decide) rfl kJ (mX ({ s with opn:=pX s.opn e.n e.user }) e.user (stR s.opn e.n e.user e.at') hz2 hr3) ?_)))))
 rintro r m1 ⟨rfl,rfl⟩
 rw[lL]
 refine aU (cF (sl':=[(4,.ref 4 0 0 0),(7,.s (.int .i64 (iV s.opn e.n e.user))),(112,.agg (eH (dZ ({ s with opn:=pX s.opn e.n e.user }) e.user (stR s.opn e.n e.user e.at')) G0 G1))]) (m':=[(G0,.buf 2 ((dZ ({ s with opn:=pX s.opn e.n e.user }) e.user (stR s.opn e.n e.user e.at')).usr.map usC)),(G1,.buf 2 ((dZ ({ s with opn:=pX s.opn e.n e.user }) e.user (stR s.opn e.n e.user e.at')).tmb.map tmC)),(8,.box (stC (stR s.opn e.n e.user e.at'))),(4,.box [.s (.int .i64 0),.s (.int .i64 0),.s (.slice none 0 0),.s (.slice none 0 0),.s (.slice none 0 0),.s (.slice none 0 0)]),(2,.box [.s (.int .i64 (({ s with opn:=pX s.opn e.n e.user })).now),.s (.int .i64 (({ s with opn:=pX s.opn e.n e.user })).hor),.sl 4 ((({ s with opn:=pX s.opn e.n e.user })).opn.map seC),.bad,.sl 4 ((({ s with opn:=pX s.opn e.n e.user })).sub.map enC),.bad])]) ⟨rfl,rfl,rfl,trivial⟩ rfl) ?_
 refine aE aA 1 rfl (bB hf rfl rfl cP rfl rfl (l1 rfl) (l4 rfl) rfl (aE aA 1 rfl (aD (hK10 _ (aI ?_)))))
 exact⟨_,[(E0,G0),(E1,G1)],_,Le.refl _,by decide,rfl,rfl,⟨rfl,rfl⟩⟩
theorem aR1 (s:Sta) (e:Ev) (hz:SzS 140737488355100 s) (hr:dI cW s.usr) (hr2:dI eO s.tmb) (hk:e.kind=4) :DenX Tryz.prog 60 [.agg (eH s E0 E1),.agg (evC e)] [(E0,.buf 2 (s.usr.map usC)),(E1,.buf 2 (s.tmb.map tmC))] (fun r m=>r=.tup [.agg (eH (bN s e).1 E0 E1),.s (.int .i64 (bN s e).2)]∧m=[(E0,.buf 2 ((bN s e).1.usr.map usC)),(E1,.buf 2 ((bN s e).1.tmb.map tmC))]):=by
 have z1:=hz.o
 have z2:=hz.u
 have z3:=hz.b
 have z4:=hz.t
 have q:=aJz s.sub (e.user,e.other) e.at'
 have hz2:SzS 140737488355200 ({ s with sub:=if onB s.sub (e.user,e.other)=true then [] else jQ s.sub (e.user,e.other) e.at' }):=⟨by show s.opn.length*40≤_; omega,by show s.usr.length*40≤_; omega,by show (if onB s.sub (e.user,e.other)=true then [] else jQ s.sub (e.user,e.other) e.at').length*48≤_; omega,by show s.tmb.length*24≤_; omega,fun x hx=>by have:=hz.y x hx; omega⟩
 have hr3:dI cW (({ s with sub:=if onB s.sub (e.user,e.other)=true then [] else jQ s.sub (e.user,e.other) e.at' })).usr:=hr
 have hd:bN s e=(dZ ({ s with sub:=if onB s.sub (e.user,e.other)=true then [] else jQ s.sub (e.user,e.other) e.at' }) e.user (st0),if onB s.sub (e.user,e.other)=true then 90 else 0):=by
  rw[bN,if_neg (by omega),if_neg (by omega),if_neg (by omega),if_pos hk]
  rw[lT (show st0.1.2≤st0.1.1 from Int.le_refl _)]
 rw[hd]
 refine iJ [(E0,G0),(E1,G1)] Tryz.func60 rfl (Nat.le_of_ble_eq_true rfl) (args':=[.agg (eH s G0 G1),.agg (evC e)]) (m':=[(G0,.buf 2 (s.usr.map usC)),(G1,.buf 2 (s.tmb.map tmC))]) rfl rfl (by decide) (by decide) rfl (fun w0 o0 A hf=>?_)
 refine aC (fun K1 hK1=>(aB (sZ hf rfl rfl rfl rfl (l1 rfl) ?_)))
 refine aJ hf rfl (cE rfl rfl (lf rfl)) (bV hf rfl rfl rfl bR (aE aA 1 rfl (aD (hK1 _ (aC (fun K2 hK2=>(aB (aE aA 4 rfl (aG rfl (bO rfl fP iX (l3 rfl) rfl) (cA hf rfl fP rfl oB rfl rfl rfl rfl (lf rfl) (aD (hK2 _ (aC (fun K3 hK3=>?_))))))))))))))
 refine aB (aE aA 1 rfl (aD (hK3 _ (aC (fun K4 hK4=>(aB (bV hf rfl rfl rfl eE (aD (hK4 _ (aC (fun K5 hK5=>(aC (fun K6 hK6=>(aB (aE aA 2 rfl ?_)))))))))))))))
 refine aD (hK6 _ (aM (aC (fun K7 hK7=>(aB (aG rfl (eN rfl rfl (fY (by omega))) (aE aA 1 rfl (aD (hK7 _ (bT rfl (aC (fun K8 hK8=>(aB (aG rfl (eN rfl rfl (fY (by omega))) ?_))))))))))))))
 refine aE aA 1 rfl (aD (hK8 _ (bT rfl (aC (fun K9 hK9=>(aB (aG rfl (eN rfl rfl (fY (by omega))) (aE aA 1 rfl (aD (hK9 _ (bT rfl (aC (fun K10 hK10=>(aB ?_))))))))))))))
 refine aG rfl (eN rfl rfl (iF (by omega))) (aE aA 1 rfl (aD (hK10 _ (bY rfl (aB (aE aA 5 rfl (aJ hf rfl (aO rfl rfl aMw rfl (aRn s.sub (e.user,e.other) e.at' (by omega))) (aE aA 4 rfl (bB hf rfl rfl pU rfl rfl (l1 rfl) (l4 rfl) rfl (aE aA 1 rfl ?_))))))))))
 refine bH ?_
 refine hK5 _ (aC (fun K11 hK11=>(aB (aE aA 4 rfl (iM hf [(E0,G0),(E1,G1)] [(E0,G0),(E1,G1)] rfl rfl rfl rfl rfl rfl (by decide) (by decide) (by decide) rfl kJ (mX ({ s with sub:=if onB s.sub (e.user,e.other)=true then [] else jQ s.sub (e.user,e.other) e.at' }) e.user (st0) hz2 hr3) ?_)))))
 rintro r m1 ⟨rfl,rfl⟩
 rw[lL]
 refine aU (cF (sl':=[(4,.ref 4 0 0 0),(7,.s (.int .i64 (if onB s.sub (e.user,e.other)=true then 90 else 0))),(112,.agg (eH (dZ ({ s with sub:=if onB s.sub (e.user,e.other)=true then [] else jQ s.sub (e.user,e.other) e.at' }) e.user (st0)) G0 G1))]) (m':=[(G0,.buf 2 ((dZ ({ s with sub:=if onB s.sub (e.user,e.other)=true then [] else jQ s.sub (e.user,e.other) e.at' }) e.user (st0)).usr.map usC)),(G1,.buf 2 ((dZ ({ s with sub:=if onB s.sub (e.user,e.other)=true then [] else jQ s.sub (e.user,e.other) e.at' }) e.user (st0)).tmb.map tmC)),(8,.box (stC (st0))),(4,.box [.s (.int .i64 0),.s (.int .i64 0),.s (.slice none 0 0),.s (.slice none 0 0),.s (.slice none 0 0),.s (.slice none 0 0)]),(2,.box [.s (.int .i64 (({ s with sub:=if onB s.sub (e.user,e.other)=true then [] else jQ s.sub (e.user,e.other) e.at' })).now),.s (.int .i64 (({ s with sub:=if onB s.sub (e.user,e.other)=true then [] else jQ s.sub (e.user,e.other) e.at' })).hor),.sl 4 ((({ s with sub:=if onB s.sub (e.user,e.other)=true then [] else jQ s.sub (e.user,e.other) e.at' })).opn.map seC),.bad,.sl 4 ((({ s with sub:=if onB s.sub (e.user,e.other)=true then [] else jQ s.sub (e.user,e.other) e.at' })).sub.map enC),.bad])]) ⟨rfl,rfl,rfl,trivial⟩ rfl) ?_
 refine aE aA 1 rfl (bB hf rfl rfl cP rfl rfl (l1 rfl) (l4 rfl) rfl (aE aA 1 rfl (aD (hK11 _ (aI ?_)))))
 exact⟨_,[(E0,G0),(E1,G1)],_,Le.refl _,by decide,rfl,rfl,⟨rfl,rfl⟩⟩
theorem aR0 (s:Sta) (e:Ev) (hz:SzS 140737488355100 s) (hr:dI cW s.usr) (hr2:dI eO s.tmb) (hk:e.kind=5) :DenX Tryz.prog 60 [.agg (eH s E0 E1),.agg (evC e)] [(E0,.buf 2 (s.usr.map usC)),(E1,.buf 2 (s.tmb.map tmC))] (fun r m=>r=.tup [.agg (eH (bN s e).1 E0 E1),.s (.int .i64 (bN s e).2)]∧m=[(E0,.buf 2 ((bN s e).1.usr.map usC)),(E1,.buf 2 ((bN s e).1.tmb.map tmC))]):=by
 have z1:=hz.o
 have z2:=hz.u
 have z3:=hz.b
 have z4:=hz.t
 have q:=aJy s.sub (e.user,e.other) e.at'
 have hz2:SzS 140737488355200 ({ s with sub:=if onB s.sub (e.user,e.other)=true then kX s.sub (e.user,e.other) e.at' else [] }):=⟨by show s.opn.length*40≤_; omega,by show s.usr.length*40≤_; omega,by show (if onB s.sub (e.user,e.other)=true then kX s.sub (e.user,e.other) e.at' else []).length*48≤_; omega,by show s.tmb.length*24≤_; omega,fun x hx=>by have:=hz.y x hx; omega⟩
 have hr3:dI cW (({ s with sub:=if onB s.sub (e.user,e.other)=true then kX s.sub (e.user,e.other) e.at' else [] })).usr:=hr
 have hd:bN s e=(dZ ({ s with sub:=if onB s.sub (e.user,e.other)=true then kX s.sub (e.user,e.other) e.at' else [] }) e.user (st0),if onB s.sub (e.user,e.other)=true then 0 else 91):=by
  rw[bN,if_neg (by omega),if_neg (by omega),if_neg (by omega),if_neg (by omega),if_pos hk]
  rw[lT (show st0.1.2≤st0.1.1 from Int.le_refl _)]
 rw[hd]
 refine iJ [(E0,G0),(E1,G1)] Tryz.func60 rfl (Nat.le_of_ble_eq_true rfl) (args':=[.agg (eH s G0 G1),.agg (evC e)]) (m':=[(G0,.buf 2 (s.usr.map usC)),(G1,.buf 2 (s.tmb.map tmC))]) rfl rfl (by decide) (by decide) rfl (fun w0 o0 A hf=>?_)
 refine aC (fun K1 hK1=>(aB (sZ hf rfl rfl rfl rfl (l1 rfl) ?_)))
 refine aJ hf rfl (cE rfl rfl (lf rfl)) (bV hf rfl rfl rfl bR (aE aA 1 rfl (aD (hK1 _ (aC (fun K2 hK2=>(aB (aE aA 4 rfl (aG rfl (bO rfl fP iX (l3 rfl) rfl) (cA hf rfl fP rfl oB rfl rfl rfl rfl (lf rfl) (aD (hK2 _ (aC (fun K3 hK3=>?_))))))))))))))
 refine aB (aE aA 1 rfl (aD (hK3 _ (aC (fun K4 hK4=>(aB (bV hf rfl rfl rfl eE (aD (hK4 _ (aC (fun K5 hK5=>(aC (fun K6 hK6=>(aB (aE aA 2 rfl ?_)))))))))))))))
 refine aD (hK6 _ (aM (aC (fun K7 hK7=>(aB (aG rfl (eN rfl rfl (fY (by omega))) (aE aA 1 rfl (aD (hK7 _ (bT rfl (aC (fun K8 hK8=>(aB (aG rfl (eN rfl rfl (fY (by omega))) ?_))))))))))))))
 refine aE aA 1 rfl (aD (hK8 _ (bT rfl (aC (fun K9 hK9=>(aB (aG rfl (eN rfl rfl (fY (by omega))) (aE aA 1 rfl (aD (hK9 _ (bT rfl (aC (fun K10 hK10=>(aB ?_))))))))))))))
 refine aG rfl (eN rfl rfl (fY (by omega))) (aE aA 1 rfl (aD (hK10 _ (bT rfl (aC (fun K11 hK11=>(aB (aG rfl (eN rfl rfl (iF (by omega))) (aE aA 1 rfl (aD (hK11 _ (bY rfl (aB ?_)))))))))))))
 refine aE aA 5 rfl (aJ hf rfl (aO rfl rfl aMv rfl (aNm s.sub (e.user,e.other) e.at' (by omega))) (aE aA 4 rfl (bB hf rfl rfl pU rfl rfl (l1 rfl) (l4 rfl) rfl (aE aA 1 rfl ?_))))
 refine bH ?_
 refine hK5 _ (aC (fun K12 hK12=>(aB (aE aA 4 rfl (iM hf [(E0,G0),(E1,G1)] [(E0,G0),(E1,G1)] rfl rfl rfl rfl rfl rfl (by decide) (by decide) (by decide) rfl kJ (mX ({ s with sub:=if onB s.sub (e.user,e.other)=true then kX s.sub (e.user,e.other) e.at' else [] }) e.user (st0) hz2 hr3) ?_)))))
 rintro r m1 ⟨rfl,rfl⟩
 rw[lL]
 refine aU (cF (sl':=[(4,.ref 4 0 0 0),(7,.s (.int .i64 (if onB s.sub (e.user,e.other)=true then 0 else 91))),(112,.agg (eH (dZ ({ s with sub:=if onB s.sub (e.user,e.other)=true then kX s.sub (e.user,e.other) e.at' else [] }) e.user (st0)) G0 G1))]) (m':=[(G0,.buf 2 ((dZ ({ s with sub:=if onB s.sub (e.user,e.other)=true then kX s.sub (e.user,e.other) e.at' else [] }) e.user (st0)).usr.map usC)),(G1,.buf 2 ((dZ ({ s with sub:=if onB s.sub (e.user,e.other)=true then kX s.sub (e.user,e.other) e.at' else [] }) e.user (st0)).tmb.map tmC)),(8,.box (stC (st0))),(4,.box [.s (.int .i64 0),.s (.int .i64 0),.s (.slice none 0 0),.s (.slice none 0 0),.s (.slice none 0 0),.s (.slice none 0 0)]),(2,.box [.s (.int .i64 (({ s with sub:=if onB s.sub (e.user,e.other)=true then kX s.sub (e.user,e.other) e.at' else [] })).now),.s (.int .i64 (({ s with sub:=if onB s.sub (e.user,e.other)=true then kX s.sub (e.user,e.other) e.at' else [] })).hor),.sl 4 ((({ s with sub:=if onB s.sub (e.user,e.other)=true then kX s.sub (e.user,e.other) e.at' else [] })).opn.map seC),.bad,.sl 4 ((({ s with sub:=if onB s.sub (e.user,e.other)=true then kX s.sub (e.user,e.other) e.at' else [] })).sub.map enC),.bad])]) ⟨rfl,rfl,rfl,trivial⟩ rfl) ?_
 refine aE aA 1 rfl (bB hf rfl rfl cP rfl rfl (l1 rfl) (l4 rfl) rfl (aE aA 1 rfl (aD (hK12 _ (aI ?_)))))
 exact⟨_,[(E0,G0),(E1,G1)],_,Le.refl _,by decide,rfl,rfl,⟨rfl,rfl⟩⟩
theorem aRz (s:Sta) (e:Ev) (hz:SzS 140737488355100 s) (hr:dI cW s.usr) (hr2:dI eO s.tmb) (hk:e.kind=6) :DenX Tryz.prog 60 [.agg (eH s E0 E1),.agg (evC e)] [(E0,.buf 2 (s.usr.map usC)),(E1,.buf 2 (s.tmb.map tmC))] (fun r m=>r=.tup [.agg (eH (bN s e).1 E0 E1),.s (.int .i64 (bN s e).2)]∧m=[(E0,.buf 2 ((bN s e).1.usr.map usC)),(E1,.buf 2 ((bN s e).1.tmb.map tmC))]):=by
 have z1:=hz.o
 have z2:=hz.u
 have z3:=hz.b
 have z4:=hz.t
 skip
 have hz2:SzS 140737488355200 ({ s with hor:=max s.hor e.n }):=⟨by show s.opn.length*40≤_; omega,by show s.usr.length*40≤_; omega,by show (s.sub).length*48≤_; omega,by show s.tmb.length*24≤_; omega,fun x hx=>by have:=hz.y x hx; omega⟩
 have hr3:dI cW (({ s with hor:=max s.hor e.n })).usr:=hr
 have hd:bN s e=(dZ ({ s with hor:=max s.hor e.n }) e.user (st0),0):=by
  rw[bN,if_neg (by omega),if_neg (by omega),if_neg (by omega),if_neg (by omega),if_neg (by omega),if_pos hk]
  rw[lT (show st0.1.2≤st0.1.1 from Int.le_refl _)]
 rw[hd]
 refine iJ [(E0,G0),(E1,G1)] Tryz.func60 rfl (Nat.le_of_ble_eq_true rfl) (args':=[.agg (eH s G0 G1),.agg (evC e)]) (m':=[(G0,.buf 2 (s.usr.map usC)),(G1,.buf 2 (s.tmb.map tmC))]) rfl rfl (by decide) (by decide) rfl (fun w0 o0 A hf=>?_)
 refine aC (fun K1 hK1=>(aB (sZ hf rfl rfl rfl rfl (l1 rfl) ?_)))
 refine aJ hf rfl (cE rfl rfl (lf rfl)) (bV hf rfl rfl rfl bR (aE aA 1 rfl (aD (hK1 _ (aC (fun K2 hK2=>(aB (aE aA 4 rfl (aG rfl (bO rfl fP iX (l3 rfl) rfl) (cA hf rfl fP rfl oB rfl rfl rfl rfl (lf rfl) (aD (hK2 _ (aC (fun K3 hK3=>?_))))))))))))))
 refine aB (aE aA 1 rfl (aD (hK3 _ (aC (fun K4 hK4=>(aB (bV hf rfl rfl rfl eE (aD (hK4 _ (aC (fun K5 hK5=>(aC (fun K6 hK6=>(aB (aE aA 2 rfl ?_)))))))))))))))
 refine aD (hK6 _ (aM (aC (fun K7 hK7=>(aB (aG rfl (eN rfl rfl (fY (by omega))) (aE aA 1 rfl (aD (hK7 _ (bT rfl (aC (fun K8 hK8=>(aB (aG rfl (eN rfl rfl (fY (by omega))) ?_))))))))))))))
 refine aE aA 1 rfl (aD (hK8 _ (bT rfl (aC (fun K9 hK9=>(aB (aG rfl (eN rfl rfl (fY (by omega))) (aE aA 1 rfl (aD (hK9 _ (bT rfl (aC (fun K10 hK10=>(aB ?_))))))))))))))
 refine aG rfl (eN rfl rfl (fY (by omega))) (aE aA 1 rfl (aD (hK10 _ (bT rfl (aC (fun K11 hK11=>(aB (aG rfl (eN rfl rfl (fY (by omega))) (aE aA 1 rfl (aD (hK11 _ (bT rfl (aC (fun K12 hK12=>?_))))))))))))))
 refine aB (aG rfl (eN rfl rfl (iF (by omega))) (aE aA 1 rfl (aD (hK12 _ (bY rfl (aB (aE aA 4 rfl (aG rfl (aPz rfl rfl) (aE aA 1 rfl (bB hf rfl rfl cD rfl rfl (l1 rfl) (l4 rfl) rfl ?_))))))))))
 refine bH ?_
 refine hK5 _ (aC (fun K13 hK13=>(aB (aE aA 4 rfl (iM hf [(E0,G0),(E1,G1)] [(E0,G0),(E1,G1)] rfl rfl rfl rfl rfl rfl (by decide) (by decide) (by decide) rfl kJ (mX ({ s with hor:=max s.hor e.n }) e.user (st0) hz2 hr3) ?_)))))
 rintro r m1 ⟨rfl,rfl⟩
 rw[lL]
 refine aU (cF (sl':=[(4,.ref 4 0 0 0),(7,.s (.int .i64 (0))),(112,.agg (eH (dZ ({ s with hor:=max s.hor e.n }) e.user (st0)) G0 G1))]) (m':=[(G0,.buf 2 ((dZ ({ s with hor:=max s.hor e.n }) e.user (st0)).usr.map usC)),(G1,.buf 2 ((dZ ({ s with hor:=max s.hor e.n }) e.user (st0)).tmb.map tmC)),(8,.box (stC (st0))),(4,.box [.s (.int .i64 0),.s (.int .i64 0),.s (.slice none 0 0),.s (.slice none 0 0),.s (.slice none 0 0),.s (.slice none 0 0)]),(2,.box [.s (.int .i64 (({ s with hor:=max s.hor e.n })).now),.s (.int .i64 (({ s with hor:=max s.hor e.n })).hor),.sl 4 ((({ s with hor:=max s.hor e.n })).opn.map seC),.bad,.sl 4 ((({ s with hor:=max s.hor e.n })).sub.map enC),.bad])]) ⟨rfl,rfl,rfl,trivial⟩ rfl) ?_
 refine aE aA 1 rfl (bB hf rfl rfl cP rfl rfl (l1 rfl) (l4 rfl) rfl (aE aA 1 rfl (aD (hK13 _ (aI ?_)))))
 exact⟨_,[(E0,G0),(E1,G1)],_,Le.refl _,by decide,rfl,rfl,⟨rfl,rfl⟩⟩
theorem aRy (s:Sta) (e:Ev) (hz:SzS 140737488355100 s) (hr:dI cW s.usr) (hr2:dI eO s.tmb) (hk:e.kind=7) :DenX Tryz.prog 60 [.agg (eH s E0 E1),.agg (evC e)] [(E0,.buf 2 (s.usr.map usC)),(E1,.buf 2 (s.tmb.map tmC))] (fun r m=>r=.tup [.agg (eH (bN s e).1 E0 E1),.s (.int .i64 (bN s e).2)]∧m=[(E0,.buf 2 ((bN s e).1.usr.map usC)),(E1,.buf 2 ((bN s e).1.tmb.map tmC))]):=by
 have z1:=hz.o
 have z2:=hz.u
 have z3:=hz.b
 have z4:=hz.t
 skip
 have hz2:SzS 140737488355200 (hP s e.user e.at'):=erSz hz hr (by omega)
 have hr3:dI cW ((hP s e.user e.at')).usr:=tF hr
 have hd:bN s e=(dZ (hP s e.user e.at') e.user (st0),0):=by
  rw[bN,if_neg (by omega),if_neg (by omega),if_neg (by omega),if_neg (by omega),if_neg (by omega),if_neg (by omega)]
  rw[lT (show st0.1.2≤st0.1.1 from Int.le_refl _)]
 rw[hd]
 refine iJ [(E0,G0),(E1,G1)] Tryz.func60 rfl (Nat.le_of_ble_eq_true rfl) (args':=[.agg (eH s G0 G1),.agg (evC e)]) (m':=[(G0,.buf 2 (s.usr.map usC)),(G1,.buf 2 (s.tmb.map tmC))]) rfl rfl (by decide) (by decide) rfl (fun w0 o0 A hf=>?_)
 refine aC (fun K1 hK1=>(aB (sZ hf rfl rfl rfl rfl (l1 rfl) ?_)))
 refine aJ hf rfl (cE rfl rfl (lf rfl)) (bV hf rfl rfl rfl bR (aE aA 1 rfl (aD (hK1 _ (aC (fun K2 hK2=>(aB (aE aA 4 rfl (aG rfl (bO rfl fP iX (l3 rfl) rfl) (cA hf rfl fP rfl oB rfl rfl rfl rfl (lf rfl) (aD (hK2 _ (aC (fun K3 hK3=>?_))))))))))))))
 refine aB (aE aA 1 rfl (aD (hK3 _ (aC (fun K4 hK4=>(aB (bV hf rfl rfl rfl eE (aD (hK4 _ (aC (fun K5 hK5=>(aC (fun K6 hK6=>(aB (aE aA 2 rfl ?_)))))))))))))))
 refine aD (hK6 _ (aM (aC (fun K7 hK7=>(aB (aG rfl (eN rfl rfl (fY (by omega))) (aE aA 1 rfl (aD (hK7 _ (bT rfl (aC (fun K8 hK8=>(aB (aG rfl (eN rfl rfl (fY (by omega))) ?_))))))))))))))
 refine aE aA 1 rfl (aD (hK8 _ (bT rfl (aC (fun K9 hK9=>(aB (aG rfl (eN rfl rfl (fY (by omega))) (aE aA 1 rfl (aD (hK9 _ (bT rfl (aC (fun K10 hK10=>(aB ?_))))))))))))))
 refine aG rfl (eN rfl rfl (fY (by omega))) (aE aA 1 rfl (aD (hK10 _ (bT rfl (aC (fun K11 hK11=>(aB (aG rfl (eN rfl rfl (fY (by omega))) (aE aA 1 rfl (aD (hK11 _ (bT rfl (aC (fun K12 hK12=>?_))))))))))))))
 refine aB (aG rfl (eN rfl rfl (fY (by omega))) (aE aA 1 rfl (aD (hK12 _ (bT rfl (aC (fun K13 hK13=>(aB (aG rfl (eN rfl rfl (iF (by omega))) (aE aA 1 rfl (aD (hK13 _ (bY rfl ?_)))))))))))))
 refine aB (aE aA 5 rfl (iM hf [(E0,G0),(E1,G1)] [(E0,G0),(E1,G1)] rfl rfl rfl rfl rfl rfl (by decide) (by decide) (by decide) rfl aMu (aN4 s e.user e.at' (hz.mono (by omega)) hr hr2) ?_))
 rintro r m1 ⟨rfl,rfl⟩
 rw[lL]
 refine aU (cF (sl':=[(2,.ref 2 0 0 0),(3,.adr (evC e)),(4,.ref 4 0 0 0),(7,.s (.int .i64 0)),(8,.ref 8 0 0 0),(107,.agg (eH (hP s e.user e.at') G0 G1))]) (m':=[(G0,.buf 2 ((hP s e.user e.at').usr.map usC)),(G1,.buf 2 ((hP s e.user e.at').tmb.map tmC)),(8,.box (stC st0)),(4,.box [.s (.int .i64 0),.s (.int .i64 0),.s (.slice none 0 0),.s (.slice none 0 0),.s (.slice none 0 0),.s (.slice none 0 0)]),(2,.box [.s (.int .i64 s.now),.s (.int .i64 s.hor),.sl 4 (s.opn.map seC),.bad,.sl 4 (s.sub.map enC),.bad])]) ⟨rfl,rfl,rfl,rfl,rfl,rfl,trivial⟩ rfl) ?_
 refine bB hf rfl rfl cP rfl rfl (l1 rfl) (l4 rfl) rfl ?_
 refine bH ?_
 refine hK5 _ (aC (fun K14 hK14=>(aB (aE aA 4 rfl (iM hf [(E0,G0),(E1,G1)] [(E0,G0),(E1,G1)] rfl rfl rfl rfl rfl rfl (by decide) (by decide) (by decide) rfl kJ (mX (hP s e.user e.at') e.user (st0) hz2 hr3) ?_)))))
 rintro r m1 ⟨rfl,rfl⟩
 rw[lL]
 refine aU (cF (sl':=[(4,.ref 4 0 0 0),(7,.s (.int .i64 (0))),(112,.agg (eH (dZ (hP s e.user e.at') e.user (st0)) G0 G1))]) (m':=[(G0,.buf 2 ((dZ (hP s e.user e.at') e.user (st0)).usr.map usC)),(G1,.buf 2 ((dZ (hP s e.user e.at') e.user (st0)).tmb.map tmC)),(8,.box (stC (st0))),(4,.box [.s (.int .i64 0),.s (.int .i64 0),.s (.slice none 0 0),.s (.slice none 0 0),.s (.slice none 0 0),.s (.slice none 0 0)]),(2,.box [.s (.int .i64 ((hP s e.user e.at')).now),.s (.int .i64 ((hP s e.user e.at')).hor),.sl 4 (((hP s e.user e.at')).opn.map seC),.bad,.sl 4 (((hP s e.user e.at')).sub.map enC),.bad])]) ⟨rfl,rfl,rfl,trivial⟩ rfl) ?_
 refine aE aA 1 rfl (bB hf rfl rfl cP rfl rfl (l1 rfl) (l4 rfl) rfl (aE aA 1 rfl (aD (hK14 _ (aI ?_)))))
 exact⟨_,[(E0,G0),(E1,G1)],_,Le.refl _,by decide,rfl,rfl,⟨rfl,rfl⟩⟩
end Go.Proofs.YtpkanhklapfajaaGreat
set_option linter.unusedVariables false
set_option linter.unusedSimpArgs false
namespace Go.Proofs.YtpkanhklapfajaaGreat
open Go Go.Abs
theorem aI8 (e:Ev) (hu:TS e.user) (ho:TS e.other) :Den Tryz.prog 59 [.agg (evC e)]  (·=.s (.bool (cG e))):=by
 refine aR Tryz.func59 rfl (Nat.le_of_ble_eq_true rfl) (fun w0 A hf=>(aC (fun K1 hK1=>(aB (aJ hf rfl (cE rfl rfl (lf rfl)) (aE aA 1 rfl (aD (hK1 _ (aC (fun K2 hK2=>(aB (aE aA 4 rfl (aG rfl (bO rfl rL vC (l3 rfl) rfl) (bV hf rfl rfl rfl rL (bB hf rfl rfl gO rfl rfl (l1 rfl) (l4 rfl) rfl ?_)))))))))))))))
 refine aD (hK2 _ (aC (fun K3 hK3=>(aB (aE aA 2 rfl (aJ hf rfl (aO rfl rfl kK rfl (jT _ _ _)) (aE aA 1 rfl (aD (hK3 _ (aC (fun K4 hK4=>(aC (fun K5 hK5=>(aB (aE aA 2 rfl ?_)))))))))))))))
 refine aD (hK5 _ (aM (aC (fun K6 hK6=>(aM (aC (fun K7 hK7=>(aM (aC (fun K8 hK8=>(aM (aC (fun K9 hK9=>(aM (aC (fun K10 hK10=>(aM ?_)))))))))))))))))
 refine aC (fun K11 hK11=>(aM (aC (fun K12 hK12=>(aC (fun K13 hK13=>(aC (fun K14 hK14=>(aC (fun K15 hK15=>(aB (aE aA 2 rfl (aD (hK15 _ (dL rfl rfl (fun hc1=>?_) (fun hc1=>?_))))))))))))))))
 ·
  simp only[bs] at hc1
  refine aL (hK14 _ (bY rfl (aX (hK11 _ (aC (fun K16 hK16=>(aB (aE aA 3 rfl (bB hf rfl rfl cD rfl rfl (l1 rfl) (l4 rfl) rfl (aD (hK16 _ (aB (aE aA 2 rfl ?_)))))))))))))
  refine aW rfl rfl rfl (fun hg3=>?_) (fun hg3=>?_)
  ·
   simp only[bs] at hg3
   refine aG rfl (bW rfl aAy cD rfl) ?_
   refine aE aA 1 rfl (bE rfl rfl rfl (aJ hf rfl (aO rfl rfl kK rfl (jT _ _ _)) (aE aA 2 rfl ?_)))
   refine bH ?_
   refine hK10 _ (aC (fun K17 hK17=>(aB (aE aA 3 rfl (bB hf rfl rfl cD rfl rfl (l1 rfl) (l4 rfl) rfl (aD (hK17 _ (aB (aE aA 2 rfl (aW rfl rfl rfl (fun hg4=>?_) (fun hg4=>?_)))))))))))
   ·
    simp only[bs] at hg4
    refine aG rfl (bW rfl qH cD rfl) ?_
    refine aE aA 1 rfl (bE rfl rfl rfl (aJ hf rfl (aO rfl rfl kK rfl (jT _ _ _)) (aE aA 2 rfl ?_)))
    refine bH ?_
    refine hK9 _ (aC (fun K18 hK18=>(aC (fun K19 hK19=>(aB (aE aA 3 rfl (bB hf rfl rfl cO rfl rfl (l1 rfl) (l4 rfl) rfl (aD (hK19 _ (aB (aE aA 2 rfl (aW rfl rfl rfl (fun hg5=>?_) (fun hg5=>?_)))))))))))))
    ·
     simp only[bs] at hg5
     refine aG rfl (bW rfl eY cO rfl) ?_
     refine aE aA 1 rfl (bE rfl rfl rfl (aJ hf rfl (aO rfl rfl nY rfl (Nm.right_den e.user hu)) (aE aA 2 rfl (aD (hK18 _ (aX (hK4 _ (aC (fun K20 hK20=>(aB (aE aA 2 rfl (aW rfl rfl rfl (fun hg6=>?_) (fun hg6=>?_)))))))))))))
     ·
      refine aG rfl (bZ rfl iY gO rfl rfl rfl) ?_
      refine aE aA 1 rfl (bE rfl rfl rfl (aG rfl (jE rfl rfl iW rfl) (aE aA 2 rfl (aD (hK20 _ (aI ?_))))))
      refine⟨_,rfl,?_⟩
      refine aQ ?_
      rw[Bool.eq_iff_iff]
      simp only[cG,dW]
      (have hlt:e.at'<1099511627776:=(by omega); simp_all[toList_inj,bU,eq_comm (a:=(0:Int)) (b:=e.st),eq_comm (a:=(0:Int)) (b:=e.n)]; done)
     ·
      simp only[bs] at hg6
      refine aE aA 4 rfl (aD (hK20 _ (aI ?_)))
      refine⟨_,rfl,?_⟩
      refine aQ ?_
      rw[Bool.eq_iff_iff]
      simp only[cG,dW]
      (simp_all[toList_inj,bU]; done)
    ·
     simp only[bs] at hg5
     refine aE aA 4 rfl (aD (hK18 _ (aX (hK4 _ (aC (fun K21 hK21=>(aB (aE aA 7 rfl (aD (hK21 _ (aI ?_)))))))))))
     refine⟨_,rfl,?_⟩
     refine aQ ?_
     rw[Bool.eq_iff_iff]
     simp only[cG,dW]
     (simp_all[toList_inj,bU]; omega)
   ·
    simp only[bs] at hg4
    refine aE aA 4 rfl ?_
    refine bH ?_
    refine hK9 _ (aC (fun K22 hK22=>(aC (fun K23 hK23=>(aB (aE aA 3 rfl (bB hf rfl rfl cO rfl rfl (l1 rfl) (l4 rfl) rfl (aD (hK23 _ (aB (aE aA 7 rfl (aD (hK22 _ (aX ?_))))))))))))))
    refine hK4 _ (aC (fun K24 hK24=>(aB (aE aA 7 rfl (aD (hK24 _ (aI ?_)))))))
    refine⟨_,rfl,?_⟩
    refine aQ ?_
    rw[Bool.eq_iff_iff]
    simp only[cG,dW]
    (simp_all[toList_inj,bU]; done)
  ·
   simp only[bs] at hg3
   refine aE aA 4 rfl ?_
   refine bH ?_
   refine hK10 _ (aC (fun K25 hK25=>(aB (aE aA 3 rfl (bB hf rfl rfl cD rfl rfl (l1 rfl) (l4 rfl) rfl (aD (hK25 _ (aB (aE aA 7 rfl ?_)))))))))
   refine bH ?_
   refine hK9 _ (aC (fun K26 hK26=>(aC (fun K27 hK27=>(aB (aE aA 3 rfl (bB hf rfl rfl cO rfl rfl (l1 rfl) (l4 rfl) rfl (aD (hK27 _ (aB (aE aA 7 rfl (aD (hK26 _ (aX ?_))))))))))))))
   refine hK4 _ (aC (fun K28 hK28=>(aB (aE aA 7 rfl (aD (hK28 _ (aI ?_)))))))
   refine⟨_,rfl,?_⟩
   refine aQ ?_
   rw[Bool.eq_iff_iff]
   simp only[cG,dW]
   (simp_all[toList_inj,bU]; omega)
 ·
  simp only[bs] at hc1
  refine aB (aE aA 2 rfl (aD (hK14 _ (dL rfl rfl (fun hc7=>?_) (fun hc7=>?_)))))
  ·
   simp only[bs] at hc7
   refine aX (hK11 _ (aC (fun K29 hK29=>(aB (aE aA 3 rfl (bB hf rfl rfl cD rfl rfl (l1 rfl) (l4 rfl) rfl (aD (hK29 _ (aB (aE aA 2 rfl (aW rfl rfl rfl (fun hg8=>?_) (fun hg8=>?_))))))))))))
   ·
    simp only[bs] at hg8
    refine aG rfl (bW rfl aAy cD rfl) ?_
    refine aE aA 1 rfl (bE rfl rfl rfl (aJ hf rfl (aO rfl rfl kK rfl (jT _ _ _)) (aE aA 2 rfl ?_)))
    refine bH ?_
    refine hK10 _ (aC (fun K30 hK30=>(aB (aE aA 3 rfl (bB hf rfl rfl cD rfl rfl (l1 rfl) (l4 rfl) rfl (aD (hK30 _ (aB (aE aA 2 rfl (aW rfl rfl rfl (fun hg9=>?_) (fun hg9=>?_)))))))))))
    ·
     simp only[bs] at hg9
     refine aG rfl (bW rfl qH cD rfl) ?_
     refine aE aA 1 rfl (bE rfl rfl rfl (aJ hf rfl (aO rfl rfl kK rfl (jT _ _ _)) (aE aA 2 rfl ?_)))
     refine bH ?_
     refine hK9 _ (aC (fun K31 hK31=>(aC (fun K32 hK32=>(aB (aE aA 3 rfl (bB hf rfl rfl cO rfl rfl (l1 rfl) (l4 rfl) rfl (aD (hK32 _ (aB (aE aA 2 rfl (aW rfl rfl rfl (fun hg10=>?_) (fun hg10=>?_)))))))))))))
     ·
      simp only[bs] at hg10
      refine aG rfl (bW rfl eY cO rfl) ?_
      refine aE aA 1 rfl (bE rfl rfl rfl (aJ hf rfl (aO rfl rfl nY rfl (Nm.right_den e.user hu)) (aE aA 2 rfl (aD (hK31 _ (aX (hK4 _ (aC (fun K33 hK33=>(aB (aE aA 2 rfl (aW rfl rfl rfl (fun hg11=>?_) (fun hg11=>?_)))))))))))))
      ·
       refine aG rfl (bZ rfl iY gO rfl rfl rfl) ?_
       refine aE aA 1 rfl (bE rfl rfl rfl (aG rfl (jE rfl rfl iW rfl) (aE aA 2 rfl (aD (hK33 _ (aI ?_))))))
       refine⟨_,rfl,?_⟩
       refine aQ ?_
       rw[Bool.eq_iff_iff]
       simp only[cG,dW]
       (have hlt:e.at'<1099511627776:=(by omega); simp_all[toList_inj,bU,eq_comm (a:=(0:Int)) (b:=e.st),eq_comm (a:=(0:Int)) (b:=e.n)]; done)
      ·
       simp only[bs] at hg11
       refine aE aA 4 rfl (aD (hK33 _ (aI ?_)))
       refine⟨_,rfl,?_⟩
       refine aQ ?_
       rw[Bool.eq_iff_iff]
       simp only[cG,dW]
       (simp_all[toList_inj,bU]; done)
     ·
      simp only[bs] at hg10
      refine aE aA 4 rfl (aD (hK31 _ (aX (hK4 _ (aC (fun K34 hK34=>(aB (aE aA 7 rfl (aD (hK34 _ (aI ?_)))))))))))
      refine⟨_,rfl,?_⟩
      refine aQ ?_
      rw[Bool.eq_iff_iff]
      simp only[cG,dW]
      (simp_all[toList_inj,bU]; omega)
    ·
     simp only[bs] at hg9
     refine aE aA 4 rfl ?_
     refine bH ?_
     refine hK9 _ (aC (fun K35 hK35=>(aC (fun K36 hK36=>(aB (aE aA 3 rfl (bB hf rfl rfl cO rfl rfl (l1 rfl) (l4 rfl) rfl (aD (hK36 _ (aB (aE aA 7 rfl (aD (hK35 _ (aX ?_))))))))))))))
     refine hK4 _ (aC (fun K37 hK37=>(aB (aE aA 7 rfl (aD (hK37 _ (aI ?_)))))))
     refine⟨_,rfl,?_⟩
     refine aQ ?_
     rw[Bool.eq_iff_iff]
     simp only[cG,dW]
     (simp_all[toList_inj,bU]; done)
   ·
    simp only[bs] at hg8
    refine aE aA 4 rfl ?_
    refine bH ?_
    refine hK10 _ (aC (fun K38 hK38=>(aB (aE aA 3 rfl (bB hf rfl rfl cD rfl rfl (l1 rfl) (l4 rfl) rfl (aD (hK38 _ (aB (aE aA 7 rfl ?_)))))))))
    refine bH ?_
    refine hK9 _ (aC (fun K39 hK39=>(aC (fun K40 hK40=>(aB (aE aA 3 rfl (bB hf rfl rfl cO rfl rfl (l1 rfl) (l4 rfl) rfl (aD (hK40 _ (aB (aE aA 7 rfl (aD (hK39 _ (aX ?_))))))))))))))
    refine hK4 _ (aC (fun K41 hK41=>(aB (aE aA 7 rfl (aD (hK41 _ (aI ?_)))))))
    refine⟨_,rfl,?_⟩
    refine aQ ?_
    rw[Bool.eq_iff_iff]
    simp only[cG,dW]
    (simp_all[toList_inj,bU]; omega)
  ·
   simp only[bs] at hc7
   refine aL (hK13 _ (aC (fun K42 hK42=>(aC (fun K43 hK43=>(aB (aE aA 2 rfl (aD (hK43 _ (dL rfl rfl (fun hc12=>?_) (fun hc12=>?_)))))))))))
   ·
    simp only[bs] at hc12
    refine aX (hK10 _ (aC (fun K44 hK44=>(aB (aE aA 3 rfl (bB hf rfl rfl cD rfl rfl (l1 rfl) (l4 rfl) rfl (aD (hK44 _ (aB (aE aA 2 rfl (aW rfl rfl rfl (fun hg13=>?_) (fun hg13=>?_))))))))))))
    ·
     simp only[bs] at hg13
     refine aG rfl (bW rfl qH cD rfl) ?_
     refine aE aA 1 rfl (bE rfl rfl rfl (aJ hf rfl (aO rfl rfl kK rfl (jT _ _ _)) (aE aA 2 rfl ?_)))
     refine bH ?_
     refine hK9 _ (aC (fun K45 hK45=>(aC (fun K46 hK46=>(aB (aE aA 3 rfl (bB hf rfl rfl cO rfl rfl (l1 rfl) (l4 rfl) rfl (aD (hK46 _ (aB (aE aA 2 rfl (aW rfl rfl rfl (fun hg14=>?_) (fun hg14=>?_)))))))))))))
     ·
      simp only[bs] at hg14
      refine aG rfl (bW rfl eY cO rfl) ?_
      refine aE aA 1 rfl (bE rfl rfl rfl (aJ hf rfl (aO rfl rfl nY rfl (Nm.right_den e.user hu)) (aE aA 2 rfl (aD (hK45 _ (aX (hK4 _ (aC (fun K47 hK47=>(aB (aE aA 2 rfl (aW rfl rfl rfl (fun hg15=>?_) (fun hg15=>?_)))))))))))))
      ·
       refine aG rfl (bZ rfl iY gO rfl rfl rfl) ?_
       refine aE aA 1 rfl (bE rfl rfl rfl (aG rfl (jE rfl rfl iW rfl) (aE aA 2 rfl (aD (hK47 _ (aI ?_))))))
       refine⟨_,rfl,?_⟩
       refine aQ ?_
       rw[Bool.eq_iff_iff]
       simp only[cG,dW]
       (have hlt:e.at'<1099511627776:=(by omega); simp_all[toList_inj,bU,eq_comm (a:=(0:Int)) (b:=e.st),eq_comm (a:=(0:Int)) (b:=e.n)]; done)
      ·
       simp only[bs] at hg15
       refine aE aA 4 rfl (aD (hK47 _ (aI ?_)))
       refine⟨_,rfl,?_⟩
       refine aQ ?_
       rw[Bool.eq_iff_iff]
       simp only[cG,dW]
       (simp_all[toList_inj,bU]; done)
     ·
      simp only[bs] at hg14
      refine aE aA 4 rfl (aD (hK45 _ (aX (hK4 _ (aC (fun K48 hK48=>(aB (aE aA 7 rfl (aD (hK48 _ (aI ?_)))))))))))
      refine⟨_,rfl,?_⟩
      refine aQ ?_
      rw[Bool.eq_iff_iff]
      simp only[cG,dW]
      (simp_all[toList_inj,bU]; omega)
    ·
     simp only[bs] at hg13
     refine aE aA 4 rfl ?_
     refine bH ?_
     refine hK9 _ (aC (fun K49 hK49=>(aC (fun K50 hK50=>(aB (aE aA 3 rfl (bB hf rfl rfl cO rfl rfl (l1 rfl) (l4 rfl) rfl (aD (hK50 _ (aB (aE aA 7 rfl (aD (hK49 _ (aX ?_))))))))))))))
     refine hK4 _ (aC (fun K51 hK51=>(aB (aE aA 7 rfl (aD (hK51 _ (aI ?_)))))))
     refine⟨_,rfl,?_⟩
     refine aQ ?_
     rw[Bool.eq_iff_iff]
     simp only[cG,dW]
     (simp_all[toList_inj,bU]; omega)
   ·
    simp only[bs] at hc12
    refine aL (hK42 _ (aC (fun K52 hK52=>(aC (fun K53 hK53=>(aB (aE aA 2 rfl (aD (hK53 _ (dL rfl rfl (fun hc16=>?_) (fun hc16=>?_)))))))))))
    ·
     simp only[bs] at hc16
     refine aX (hK9 _ (aC (fun K54 hK54=>(aC (fun K55 hK55=>(aB (aE aA 3 rfl (bB hf rfl rfl cO rfl rfl (l1 rfl) (l4 rfl) rfl (aD (hK55 _ (aB (aE aA 2 rfl (aW rfl rfl rfl (fun hg17=>?_) (fun hg17=>?_))))))))))))))
     ·
      simp only[bs] at hg17
      refine aG rfl (bW rfl eY cO rfl) ?_
      refine aE aA 1 rfl (bE rfl rfl rfl (aJ hf rfl (aO rfl rfl nY rfl (Nm.right_den e.user hu)) (aE aA 2 rfl (aD (hK54 _ (aX (hK4 _ (aC (fun K56 hK56=>(aB (aE aA 2 rfl (aW rfl rfl rfl (fun hg18=>?_) (fun hg18=>?_)))))))))))))
      ·
       refine aG rfl (bZ rfl iY gO rfl rfl rfl) ?_
       refine aE aA 1 rfl (bE rfl rfl rfl (aG rfl (jE rfl rfl iW rfl) (aE aA 2 rfl (aD (hK56 _ (aI ?_))))))
       refine⟨_,rfl,?_⟩
       refine aQ ?_
       rw[Bool.eq_iff_iff]
       simp only[cG,dW]
       (have hlt:e.at'<1099511627776:=(by omega); simp_all[toList_inj,bU,eq_comm (a:=(0:Int)) (b:=e.st),eq_comm (a:=(0:Int)) (b:=e.n)]; done)
      ·
       simp only[bs] at hg18
       refine aE aA 4 rfl (aD (hK56 _ (aI ?_)))
       refine⟨_,rfl,?_⟩
       refine aQ ?_
       rw[Bool.eq_iff_iff]
       simp only[cG,dW]
       (simp_all[toList_inj,bU]; done)
     ·
      simp only[bs] at hg17
      refine aE aA 4 rfl (aD (hK54 _ (aX (hK4 _ (aC (fun K57 hK57=>(aB (aE aA 7 rfl (aD (hK57 _ (aI ?_)))))))))))
      refine⟨_,rfl,?_⟩
      refine aQ ?_
      rw[Bool.eq_iff_iff]
      simp only[cG,dW]
      (simp_all[toList_inj,bU]; omega)
    ·
     simp only[bs] at hc16
     refine aL (hK52 _ (aC (fun K58 hK58=>(aC (fun K59 hK59=>(aC (fun K60 hK60=>(aB (aE aA 2 rfl (aD (hK60 _ (dL rfl rfl (fun hc19=>?_) (fun hc19=>?_)))))))))))))
     ·
      simp only[bs] at hc19
      refine aL (hK59 _ (bY rfl (aX (hK8 _ (aC (fun K61 hK61=>(aC (fun K62 hK62=>(fJ bF ?_)))))))))
      refine bQ (listed':=#[true,false,false,false,false,false,false,false]) 0 rfl (by kernel_rfl) (by kernel_rfl) (by kernel_rfl) rfl (fun _ _ h=>h) (kN rfl eY cO rfl) ?_
      refine bQ (listed':=#[true,false,true,false,false,false,false,false]) 2 rfl (by kernel_rfl) (by kernel_rfl) (by kernel_rfl) rfl (fun _ _ h=>h) (kN rfl aAz cO rfl) ?_
      refine mL (cM [1,3,4,54,56] rfl) (aH 1 [3] (by kernel_rfl) ⟨?_,?_,trivial⟩)
      ·
       refine⟨_,rfl,rfl,(ao rfl (aE aA 1 rfl (aF (aH 3 [4] (by kernel_rfl) ⟨?_,?_,trivial⟩))))⟩
       ·
        refine⟨_,rfl,rfl,(ao rfl (aE aA 1 rfl (aF (aH 4 [] (by kernel_rfl) ⟨?_,trivial⟩))))⟩
        ·
         refine⟨_,rfl,rfl,(ao rfl (aE aA 1 rfl (aF (aH 5 [] (by kernel_rfl) ⟨?_,trivial⟩))))⟩
         ·
          refine⟨_,rfl,rfl,(ao rfl (bB hf rfl rfl cO rfl rfl (l1 rfl) (l4 rfl) rfl (aF (aH 6 [] (by kernel_rfl) ⟨?_,trivial⟩))))⟩
          ·
           refine⟨_,rfl,rfl,(ao rfl (aE aA 1 rfl (aF (aH 7 [] (by kernel_rfl) ⟨?_,trivial⟩))))⟩
           ·
            refine⟨_,rfl,rfl,(ao rfl (bB hf rfl rfl cO rfl rfl (l1 rfl) (l4 rfl) rfl (aF (bS (by kernel_rfl) ?_))))⟩
            refine hK62 _ (aB (aE aA 2 rfl (aW rfl rfl rfl (fun hg21=>?_) (fun hg21=>?_))))
            ·
             simp only[bs] at hg21
             refine aG rfl (bW rfl eY cO rfl) ?_
             refine aE aA 3 rfl (bE rfl rfl rfl (aJ hf rfl (aP jJ rfl rfl rfl rfl (l2 rfl)) (bE rfl rfl rfl (aJ hf rfl (aO rfl rfl iG rfl (Nm.all_den [e.user,e.other] (by refine⟨by simp,fun x hx=>?_⟩; simp at hx; rcases hx with rfl | rfl <;> assumption))) ?_))))
             refine aE aA 2 rfl (aD (hK61 _ (aX (hK4 _ (aC (fun K63 hK63=>(aB (aE aA 2 rfl (aW rfl rfl rfl (fun hg22=>?_) (fun hg22=>?_))))))))))
             ·
              refine aG rfl (bZ rfl iY gO rfl rfl rfl) ?_
              refine aE aA 1 rfl (bE rfl rfl rfl (aG rfl (jE rfl rfl iW rfl) (aE aA 2 rfl (aD (hK63 _ (aI ?_))))))
              refine⟨_,rfl,?_⟩
              refine aQ ?_
              rw[Bool.eq_iff_iff]
              simp only[cG,dW]
              (have hlt:e.at'<1099511627776:=(by omega); simp_all[toList_inj,bU,eq_comm (a:=(0:Int)) (b:=e.st),eq_comm (a:=(0:Int)) (b:=e.n)]; done)
             ·
              simp only[bs] at hg22
              refine aE aA 4 rfl (aD (hK63 _ (aI ?_)))
              refine⟨_,rfl,?_⟩
              refine aQ ?_
              rw[Bool.eq_iff_iff]
              simp only[cG,dW]
              (simp_all[toList_inj,bU]; done)
            ·
             simp only[bs] at hg21
             refine aE aA 7 rfl (aD (hK61 _ (aX (hK4 _ (aC (fun K64 hK64=>(aB (aE aA 7 rfl (aD (hK64 _ (aI ?_)))))))))))
             refine⟨_,rfl,?_⟩
             refine aQ ?_
             rw[Bool.eq_iff_iff]
             simp only[cG,dW]
             (simp_all[toList_inj,bU]; omega)
       ·
        refine⟨_,rfl,rfl,(ao rfl (aE aA 1 rfl (aF (aH 3 [5] (by kernel_rfl) ⟨?_,?_,trivial⟩))))⟩
        ·
         refine⟨_,rfl,rfl,(ao rfl (aE aA 1 rfl (aF (aH 5 [] (by kernel_rfl) ⟨?_,trivial⟩))))⟩
         ·
          refine⟨_,rfl,rfl,(ao rfl (bB hf rfl rfl cO rfl rfl (l1 rfl) (l4 rfl) rfl (aF (aH 6 [] (by kernel_rfl) ⟨?_,trivial⟩))))⟩
          ·
           refine⟨_,rfl,rfl,(ao rfl (aE aA 1 rfl (aF (aH 7 [] (by kernel_rfl) ⟨?_,trivial⟩))))⟩
           ·
            refine⟨_,rfl,rfl,(ao rfl (bB hf rfl rfl cO rfl rfl (l1 rfl) (l4 rfl) rfl (aF (bS (by kernel_rfl) ?_))))⟩
            refine hK62 _ (aB (aE aA 2 rfl (aW rfl rfl rfl (fun hg23=>?_) (fun hg23=>?_))))
            ·
             simp only[bs] at hg23
             refine aG rfl (bW rfl eY cO rfl) ?_
             refine aE aA 3 rfl (bE rfl rfl rfl (aJ hf rfl (aP jJ rfl rfl rfl rfl (l2 rfl)) (bE rfl rfl rfl (aJ hf rfl (aO rfl rfl iG rfl (Nm.all_den [e.user,e.other] (by refine⟨by simp,fun x hx=>?_⟩; simp at hx; rcases hx with rfl | rfl <;> assumption))) ?_))))
             refine aE aA 2 rfl (aD (hK61 _ (aX (hK4 _ (aC (fun K65 hK65=>(aB (aE aA 2 rfl (aW rfl rfl rfl (fun hg24=>?_) (fun hg24=>?_))))))))))
             ·
              refine aG rfl (bZ rfl iY gO rfl rfl rfl) ?_
              refine aE aA 1 rfl (bE rfl rfl rfl (aG rfl (jE rfl rfl iW rfl) (aE aA 2 rfl (aD (hK65 _ (aI ?_))))))
              refine⟨_,rfl,?_⟩
              refine aQ ?_
              rw[Bool.eq_iff_iff]
              simp only[cG,dW]
              (have hlt:e.at'<1099511627776:=(by omega); simp_all[toList_inj,bU,eq_comm (a:=(0:Int)) (b:=e.st),eq_comm (a:=(0:Int)) (b:=e.n)]; done)
             ·
              simp only[bs] at hg24
              refine aE aA 4 rfl (aD (hK65 _ (aI ?_)))
              refine⟨_,rfl,?_⟩
              refine aQ ?_
              rw[Bool.eq_iff_iff]
              simp only[cG,dW]
              (simp_all[toList_inj,bU]; done)
            ·
             simp only[bs] at hg23
             refine aE aA 7 rfl (aD (hK61 _ (aX (hK4 _ (aC (fun K66 hK66=>(aB (aE aA 7 rfl (aD (hK66 _ (aI ?_)))))))))))
             refine⟨_,rfl,?_⟩
             refine aQ ?_
             rw[Bool.eq_iff_iff]
             simp only[cG,dW]
             (simp_all[toList_inj,bU]; omega)
        ·
         refine⟨_,rfl,rfl,(ao rfl (bB hf rfl rfl cO rfl rfl (l1 rfl) (l4 rfl) rfl (aF (aH 3 [] (by kernel_rfl) ⟨?_,trivial⟩))))⟩
         ·
          refine⟨_,rfl,rfl,(ao rfl (aE aA 1 rfl (aF (aH 6 [] (by kernel_rfl) ⟨?_,trivial⟩))))⟩
          ·
           refine⟨_,rfl,rfl,(ao rfl (aE aA 1 rfl (aF (aH 7 [] (by kernel_rfl) ⟨?_,trivial⟩))))⟩
           ·
            refine⟨_,rfl,rfl,(ao rfl (bB hf rfl rfl cO rfl rfl (l1 rfl) (l4 rfl) rfl (aF (bS (by kernel_rfl) ?_))))⟩
            refine hK62 _ (aB (aE aA 2 rfl (aW rfl rfl rfl (fun hg25=>?_) (fun hg25=>?_))))
            ·
             simp only[bs] at hg25
             refine aG rfl (bW rfl eY cO rfl) ?_
             refine aE aA 3 rfl (bE rfl rfl rfl (aJ hf rfl (aP jJ rfl rfl rfl rfl (l2 rfl)) (bE rfl rfl rfl (aJ hf rfl (aO rfl rfl iG rfl (Nm.all_den [e.user,e.other] (by refine⟨by simp,fun x hx=>?_⟩; simp at hx; rcases hx with rfl | rfl <;> assumption))) ?_))))
             refine aE aA 2 rfl (aD (hK61 _ (aX (hK4 _ (aC (fun K67 hK67=>(aB (aE aA 2 rfl (aW rfl rfl rfl (fun hg26=>?_) (fun hg26=>?_))))))))))
             ·
              refine aG rfl (bZ rfl iY gO rfl rfl rfl) ?_
              refine aE aA 1 rfl (bE rfl rfl rfl (aG rfl (jE rfl rfl iW rfl) (aE aA 2 rfl (aD (hK67 _ (aI ?_))))))
              refine⟨_,rfl,?_⟩
              refine aQ ?_
              rw[Bool.eq_iff_iff]
              simp only[cG,dW]
              (have hlt:e.at'<1099511627776:=(by omega); simp_all[toList_inj,bU,eq_comm (a:=(0:Int)) (b:=e.st),eq_comm (a:=(0:Int)) (b:=e.n)]; done)
             ·
              simp only[bs] at hg26
              refine aE aA 4 rfl (aD (hK67 _ (aI ?_)))
              refine⟨_,rfl,?_⟩
              refine aQ ?_
              rw[Bool.eq_iff_iff]
              simp only[cG,dW]
              (simp_all[toList_inj,bU]; done)
            ·
             simp only[bs] at hg25
             refine aE aA 7 rfl (aD (hK61 _ (aX (hK4 _ (aC (fun K68 hK68=>(aB (aE aA 7 rfl (aD (hK68 _ (aI ?_)))))))))))
             refine⟨_,rfl,?_⟩
             refine aQ ?_
             rw[Bool.eq_iff_iff]
             simp only[cG,dW]
             (simp_all[toList_inj,bU]; omega)
      ·
       refine⟨_,rfl,rfl,(ao rfl (aE aA 1 rfl (aF (aH 1 [] (by kernel_rfl) ⟨?_,trivial⟩))))⟩
       ·
        refine⟨_,rfl,rfl,(ao rfl (aE aA 1 rfl (aF (aH 4 [] (by kernel_rfl) ⟨?_,trivial⟩))))⟩
        ·
         refine⟨_,rfl,rfl,(ao rfl (aE aA 1 rfl (aF (aH 5 [] (by kernel_rfl) ⟨?_,trivial⟩))))⟩
         ·
          refine⟨_,rfl,rfl,(ao rfl (bB hf rfl rfl cO rfl rfl (l1 rfl) (l4 rfl) rfl (aF (aH 6 [] (by kernel_rfl) ⟨?_,trivial⟩))))⟩
          ·
           refine⟨_,rfl,rfl,(ao rfl (aE aA 1 rfl (aF (aH 7 [] (by kernel_rfl) ⟨?_,trivial⟩))))⟩
           ·
            refine⟨_,rfl,rfl,(ao rfl (bB hf rfl rfl cO rfl rfl (l1 rfl) (l4 rfl) rfl (aF (bS (by kernel_rfl) ?_))))⟩
            refine hK62 _ (aB (aE aA 2 rfl (aW rfl rfl rfl (fun hg27=>?_) (fun hg27=>?_))))
            ·
             simp only[bs] at hg27
             refine aG rfl (bW rfl eY cO rfl) ?_
             refine aE aA 3 rfl (bE rfl rfl rfl (aJ hf rfl (aP jJ rfl rfl rfl rfl (l2 rfl)) (bE rfl rfl rfl (aJ hf rfl (aO rfl rfl iG rfl (Nm.all_den [e.user,e.other] (by refine⟨by simp,fun x hx=>?_⟩; simp at hx; rcases hx with rfl | rfl <;> assumption))) ?_))))
             refine aE aA 2 rfl (aD (hK61 _ (aX (hK4 _ (aC (fun K69 hK69=>(aB (aE aA 2 rfl (aW rfl rfl rfl (fun hg28=>?_) (fun hg28=>?_))))))))))
             ·
              refine aG rfl (bZ rfl iY gO rfl rfl rfl) ?_
              refine aE aA 1 rfl (bE rfl rfl rfl (aG rfl (jE rfl rfl iW rfl) (aE aA 2 rfl (aD (hK69 _ (aI ?_))))))
              refine⟨_,rfl,?_⟩
              refine aQ ?_
              rw[Bool.eq_iff_iff]
              simp only[cG,dW]
              (have hlt:e.at'<1099511627776:=(by omega); simp_all[toList_inj,bU,eq_comm (a:=(0:Int)) (b:=e.st),eq_comm (a:=(0:Int)) (b:=e.n)]; done)
             ·
              simp only[bs] at hg28
              refine aE aA 4 rfl (aD (hK69 _ (aI ?_)))
              refine⟨_,rfl,?_⟩
              refine aQ ?_
              rw[Bool.eq_iff_iff]
              simp only[cG,dW]
              (simp_all[toList_inj,bU]; done)
            ·
             simp only[bs] at hg27
             refine aE aA 7 rfl (aD (hK61 _ (aX (hK4 _ (aC (fun K70 hK70=>(aB (aE aA 7 rfl (aD (hK70 _ (aI ?_)))))))))))
             refine⟨_,rfl,?_⟩
             refine aQ ?_
             rw[Bool.eq_iff_iff]
             simp only[cG,dW]
             (simp_all[toList_inj,bU]; omega)
     ·
      simp only[bs] at hc19
      refine aB (aE aA 2 rfl (aD (hK59 _ (dL rfl rfl (fun hc29=>?_) (fun hc29=>?_)))))
      ·
       simp only[bs] at hc29
       refine aX (hK8 _ (aC (fun K71 hK71=>(aC (fun K72 hK72=>(fJ bF ?_))))))
       refine bQ (listed':=#[true,false,false,false,false,false,false,false]) 0 rfl (by kernel_rfl) (by kernel_rfl) (by kernel_rfl) rfl (fun _ _ h=>h) (kN rfl eY cO rfl) ?_
       refine bQ (listed':=#[true,false,true,false,false,false,false,false]) 2 rfl (by kernel_rfl) (by kernel_rfl) (by kernel_rfl) rfl (fun _ _ h=>h) (kN rfl aAz cO rfl) ?_
       refine mL (cM [1,3,4,54,56] rfl) (aH 1 [3] (by kernel_rfl) ⟨?_,?_,trivial⟩)
       ·
        refine⟨_,rfl,rfl,(ao rfl (aE aA 1 rfl (aF (aH 3 [4] (by kernel_rfl) ⟨?_,?_,trivial⟩))))⟩
        ·
         refine⟨_,rfl,rfl,(ao rfl (aE aA 1 rfl (aF (aH 4 [] (by kernel_rfl) ⟨?_,trivial⟩))))⟩
         ·
          refine⟨_,rfl,rfl,(ao rfl (aE aA 1 rfl (aF (aH 5 [] (by kernel_rfl) ⟨?_,trivial⟩))))⟩
          ·
           refine⟨_,rfl,rfl,(ao rfl (bB hf rfl rfl cO rfl rfl (l1 rfl) (l4 rfl) rfl (aF (aH 6 [] (by kernel_rfl) ⟨?_,trivial⟩))))⟩
           ·
            refine⟨_,rfl,rfl,(ao rfl (aE aA 1 rfl (aF (aH 7 [] (by kernel_rfl) ⟨?_,trivial⟩))))⟩
            ·
             refine⟨_,rfl,rfl,(ao rfl (bB hf rfl rfl cO rfl rfl (l1 rfl) (l4 rfl) rfl (aF (bS (by kernel_rfl) ?_))))⟩
             refine hK72 _ (aB (aE aA 2 rfl (aW rfl rfl rfl (fun hg30=>?_) (fun hg30=>?_))))
             ·
              simp only[bs] at hg30
              refine aG rfl (bW rfl eY cO rfl) ?_
              refine aE aA 3 rfl (bE rfl rfl rfl (aJ hf rfl (aP jJ rfl rfl rfl rfl (l2 rfl)) (bE rfl rfl rfl (aJ hf rfl (aO rfl rfl iG rfl (Nm.all_den [e.user,e.other] (by refine⟨by simp,fun x hx=>?_⟩; simp at hx; rcases hx with rfl | rfl <;> assumption))) ?_))))
              refine aE aA 2 rfl (aD (hK71 _ (aX (hK4 _ (aC (fun K73 hK73=>(aB (aE aA 2 rfl (aW rfl rfl rfl (fun hg31=>?_) (fun hg31=>?_))))))))))
              ·
               refine aG rfl (bZ rfl iY gO rfl rfl rfl) ?_
               refine aE aA 1 rfl (bE rfl rfl rfl (aG rfl (jE rfl rfl iW rfl) (aE aA 2 rfl (aD (hK73 _ (aI ?_))))))
               refine⟨_,rfl,?_⟩
               refine aQ ?_
               rw[Bool.eq_iff_iff]
               simp only[cG,dW]
               (have hlt:e.at'<1099511627776:=(by omega); simp_all[toList_inj,bU,eq_comm (a:=(0:Int)) (b:=e.st),eq_comm (a:=(0:Int)) (b:=e.n)]; done)
              ·
               simp only[bs] at hg31
               refine aE aA 4 rfl (aD (hK73 _ (aI ?_)))
               refine⟨_,rfl,?_⟩
               refine aQ ?_
               rw[Bool.eq_iff_iff]
               simp only[cG,dW]
               (simp_all[toList_inj,bU]; done)
             ·
              simp only[bs] at hg30
              refine aE aA 7 rfl (aD (hK71 _ (aX (hK4 _ (aC (fun K74 hK74=>(aB (aE aA 7 rfl (aD (hK74 _ (aI ?_)))))))))))
              refine⟨_,rfl,?_⟩
              refine aQ ?_
              rw[Bool.eq_iff_iff]
              simp only[cG,dW]
              (simp_all[toList_inj,bU]; omega)
        ·
         refine⟨_,rfl,rfl,(ao rfl (aE aA 1 rfl (aF (aH 3 [5] (by kernel_rfl) ⟨?_,?_,trivial⟩))))⟩
         ·
          refine⟨_,rfl,rfl,(ao rfl (aE aA 1 rfl (aF (aH 5 [] (by kernel_rfl) ⟨?_,trivial⟩))))⟩
          ·
           refine⟨_,rfl,rfl,(ao rfl (bB hf rfl rfl cO rfl rfl (l1 rfl) (l4 rfl) rfl (aF (aH 6 [] (by kernel_rfl) ⟨?_,trivial⟩))))⟩
           ·
            refine⟨_,rfl,rfl,(ao rfl (aE aA 1 rfl (aF (aH 7 [] (by kernel_rfl) ⟨?_,trivial⟩))))⟩
            ·
             refine⟨_,rfl,rfl,(ao rfl (bB hf rfl rfl cO rfl rfl (l1 rfl) (l4 rfl) rfl (aF (bS (by kernel_rfl) ?_))))⟩
             refine hK72 _ (aB (aE aA 2 rfl (aW rfl rfl rfl (fun hg32=>?_) (fun hg32=>?_))))
             ·
              simp only[bs] at hg32
              refine aG rfl (bW rfl eY cO rfl) ?_
              refine aE aA 3 rfl (bE rfl rfl rfl (aJ hf rfl (aP jJ rfl rfl rfl rfl (l2 rfl)) (bE rfl rfl rfl (aJ hf rfl (aO rfl rfl iG rfl (Nm.all_den [e.user,e.other] (by refine⟨by simp,fun x hx=>?_⟩; simp at hx; rcases hx with rfl | rfl <;> assumption))) ?_))))
              refine aE aA 2 rfl (aD (hK71 _ (aX (hK4 _ (aC (fun K75 hK75=>(aB (aE aA 2 rfl (aW rfl rfl rfl (fun hg33=>?_) (fun hg33=>?_))))))))))
              ·
               refine aG rfl (bZ rfl iY gO rfl rfl rfl) ?_
               refine aE aA 1 rfl (bE rfl rfl rfl (aG rfl (jE rfl rfl iW rfl) (aE aA 2 rfl (aD (hK75 _ (aI ?_))))))
               refine⟨_,rfl,?_⟩
               refine aQ ?_
               rw[Bool.eq_iff_iff]
               simp only[cG,dW]
               (have hlt:e.at'<1099511627776:=(by omega); simp_all[toList_inj,bU,eq_comm (a:=(0:Int)) (b:=e.st),eq_comm (a:=(0:Int)) (b:=e.n)]; done)
              ·
               simp only[bs] at hg33
               refine aE aA 4 rfl (aD (hK75 _ (aI ?_)))
               refine⟨_,rfl,?_⟩
               refine aQ ?_
               rw[Bool.eq_iff_iff]
               simp only[cG,dW]
               (simp_all[toList_inj,bU]; done)
             ·
              simp only[bs] at hg32
              refine aE aA 7 rfl (aD (hK71 _ (aX (hK4 _ (aC (fun K76 hK76=>(aB (aE aA 7 rfl (aD (hK76 _ (aI ?_)))))))))))
              refine⟨_,rfl,?_⟩
              refine aQ ?_
              rw[Bool.eq_iff_iff]
              simp only[cG,dW]
              (simp_all[toList_inj,bU]; omega)
         ·
          refine⟨_,rfl,rfl,(ao rfl (bB hf rfl rfl cO rfl rfl (l1 rfl) (l4 rfl) rfl (aF (aH 3 [] (by kernel_rfl) ⟨?_,trivial⟩))))⟩
          ·
           refine⟨_,rfl,rfl,(ao rfl (aE aA 1 rfl (aF (aH 6 [] (by kernel_rfl) ⟨?_,trivial⟩))))⟩
           ·
            refine⟨_,rfl,rfl,(ao rfl (aE aA 1 rfl (aF (aH 7 [] (by kernel_rfl) ⟨?_,trivial⟩))))⟩
            ·
             refine⟨_,rfl,rfl,(ao rfl (bB hf rfl rfl cO rfl rfl (l1 rfl) (l4 rfl) rfl (aF (bS (by kernel_rfl) ?_))))⟩
             refine hK72 _ (aB (aE aA 2 rfl (aW rfl rfl rfl (fun hg34=>?_) (fun hg34=>?_))))
             ·
              simp only[bs] at hg34
              refine aG rfl (bW rfl eY cO rfl) ?_
              refine aE aA 3 rfl (bE rfl rfl rfl (aJ hf rfl (aP jJ rfl rfl rfl rfl (l2 rfl)) (bE rfl rfl rfl (aJ hf rfl (aO rfl rfl iG rfl (Nm.all_den [e.user,e.other] (by refine⟨by simp,fun x hx=>?_⟩; simp at hx; rcases hx with rfl | rfl <;> assumption))) ?_))))
              refine aE aA 2 rfl (aD (hK71 _ (aX (hK4 _ (aC (fun K77 hK77=>(aB (aE aA 2 rfl (aW rfl rfl rfl (fun hg35=>?_) (fun hg35=>?_))))))))))
              ·
               refine aG rfl (bZ rfl iY gO rfl rfl rfl) ?_
               refine aE aA 1 rfl (bE rfl rfl rfl (aG rfl (jE rfl rfl iW rfl) (aE aA 2 rfl (aD (hK77 _ (aI ?_))))))
               refine⟨_,rfl,?_⟩
               refine aQ ?_
               rw[Bool.eq_iff_iff]
               simp only[cG,dW]
               (have hlt:e.at'<1099511627776:=(by omega); simp_all[toList_inj,bU,eq_comm (a:=(0:Int)) (b:=e.st),eq_comm (a:=(0:Int)) (b:=e.n)]; done)
              ·
               simp only[bs] at hg35
               refine aE aA 4 rfl (aD (hK77 _ (aI ?_)))
               refine⟨_,rfl,?_⟩
               refine aQ ?_
               rw[Bool.eq_iff_iff]
               simp only[cG,dW]
               (simp_all[toList_inj,bU]; done)
             ·
              simp only[bs] at hg34
              refine aE aA 7 rfl (aD (hK71 _ (aX (hK4 _ (aC (fun K78 hK78=>(aB (aE aA 7 rfl (aD (hK78 _ (aI ?_)))))))))))
              refine⟨_,rfl,?_⟩
              refine aQ ?_
              rw[Bool.eq_iff_iff]
              simp only[cG,dW]
              (simp_all[toList_inj,bU]; omega)
       ·
        refine⟨_,rfl,rfl,(ao rfl (aE aA 1 rfl (aF (aH 1 [] (by kernel_rfl) ⟨?_,trivial⟩))))⟩
        ·
         refine⟨_,rfl,rfl,(ao rfl (aE aA 1 rfl (aF (aH 4 [] (by kernel_rfl) ⟨?_,trivial⟩))))⟩
         ·
          refine⟨_,rfl,rfl,(ao rfl (aE aA 1 rfl (aF (aH 5 [] (by kernel_rfl) ⟨?_,trivial⟩))))⟩
          ·
           refine⟨_,rfl,rfl,(ao rfl (bB hf rfl rfl cO rfl rfl (l1 rfl) (l4 rfl) rfl (aF (aH 6 [] (by kernel_rfl) ⟨?_,trivial⟩))))⟩
           ·
            refine⟨_,rfl,rfl,(ao rfl (aE aA 1 rfl (aF (aH 7 [] (by kernel_rfl) ⟨?_,trivial⟩))))⟩
            ·
             refine⟨_,rfl,rfl,(ao rfl (bB hf rfl rfl cO rfl rfl (l1 rfl) (l4 rfl) rfl (aF (bS (by kernel_rfl) ?_))))⟩
             refine hK72 _ (aB (aE aA 2 rfl (aW rfl rfl rfl (fun hg36=>?_) (fun hg36=>?_))))
             ·
              simp only[bs] at hg36
              refine aG rfl (bW rfl eY cO rfl) ?_
              refine aE aA 3 rfl (bE rfl rfl rfl (aJ hf rfl (aP jJ rfl rfl rfl rfl (l2 rfl)) (bE rfl rfl rfl (aJ hf rfl (aO rfl rfl iG rfl (Nm.all_den [e.user,e.other] (by refine⟨by simp,fun x hx=>?_⟩; simp at hx; rcases hx with rfl | rfl <;> assumption))) ?_))))
              refine aE aA 2 rfl (aD (hK71 _ (aX (hK4 _ (aC (fun K79 hK79=>(aB (aE aA 2 rfl (aW rfl rfl rfl (fun hg37=>?_) (fun hg37=>?_))))))))))
              ·
               refine aG rfl (bZ rfl iY gO rfl rfl rfl) ?_
               refine aE aA 1 rfl (bE rfl rfl rfl (aG rfl (jE rfl rfl iW rfl) (aE aA 2 rfl (aD (hK79 _ (aI ?_))))))
               refine⟨_,rfl,?_⟩
               refine aQ ?_
               rw[Bool.eq_iff_iff]
               simp only[cG,dW]
               (have hlt:e.at'<1099511627776:=(by omega); simp_all[toList_inj,bU,eq_comm (a:=(0:Int)) (b:=e.st),eq_comm (a:=(0:Int)) (b:=e.n)]; done)
              ·
               simp only[bs] at hg37
               refine aE aA 4 rfl (aD (hK79 _ (aI ?_)))
               refine⟨_,rfl,?_⟩
               refine aQ ?_
               rw[Bool.eq_iff_iff]
               simp only[cG,dW]
               (simp_all[toList_inj,bU]; done)
             ·
              simp only[bs] at hg36
              refine aE aA 7 rfl (aD (hK71 _ (aX (hK4 _ (aC (fun K80 hK80=>(aB (aE aA 7 rfl (aD (hK80 _ (aI ?_)))))))))))
              refine⟨_,rfl,?_⟩
              refine aQ ?_
              rw[Bool.eq_iff_iff]
              simp only[cG,dW]
              (simp_all[toList_inj,bU]; omega)
      ·
       simp only[bs] at hc29
       refine aL (hK58 _ (aC (fun K81 hK81=>(aB (aE aA 2 rfl (aD (hK81 _ (dL rfl rfl (fun hc38=>?_) (fun hc38=>?_)))))))))
       ·
        simp only[bs] at hc38
        refine aX (hK7 _ (aC (fun K82 hK82=>(aC (fun K83 hK83=>(aB (aE aA 3 rfl (bB hf rfl rfl cD rfl rfl (l1 rfl) (l4 rfl) rfl (aD (hK83 _ (aB (aE aA 2 rfl (aW rfl rfl rfl (fun hg39=>?_) (fun hg39=>?_))))))))))))))
        ·
         simp only[bs] at hg39
         refine aG rfl (bW rfl qH cD rfl) ?_
         refine aE aA 1 rfl (bE rfl rfl rfl (aJ hf rfl (aO rfl rfl kK rfl (jT _ _ _)) (aE aA 2 rfl (aD (hK82 _ (aX (hK4 _ (aC (fun K84 hK84=>(aB (aE aA 2 rfl (aW rfl rfl rfl (fun hg40=>?_) (fun hg40=>?_)))))))))))))
         ·
          simp only[bs] at hg40
          refine aG rfl (bZ rfl iY gO rfl rfl rfl) ?_
          refine aE aA 1 rfl (bE rfl rfl rfl (aG rfl (jE rfl rfl iW rfl) (aE aA 2 rfl (aD (hK84 _ (aI ?_))))))
          refine⟨_,rfl,?_⟩
          refine aQ ?_
          rw[Bool.eq_iff_iff]
          simp only[cG,dW]
          (have hlt:e.at'<1099511627776:=(by omega); have hln:e.n<1099511627776:=(by omega); simp_all[toList_inj,bU,eq_comm (a:=(0:Int)) (b:=e.st),eq_comm (a:=(0:Int)) (b:=e.n)]; done)
         ·
          simp only[bs] at hg40
          refine aE aA 4 rfl (aD (hK84 _ (aI ?_)))
          refine⟨_,rfl,?_⟩
          refine aQ ?_
          rw[Bool.eq_iff_iff]
          simp only[cG,dW]
          (simp_all[toList_inj,bU]; omega)
        ·
         simp only[bs] at hg39
         refine aE aA 4 rfl (aD (hK82 _ (aX (hK4 _ (aC (fun K85 hK85=>(aB (aE aA 7 rfl (aD (hK85 _ (aI ?_)))))))))))
         refine⟨_,rfl,?_⟩
         refine aQ ?_
         rw[Bool.eq_iff_iff]
         simp only[cG,dW]
         (simp_all[toList_inj,bU]; omega)
       ·
        simp only[bs] at hc38
        refine aL (hK12 _ (aX (hK6 _ (aC (fun K86 hK86=>(aC (fun K87 hK87=>(aB (aE aA 1 rfl (aD (hK87 _ (aI ?_))))))))))))
        refine⟨_,rfl,?_⟩
        refine aQ ?_
        rw[Bool.eq_iff_iff]
        simp only[cG,dW]
        (simp_all[toList_inj,bU]; done)
end Go.Proofs.YtpkanhklapfajaaGreat
set_option linter.unusedVariables false
set_option linter.unusedSimpArgs false
namespace Go.Proofs.YtpkanhklapfajaaGreat
open Go Go.Abs
theorem aKj (s:Sta) (e:Ev) (hz:SzS 140737488355100 s) (hr:dI cW s.usr) (hr2:dI eO s.tmb) (he:cG e=true):DenX Tryz.prog 60 [.agg (eH s E0 E1),.agg (evC e)] [(E0,.buf 2 (s.usr.map usC)),(E1,.buf 2 (s.tmb.map tmC))] (fun r m=>r=.tup [.agg (eH (bN s e).1 E0 E1),.s (.int .i64 (bN s e).2)]∧m=[(E0,.buf 2 ((bN s e).1.usr.map usC)),(E1,.buf 2 ((bN s e).1.tmb.map tmC))]):=by
  rcases aD4 he with ⟨hk,_⟩ | ⟨hk,_⟩ | ⟨hk,_⟩ | ⟨hk,_⟩ | ⟨hk,_⟩ | ⟨hk,_⟩ | ⟨hk,_⟩
  · exact aR4 s e hz hr hr2 hk
  · exact aR3 s e hz hr hr2 hk
  · exact aR2 s e hz hr hr2 hk
  · exact aR1 s e hz hr hr2 hk
  · exact aR0 s e hz hr hr2 hk
  · exact aRz s e hz hr hr2 hk
  · exact aRy s e hz hr hr2 hk
theorem sY:∀ (w:World) (p:Hp) (v:Value),RelV w p (.agg [.s (.int .i64 0),.s (.int .i64 0),.s (.slice none 0 0),.s (.slice none 0 0),.s (.slice none 0 0),.s (.slice none 0 0)]) v→RelV w p (.agg (bJ rW)) v:=by
  intro w p v h
  cases h with
  | agg _ vs hl h =>
    refine .agg _ _ hl fun i c v hc hv=>?_
    match i,hc with
    | 0,hc=>cases hc; exact h 0 _ v rfl hv
    | 1,hc=>cases hc; exact h 1 _ v rfl hv
    | 2,hc=>cases hc; have:=h 2 _ v rfl hv; cases this; exact .sln 4 none 0 (by simp [maxLen])
    | 3,hc=>cases hc; have:=h 3 _ v rfl hv; cases this; exact .sln 2 none 0 (by simp [maxLen])
    | 4,hc=>cases hc; have:=h 4 _ v rfl hv; cases this; exact .sln 4 none 0 (by simp [maxLen])
    | 5,hc=>cases hc; have:=h 5 _ v rfl hv; cases this; exact .sln 2 none 0 (by simp [maxLen])
theorem tM (s:Sta):(AV.agg (eH s E0 E1)).ren [(E0,222),(E1,223)]=.agg (eH s 222 223):=rfl
theorem aJb (s:Sta) (z:Int):(AV.tup [.agg (eH s E0 E1),.s (.int .i64 z)]).ren [(E0,222),(E1,223)]=.tup [.agg (eH s 222 223),.s (.int .i64 z)]:=rfl
theorem aK1 (s:Sta) (e:Ev) (hz:SzS 140737488355100 s) (hr:dI cW s.usr) (hr2:dI eO s.tmb) (hu:TS e.user) (ho:TS e.other) :Den Tryz.prog 26 [.agg (bJ s),.agg (evC e)]  (·=.tup [.agg (bJ (fC s e).1),.s (.int .i64 (fC s e).2)]):=by
 refine aR Tryz.func26 rfl (Nat.le_of_ble_eq_true rfl) (fun w0 A hf=>(aC (fun K1 hK1=>(aB (aJ hf rfl (cE rfl rfl (lf rfl)) (aJ hf rfl (cE rfl rfl (lf rfl)) (bV hf rfl rfl rfl bR (aE aA 1 rfl (aD (hK1 _ (aC (fun K2 hK2=>(aM (aC (fun K3 hK3=>(aB ?_))))))))))))))))
 refine aE aA 1 rfl (aJ hf rfl (aO rfl rfl aOs rfl (aI8 e hu ho)) (aE aA 2 rfl (aD (hK3 _ (dL rfl rfl (fun hc1=>?_) (fun hc1=>?_))))))
 ·
  simp only[bs] at hc1
  refine aC (fun K4 hK4=>(aB (aG rfl (bO rfl bR mZ (l3 rfl) rfl) (aU (xS sY) (bB hf rfl rfl cP rfl rfl (l1 rfl) (l4 rfl) rfl (aE aA 1 rfl (aD (hK4 _ (aI ?_)))))))))
  refine⟨_,rfl,?_⟩
  rw[show fC s e=(rW,110) from by rw[fC,if_neg (by simp_all)]]; rfl
 ·
  simp only[bs] at hc1
  refine aC (fun K5 hK5=>(aB (aE aA 6 rfl (aD (hK5 _ (dL rfl rfl (fun hc2=>?_) (fun hc2=>?_)))))))
  ·
   simp only[bs] at hc2
   refine aC (fun K6 hK6=>(aB (aG rfl (bO rfl bR mZ (l3 rfl) rfl) (aU (xS sY) (bB hf rfl rfl cP rfl rfl (l1 rfl) (l4 rfl) rfl (aE aA 1 rfl (aD (hK6 _ (aI ?_)))))))))
   refine⟨_,rfl,?_⟩
   rw[show fC s e=(rW,111) from by rw[fC,if_pos (by simp_all),if_pos (by first | assumption | omega)]]; rfl
  ·
   simp only[bs] at hc2
   refine aL (hK2 _ (aC (fun K7 hK7=>(fJ bF ?_))))
   refine aV 1 #[true,true,true,true,true,true,true,true,true,false] ⟨35,[(3,.adr (evC e)),(4,.ref 4 0 0 0),(6,.ref 6 0 0 0),(26,.s (.int .i64 (bN s e).2))],[(6,.box (eH (bN s e).1 222 223)),(222,.buf 2 ((bN s e).1.usr.map usC)),(223,.buf 2 ((bN s e).1.tmb.map tmC)),(4,.box [.s (.int .i64 0),.s (.int .i64 0),.s (.slice none 0 0),.s (.slice none 0 0),.s (.slice none 0 0),.s (.slice none 0 0)])]⟩ ?_ (fun hD0=>?_)
   ·
    refine aH 9 [] (by kernel_rfl) ⟨?_,trivial⟩
    ·
     refine⟨_,rfl,rfl,(ao rfl (aE aA 1 rfl (aF (bS (by kernel_rfl) ?_))))⟩
     refine hK7 _ (aC (fun K8 hK8=>(aC (fun K9 hK9=>(aB (aE aA 2 rfl (aD (hK9 _ (dL rfl rfl (fun hc3=>?_) (fun hc3=>?_))))))))))
     ·
      simp only[bs] at hc3
      refine aC (fun K10 hK10=>(aB (aG rfl (bO rfl bR mZ (l3 rfl) rfl) (aU (xS sY) (aE aA 1 rfl (bB hf rfl rfl cP rfl rfl (l1 rfl) (l4 rfl) rfl (aE aA 1 rfl (aD (hK10 _ (aI ?_))))))))))
      refine⟨_,rfl,?_⟩
      rw[show fC s e=(rW,(bN s e).2) from by rw[fC,if_pos (by simp_all),if_neg (by omega),if_neg (by first | assumption | simp_all)]]; rfl
     ·
      simp only[bs] at hc3
      refine aL (hK8 _ (aC (fun K11 hK11=>(aB (aE aA 3 rfl (bB hf rfl rfl cD rfl rfl (l1 rfl) (l4 rfl) rfl (aD (hK11 _ (aC (fun K12 hK12=>(aB (aG rfl (bZ (cs':=[.s (.int .i64 e.at'),.s (.int .i64 (bN s e).1.hor),.sl 4 ((bN s e).1.opn.map seC),.own 222 2 0 ((bN s e).1.usr.map usC).length,.sl 4 ((bN s e).1.sub.map enC),.own 223 2 0 ((bN s e).1.tmb.map tmC).length]) rfl nV cP rfl rfl rfl) (bB hf rfl rfl cP rfl rfl (l1 rfl) (l4 rfl) rfl (aE aA 1 rfl ?_))))))))))))))
      refine aD (hK12 _ (aI ?_))
      refine⟨_,rfl,?_⟩
      rw[show fC s e=({ (bN s e).1 with now:=e.at' },0) from by rw[fC,if_pos (by simp_all),if_neg (by omega),if_pos (by first | assumption | simp_all)]]
      show AV.tup [.agg [_,_,_,AV.conv _ (.own 222 2 0 ((bN s e).1.usr.map usC).length),_,AV.conv _ (.own 223 2 0 ((bN s e).1.tmb.map tmC).length)],_]=_
      rw[cJ (g:=222) rfl rfl,cJ (g:=223) rfl rfl]; rfl
   refine aV 2 #[true,true,true,true,true,true,true,true,false,false] ⟨35,[(3,.adr (evC e)),(4,.ref 4 0 0 0),(6,.ref 6 0 0 0),(25,.agg (eH (bN s e).1 222 223)),(26,.s (.int .i64 (bN s e).2))],[(6,.box [.s (.int .i64 0),.s (.int .i64 0),.s (.slice none 0 0),.s (.slice none 0 0),.s (.slice none 0 0),.s (.slice none 0 0)]),(222,.buf 2 ((bN s e).1.usr.map usC)),(223,.buf 2 ((bN s e).1.tmb.map tmC)),(4,.box [.s (.int .i64 0),.s (.int .i64 0),.s (.slice none 0 0),.s (.slice none 0 0),.s (.slice none 0 0),.s (.slice none 0 0)])]⟩ ?_ (fun hD1=>?_)
   ·
    refine aH 8 [] (by kernel_rfl) ⟨?_,trivial⟩
    ·
     refine⟨_,rfl,rfl,(ao rfl (bB hf rfl rfl cP rfl rfl (l1 rfl) (l4 rfl) rfl (aF (aH 9 [] (by kernel_rfl) ⟨?_,trivial⟩))))⟩
     ·
      refine⟨_,rfl,rfl,(ao rfl (aE aA 1 rfl (aF (bS (by kernel_rfl) ?_))))⟩
      refine hK7 _ (aC (fun K13 hK13=>(aC (fun K14 hK14=>(aB (aE aA 2 rfl (aD (hK14 _ (dL rfl rfl (fun hc4=>?_) (fun hc4=>?_))))))))))
      ·
       simp only[bs] at hc4
       refine aC (fun K15 hK15=>(aB (aG rfl (bO rfl bR mZ (l3 rfl) rfl) (aU (xS sY) (aE aA 1 rfl (bB hf rfl rfl cP rfl rfl (l1 rfl) (l4 rfl) rfl (aE aA 1 rfl (aD (hK15 _ (aI ?_))))))))))
       refine⟨_,rfl,?_⟩
       rw[show fC s e=(rW,(bN s e).2) from by rw[fC,if_pos (by simp_all),if_neg (by omega),if_neg (by first | assumption | simp_all)]]; rfl
      ·
       simp only[bs] at hc4
       refine aL (hK13 _ (aC (fun K16 hK16=>(aB (aE aA 3 rfl (bB hf rfl rfl cD rfl rfl (l1 rfl) (l4 rfl) rfl (aD (hK16 _ (aC (fun K17 hK17=>(aB (aG rfl (bZ (cs':=[.s (.int .i64 e.at'),.s (.int .i64 (bN s e).1.hor),.sl 4 ((bN s e).1.opn.map seC),.own 222 2 0 ((bN s e).1.usr.map usC).length,.sl 4 ((bN s e).1.sub.map enC),.own 223 2 0 ((bN s e).1.tmb.map tmC).length]) rfl nV cP rfl rfl rfl) (bB hf rfl rfl cP rfl rfl (l1 rfl) (l4 rfl) rfl (aE aA 1 rfl ?_))))))))))))))
       refine aD (hK17 _ (aI ?_))
       refine⟨_,rfl,?_⟩
       rw[show fC s e=({ (bN s e).1 with now:=e.at' },0) from by rw[fC,if_pos (by simp_all),if_neg (by omega),if_pos (by first | assumption | simp_all)]]
       show AV.tup [.agg [_,_,_,AV.conv _ (.own 222 2 0 ((bN s e).1.usr.map usC).length),_,AV.conv _ (.own 223 2 0 ((bN s e).1.tmb.map tmC).length)],_]=_
       rw[cJ (g:=222) rfl rfl,cJ (g:=223) rfl rfl]; rfl
   refine aV 2 #[true,true,true,true,true,true,false,true,true,false] ⟨35,[(3,.adr (evC e)),(4,.ref 4 0 0 0),(6,.ref 6 0 0 0),(20,.tup [.agg (eH (bN s e).1 222 223),.s (.int .i64 (bN s e).2)])],[(6,.box (eH (bN s e).1 222 223)),(222,.buf 2 ((bN s e).1.usr.map usC)),(223,.buf 2 ((bN s e).1.tmb.map tmC)),(4,.box [.s (.int .i64 0),.s (.int .i64 0),.s (.slice none 0 0),.s (.slice none 0 0),.s (.slice none 0 0),.s (.slice none 0 0)])]⟩ ?_ (fun hD2=>?_)
   ·
    refine aH 6 [] (by kernel_rfl) ⟨?_,trivial⟩
    ·
     refine⟨_,rfl,rfl,(ao rfl (aE aA 1 rfl (aF (ag hD0 rfl rfl rfl))))⟩
   refine aV 3 #[true,true,true,true,true,true,true,false,false,false] ⟨35,[(3,.adr (evC e)),(4,.ref 4 0 0 0),(25,.agg (eH (bN s e).1 222 223)),(26,.s (.int .i64 (bN s e).2))],[(222,.buf 2 ((bN s e).1.usr.map usC)),(223,.buf 2 ((bN s e).1.tmb.map tmC)),(4,.box [.s (.int .i64 0),.s (.int .i64 0),.s (.slice none 0 0),.s (.slice none 0 0),.s (.slice none 0 0),.s (.slice none 0 0)])]⟩ ?_ (fun hD3=>?_)
   ·
    refine aH 7 [] (by kernel_rfl) ⟨?_,trivial⟩
    ·
     refine⟨_,rfl,rfl,(ao rfl (bV hf rfl rfl rfl bR (aF (ag hD1 rfl rfl rfl))))⟩
   refine aV 3 #[true,true,true,true,true,true,false,true,false,false] ⟨35,[(3,.adr (evC e)),(4,.ref 4 0 0 0),(6,.ref 6 0 0 0),(20,.tup [.agg (eH (bN s e).1 222 223),.s (.int .i64 (bN s e).2)]),(25,.agg (eH (bN s e).1 222 223))],[(6,.box [.s (.int .i64 0),.s (.int .i64 0),.s (.slice none 0 0),.s (.slice none 0 0),.s (.slice none 0 0),.s (.slice none 0 0)]),(222,.buf 2 ((bN s e).1.usr.map usC)),(223,.buf 2 ((bN s e).1.tmb.map tmC)),(4,.box [.s (.int .i64 0),.s (.int .i64 0),.s (.slice none 0 0),.s (.slice none 0 0),.s (.slice none 0 0),.s (.slice none 0 0)])]⟩ ?_ (fun hD4=>?_)
   ·
    refine aH 6 [8] (by kernel_rfl) ⟨?_,?_,trivial⟩
    ·
     refine⟨_,rfl,rfl,(ao rfl (aE aA 1 rfl (aF (ag hD1 rfl rfl rfl))))⟩
    ·
     refine⟨_,rfl,rfl,(ao rfl (bB hf rfl rfl cP rfl rfl (l1 rfl) (l4 rfl) rfl (aF (ag hD2 rfl rfl rfl))))⟩
   refine aV 3 #[true,true,true,true,true,false,true,true,false,false] ⟨35,[(3,.adr (evC e)),(4,.ref 4 0 0 0),(6,.ref 6 0 0 0),(20,.tup [.agg (eH (bN s e).1 222 223),.s (.int .i64 (bN s e).2)]),(26,.s (.int .i64 (bN s e).2))],[(6,.box [.s (.int .i64 0),.s (.int .i64 0),.s (.slice none 0 0),.s (.slice none 0 0),.s (.slice none 0 0),.s (.slice none 0 0)]),(222,.buf 2 ((bN s e).1.usr.map usC)),(223,.buf 2 ((bN s e).1.tmb.map tmC)),(4,.box [.s (.int .i64 0),.s (.int .i64 0),.s (.slice none 0 0),.s (.slice none 0 0),.s (.slice none 0 0),.s (.slice none 0 0)])]⟩ ?_ (fun hD5=>?_)
   ·
    refine aH 5 [] (by kernel_rfl) ⟨?_,trivial⟩
    ·
     refine⟨_,rfl,rfl,(ao rfl (aE aA 1 rfl (aF (ag hD1 rfl rfl rfl))))⟩
   refine aV 4 #[true,true,true,true,true,true,false,false,false,false] ⟨35,[(3,.adr (evC e)),(4,.ref 4 0 0 0),(20,.tup [.agg (eH (bN s e).1 222 223),.s (.int .i64 (bN s e).2)]),(25,.agg (eH (bN s e).1 222 223))],[(222,.buf 2 ((bN s e).1.usr.map usC)),(223,.buf 2 ((bN s e).1.tmb.map tmC)),(4,.box [.s (.int .i64 0),.s (.int .i64 0),.s (.slice none 0 0),.s (.slice none 0 0),.s (.slice none 0 0),.s (.slice none 0 0)])]⟩ ?_ (fun hD6=>?_)
   ·
    refine aH 6 [7] (by kernel_rfl) ⟨?_,?_,trivial⟩
    ·
     refine⟨_,rfl,rfl,(ao rfl (aE aA 1 rfl (aF (ag hD3 rfl rfl rfl))))⟩
    ·
     refine⟨_,rfl,rfl,(ao rfl (bV hf rfl rfl rfl bR (aF (ag hD4 rfl rfl rfl))))⟩
   refine aV 4 #[true,true,true,true,true,false,true,false,false,false] ⟨35,[(3,.adr (evC e)),(4,.ref 4 0 0 0),(20,.tup [.agg (eH (bN s e).1 222 223),.s (.int .i64 (bN s e).2)]),(26,.s (.int .i64 (bN s e).2))],[(222,.buf 2 ((bN s e).1.usr.map usC)),(223,.buf 2 ((bN s e).1.tmb.map tmC)),(4,.box [.s (.int .i64 0),.s (.int .i64 0),.s (.slice none 0 0),.s (.slice none 0 0),.s (.slice none 0 0),.s (.slice none 0 0)])]⟩ ?_ (fun hD7=>?_)
   ·
    refine aH 5 [7] (by kernel_rfl) ⟨?_,?_,trivial⟩
    ·
     refine⟨_,rfl,rfl,(ao rfl (aE aA 1 rfl (aF (ag hD3 rfl rfl rfl))))⟩
    ·
     refine⟨_,rfl,rfl,(ao rfl (bV hf rfl rfl rfl bR (aF (ag hD5 rfl rfl rfl))))⟩
   refine aV 4 #[true,true,true,true,true,false,false,true,false,false] ⟨35,[(3,.adr (evC e)),(4,.ref 4 0 0 0),(6,.ref 6 0 0 0),(20,.tup [.agg (eH (bN s e).1 222 223),.s (.int .i64 (bN s e).2)])],[(6,.box [.s (.int .i64 0),.s (.int .i64 0),.s (.slice none 0 0),.s (.slice none 0 0),.s (.slice none 0 0),.s (.slice none 0 0)]),(222,.buf 2 ((bN s e).1.usr.map usC)),(223,.buf 2 ((bN s e).1.tmb.map tmC)),(4,.box [.s (.int .i64 0),.s (.int .i64 0),.s (.slice none 0 0),.s (.slice none 0 0),.s (.slice none 0 0),.s (.slice none 0 0)])]⟩ ?_ (fun hD8=>?_)
   ·
    refine aH 5 [6] (by kernel_rfl) ⟨?_,?_,trivial⟩
    ·
     refine⟨_,rfl,rfl,(ao rfl (aE aA 1 rfl (aF (ag hD4 rfl rfl rfl))))⟩
    ·
     refine⟨_,rfl,rfl,(ao rfl (aE aA 1 rfl (aF (ag hD5 rfl rfl rfl))))⟩
   refine aV 5 #[true,true,true,true,true,false,false,false,false,false] ⟨35,[(3,.adr (evC e)),(4,.ref 4 0 0 0),(20,.tup [.agg (eH (bN s e).1 222 223),.s (.int .i64 (bN s e).2)])],[(222,.buf 2 ((bN s e).1.usr.map usC)),(223,.buf 2 ((bN s e).1.tmb.map tmC)),(4,.box [.s (.int .i64 0),.s (.int .i64 0),.s (.slice none 0 0),.s (.slice none 0 0),.s (.slice none 0 0),.s (.slice none 0 0)])]⟩ ?_ (fun hD9=>?_)
   ·
    refine aH 5 [6,7] (by kernel_rfl) ⟨?_,?_,?_,trivial⟩
    ·
     refine⟨_,rfl,rfl,(ao rfl (aE aA 1 rfl (aF (ag hD6 rfl rfl rfl))))⟩
    ·
     refine⟨_,rfl,rfl,(ao rfl (aE aA 1 rfl (aF (ag hD7 rfl rfl rfl))))⟩
    ·
     refine⟨_,rfl,rfl,(ao rfl (bV hf rfl rfl rfl bR (aF (ag hD8 rfl rfl rfl))))⟩
   refine aV 5 #[true,true,true,true,false,false,false,true,false,false] ⟨35,[(3,.adr (evC e)),(4,.ref 4 0 0 0),(6,.ref 6 0 0 0),(24,.tup [.agg (eH (bN s e).1 222 223),.s (.int .i64 (bN s e).2)])],[(6,.box [.s (.int .i64 0),.s (.int .i64 0),.s (.slice none 0 0),.s (.slice none 0 0),.s (.slice none 0 0),.s (.slice none 0 0)]),(222,.buf 2 ((bN s e).1.usr.map usC)),(223,.buf 2 ((bN s e).1.tmb.map tmC)),(4,.box [.s (.int .i64 0),.s (.int .i64 0),.s (.slice none 0 0),.s (.slice none 0 0),.s (.slice none 0 0),.s (.slice none 0 0)])]⟩ ?_ (fun hD10=>?_)
   ·
    refine aH 4 [] (by kernel_rfl) ⟨?_,trivial⟩
    ·
     refine⟨_,rfl,rfl,(ao rfl (aE aA 1 rfl (aF (ag hD8 rfl rfl rfl))))⟩
   refine aV 6 #[true,true,true,true,false,false,false,false,false,false] ⟨35,[(3,.adr (evC e)),(4,.ref 4 0 0 0),(24,.tup [.agg (eH (bN s e).1 222 223),.s (.int .i64 (bN s e).2)])],[(222,.buf 2 ((bN s e).1.usr.map usC)),(223,.buf 2 ((bN s e).1.tmb.map tmC)),(4,.box [.s (.int .i64 0),.s (.int .i64 0),.s (.slice none 0 0),.s (.slice none 0 0),.s (.slice none 0 0),.s (.slice none 0 0)])]⟩ ?_ (fun hD11=>?_)
   ·
    refine aH 4 [7] (by kernel_rfl) ⟨?_,?_,trivial⟩
    ·
     refine⟨_,rfl,rfl,(ao rfl (aE aA 1 rfl (aF (ag hD9 rfl rfl rfl))))⟩
    ·
     refine⟨_,rfl,rfl,(ao rfl (bV hf rfl rfl rfl bR (aF (ag hD10 rfl rfl rfl))))⟩
   refine aV 6 #[true,true,true,false,false,false,false,true,false,false] ⟨35,[(3,.adr (evC e)),(4,.ref 4 0 0 0),(6,.ref 6 0 0 0),(22,.agg (eH s 222 223)),(23,.agg (evC e))],[(6,.box [.s (.int .i64 0),.s (.int .i64 0),.s (.slice none 0 0),.s (.slice none 0 0),.s (.slice none 0 0),.s (.slice none 0 0)]),(222,.buf 2 (s.usr.map usC)),(223,.buf 2 (s.tmb.map tmC)),(4,.box [.s (.int .i64 0),.s (.int .i64 0),.s (.slice none 0 0),.s (.slice none 0 0),.s (.slice none 0 0),.s (.slice none 0 0)])]⟩ ?_ (fun hD12=>?_)
   ·
    refine aH 3 [] (by kernel_rfl) ⟨?_,trivial⟩
    ·
     refine⟨_,rfl,rfl,(ao rfl (iM hf [(E0,222),(E1,223)] [(E0,222),(E1,223)] rfl rfl rfl rfl rfl rfl (by decide) (by decide) (by decide) rfl aEr (aKj s e hz hr hr2 (by simp_all)) ?_))⟩
     rintro r m1 ⟨rfl,rfl⟩
     rw[aJb]
     refine aU (cM [3,4,6,24] rfl) (aF (ag hD10 rfl rfl rfl))
   refine aV 7 #[true,true,true,false,false,false,false,false,false,false] ⟨35,[(3,.adr (evC e)),(4,.ref 4 0 0 0),(22,.agg (eH s 222 223)),(23,.agg (evC e))],[(222,.buf 2 (s.usr.map usC)),(223,.buf 2 (s.tmb.map tmC)),(4,.box [.s (.int .i64 0),.s (.int .i64 0),.s (.slice none 0 0),.s (.slice none 0 0),.s (.slice none 0 0),.s (.slice none 0 0)])]⟩ ?_ (fun hD13=>?_)
   ·
    refine aH 3 [7] (by kernel_rfl) ⟨?_,?_,trivial⟩
    ·
     refine⟨_,rfl,rfl,(ao rfl (iM hf [(E0,222),(E1,223)] [(E0,222),(E1,223)] rfl rfl rfl rfl rfl rfl (by decide) (by decide) (by decide) rfl aEr (aKj s e hz hr hr2 (by simp_all)) ?_))⟩
     rintro r m1 ⟨rfl,rfl⟩
     rw[aJb]
     refine aU (cM [3,4,24] rfl) (aF (ag hD11 rfl rfl rfl))
    ·
     refine⟨_,rfl,rfl,(ao rfl (bV hf rfl rfl rfl bR (aF (ag hD12 rfl rfl rfl))))⟩
   refine aV 7 #[true,true,false,false,false,false,false,true,false,false] ⟨35,[(3,.adr (evC e)),(4,.ref 4 0 0 0),(6,.ref 6 0 0 0),(22,.agg (eH s 222 223))],[(6,.box [.s (.int .i64 0),.s (.int .i64 0),.s (.slice none 0 0),.s (.slice none 0 0),.s (.slice none 0 0),.s (.slice none 0 0)]),(222,.buf 2 (s.usr.map usC)),(223,.buf 2 (s.tmb.map tmC)),(4,.box [.s (.int .i64 0),.s (.int .i64 0),.s (.slice none 0 0),.s (.slice none 0 0),.s (.slice none 0 0),.s (.slice none 0 0)])]⟩ ?_ (fun hD14=>?_)
   ·
    refine aH 2 [] (by kernel_rfl) ⟨?_,trivial⟩
    ·
     refine⟨_,rfl,rfl,(ao rfl (aE aA 1 rfl (aF (ag hD12 rfl rfl rfl))))⟩
   refine aV 7 #[true,false,true,false,false,false,false,true,false,false] ⟨35,[(3,.adr (evC e)),(4,.ref 4 0 0 0),(6,.ref 6 0 0 0),(21,.agg (bJ s)),(23,.agg (evC e))],[(6,.box [.s (.int .i64 0),.s (.int .i64 0),.s (.slice none 0 0),.s (.slice none 0 0),.s (.slice none 0 0),.s (.slice none 0 0)]),(4,.box [.s (.int .i64 0),.s (.int .i64 0),.s (.slice none 0 0),.s (.slice none 0 0),.s (.slice none 0 0),.s (.slice none 0 0)])]⟩ ?_ (fun hD15=>?_)
   ·
    refine aH 1 [] (by kernel_rfl) ⟨?_,trivial⟩
    ·
     refine⟨_,rfl,rfl,(ao rfl (iM hf [] [(E0,222),(E1,223)] rfl rfl rfl rfl rfl rfl (by decide) (by decide) (by decide) rfl pT (nT s (hz.mono (by omega))) ?_))⟩
     rintro r m1 ⟨rfl,rfl⟩
     rw[tM]
     refine aU (cM [3,4,6,22,23] rfl) (aF (ag hD12 rfl rfl rfl))
   refine aV 8 #[true,true,false,false,false,false,false,false,false,false] ⟨35,[(3,.adr (evC e)),(4,.ref 4 0 0 0),(22,.agg (eH s 222 223))],[(222,.buf 2 (s.usr.map usC)),(223,.buf 2 (s.tmb.map tmC)),(4,.box [.s (.int .i64 0),.s (.int .i64 0),.s (.slice none 0 0),.s (.slice none 0 0),.s (.slice none 0 0),.s (.slice none 0 0)])]⟩ ?_ (fun hD16=>?_)
   ·
    refine aH 2 [7] (by kernel_rfl) ⟨?_,?_,trivial⟩
    ·
     refine⟨_,rfl,rfl,(ao rfl (aE aA 1 rfl (aF (ag hD13 rfl rfl rfl))))⟩
    ·
     refine⟨_,rfl,rfl,(ao rfl (bV hf rfl rfl rfl bR (aF (ag hD14 rfl rfl rfl))))⟩
   refine aV 8 #[true,false,true,false,false,false,false,false,false,false] ⟨35,[(3,.adr (evC e)),(4,.ref 4 0 0 0),(21,.agg (bJ s)),(23,.agg (evC e))],[(4,.box [.s (.int .i64 0),.s (.int .i64 0),.s (.slice none 0 0),.s (.slice none 0 0),.s (.slice none 0 0),.s (.slice none 0 0)])]⟩ ?_ (fun hD17=>?_)
   ·
    refine aH 1 [7] (by kernel_rfl) ⟨?_,?_,trivial⟩
    ·
     refine⟨_,rfl,rfl,(ao rfl (iM hf [] [(E0,222),(E1,223)] rfl rfl rfl rfl rfl rfl (by decide) (by decide) (by decide) rfl pT (nT s (hz.mono (by omega))) ?_))⟩
     rintro r m1 ⟨rfl,rfl⟩
     rw[tM]
     refine aU (cM [3,4,22,23] rfl) (aF (ag hD13 rfl rfl rfl))
    ·
     refine⟨_,rfl,rfl,(ao rfl (bV hf rfl rfl rfl bR (aF (ag hD15 rfl rfl rfl))))⟩
   refine aV 8 #[true,false,false,false,false,false,false,true,false,false] ⟨35,[(3,.adr (evC e)),(4,.ref 4 0 0 0),(6,.ref 6 0 0 0),(21,.agg (bJ s))],[(6,.box [.s (.int .i64 0),.s (.int .i64 0),.s (.slice none 0 0),.s (.slice none 0 0),.s (.slice none 0 0),.s (.slice none 0 0)]),(4,.box [.s (.int .i64 0),.s (.int .i64 0),.s (.slice none 0 0),.s (.slice none 0 0),.s (.slice none 0 0),.s (.slice none 0 0)])]⟩ ?_ (fun hD18=>?_)
   ·
    refine aH 1 [2] (by kernel_rfl) ⟨?_,?_,trivial⟩
    ·
     refine⟨_,rfl,rfl,(ao rfl (iM hf [] [(E0,222),(E1,223)] rfl rfl rfl rfl rfl rfl (by decide) (by decide) (by decide) rfl pT (nT s (hz.mono (by omega))) ?_))⟩
     rintro r m1 ⟨rfl,rfl⟩
     rw[tM]
     refine aU (cM [3,4,6,22] rfl) (aF (ag hD14 rfl rfl rfl))
    ·
     refine⟨_,rfl,rfl,(ao rfl (aE aA 1 rfl (aF (ag hD15 rfl rfl rfl))))⟩
   refine aV 8 #[false,false,true,false,false,false,false,true,false,false] ⟨35,[(2,.adr (bJ s)),(3,.adr (evC e)),(4,.ref 4 0 0 0),(6,.ref 6 0 0 0),(23,.agg (evC e))],[(6,.box [.s (.int .i64 0),.s (.int .i64 0),.s (.slice none 0 0),.s (.slice none 0 0),.s (.slice none 0 0),.s (.slice none 0 0)]),(4,.box [.s (.int .i64 0),.s (.int .i64 0),.s (.slice none 0 0),.s (.slice none 0 0),.s (.slice none 0 0),.s (.slice none 0 0)])]⟩ ?_ (fun hD19=>?_)
   ·
    refine aH 0 [] (by kernel_rfl) ⟨?_,trivial⟩
    ·
     refine⟨_,rfl,rfl,(ao rfl (aE aA 1 rfl (aF (ag hD15 rfl rfl rfl))))⟩
   refine aV 9 #[true,false,false,false,false,false,false,false,false,false] ⟨35,[(3,.adr (evC e)),(4,.ref 4 0 0 0),(21,.agg (bJ s))],[(4,.box [.s (.int .i64 0),.s (.int .i64 0),.s (.slice none 0 0),.s (.slice none 0 0),.s (.slice none 0 0),.s (.slice none 0 0)])]⟩ ?_ (fun hD20=>?_)
   ·
    refine aH 1 [2,7] (by kernel_rfl) ⟨?_,?_,?_,trivial⟩
    ·
     refine⟨_,rfl,rfl,(ao rfl (iM hf [] [(E0,222),(E1,223)] rfl rfl rfl rfl rfl rfl (by decide) (by decide) (by decide) rfl pT (nT s (hz.mono (by omega))) ?_))⟩
     rintro r m1 ⟨rfl,rfl⟩
     rw[tM]
     refine aU (cM [3,4,22] rfl) (aF (ag hD16 rfl rfl rfl))
    ·
     refine⟨_,rfl,rfl,(ao rfl (aE aA 1 rfl (aF (ag hD17 rfl rfl rfl))))⟩
    ·
     refine⟨_,rfl,rfl,(ao rfl (bV hf rfl rfl rfl bR (aF (ag hD18 rfl rfl rfl))))⟩
   refine aV 9 #[false,false,true,false,false,false,false,false,false,false] ⟨35,[(2,.adr (bJ s)),(3,.adr (evC e)),(4,.ref 4 0 0 0),(23,.agg (evC e))],[(4,.box [.s (.int .i64 0),.s (.int .i64 0),.s (.slice none 0 0),.s (.slice none 0 0),.s (.slice none 0 0),.s (.slice none 0 0)])]⟩ ?_ (fun hD21=>?_)
   ·
    refine aH 0 [7] (by kernel_rfl) ⟨?_,?_,trivial⟩
    ·
     refine⟨_,rfl,rfl,(ao rfl (aE aA 1 rfl (aF (ag hD17 rfl rfl rfl))))⟩
    ·
     refine⟨_,rfl,rfl,(ao rfl (bV hf rfl rfl rfl bR (aF (ag hD19 rfl rfl rfl))))⟩
   refine aV 9 #[false,false,false,false,false,false,false,true,false,false] ⟨35,[(2,.adr (bJ s)),(3,.adr (evC e)),(4,.ref 4 0 0 0),(6,.ref 6 0 0 0)],[(6,.box [.s (.int .i64 0),.s (.int .i64 0),.s (.slice none 0 0),.s (.slice none 0 0),.s (.slice none 0 0),.s (.slice none 0 0)]),(4,.box [.s (.int .i64 0),.s (.int .i64 0),.s (.slice none 0 0),.s (.slice none 0 0),.s (.slice none 0 0),.s (.slice none 0 0)])]⟩ ?_ (fun hD22=>?_)
   ·
    refine aH 0 [2] (by kernel_rfl) ⟨?_,?_,trivial⟩
    ·
     refine⟨_,rfl,rfl,(ao rfl (aE aA 1 rfl (aF (ag hD18 rfl rfl rfl))))⟩
    ·
     refine⟨_,rfl,rfl,(ao rfl (aE aA 1 rfl (aF (ag hD19 rfl rfl rfl))))⟩
   refine mL (aDq (sl':=[(2,.adr (bJ s)),(3,.adr (evC e)),(4,.ref 4 0 0 0)]) (m':=[(4,.box [.s (.int .i64 0),.s (.int .i64 0),.s (.slice none 0 0),.s (.slice none 0 0),.s (.slice none 0 0),.s (.slice none 0 0)])]) rfl rfl rfl) (aH 0 [2,7] (by kernel_rfl) ⟨?_,?_,?_,trivial⟩)
   ·
    refine⟨_,rfl,rfl,(ao rfl (aE aA 1 rfl (aF (ag hD20 rfl rfl rfl))))⟩
   ·
    refine⟨_,rfl,rfl,(ao rfl (aE aA 1 rfl (aF (ag hD21 rfl rfl rfl))))⟩
   ·
    refine⟨_,rfl,rfl,(ao rfl (bV hf rfl rfl rfl bR (aF (ag hD22 rfl rfl rfl))))⟩
end Go.Proofs.YtpkanhklapfajaaGreat
set_option linter.unusedVariables false
set_option linter.unusedSimpArgs false
namespace Go.Proofs.YtpkanhklapfajaaGreat
open Go Go.Abs
end Go.Proofs.YtpkanhklapfajaaGreat
set_option linter.unusedVariables false
set_option linter.unusedSimpArgs false
namespace Go.Proofs.YtpkanhklapfajaaGreat
open Go Go.Abs
end Go.Proofs.YtpkanhklapfajaaGreat
set_option linter.unusedVariables false
set_option linter.unusedSimpArgs false
namespace Go.Proofs.YtpkanhklapfajaaGreat
open Go Go.Abs
theorem aBp (l:List Se) (hl:l.length≤9223372036854775807) (ht:∀ e∈l,TS e.1.2) :Den Tryz.prog 37 [.sl 4 (l.map seC)]  (·=.s (.bool (jY l))):=by
 refine aR Tryz.func37 rfl (Nat.le_of_ble_eq_true rfl) (fun w0 A hf=>(aC (fun K1 hK1=>(aB (aE aA 1 rfl (aD (hK1 _ (aC (fun K2 hK2=>(aC (fun K3 hK3=>(aB (aE aA 3 rfl (aD (hK3 _ (aK rfl (fun hc1=>?_) (fun hc1=>?_)))))))))))))))))
 ·
  simp only[bs] at hc1
  refine aC (fun K4 hK4=>(aB (aE aA 1 rfl (aD (hK4 _ (aI ?_))))))
  refine⟨_,rfl,?_⟩
  refine aQ ?_
  rw[jY,show decide (l.length≤16)=false from by simp only[decide_eq_false_iff_not]; omega,Bool.and_false]
 ·
  simp only[bs] at hc1
  refine aL (hK2 _ (aC (fun K5 hK5=>(aC (fun K6 hK6=>(aB (aE aA 1 rfl (aD (hK6 _ (aM (bM (ι:=Nat) (fun k=>⟨65,[(0,.sl 4 (l.map seC)),(3,.s (.int .i64 (k:Nat)))],[]⟩) (fun k=>k≤l.length∧oH iR kV none l=oH iR kV (jP l k) (l.drop k)) (fun k=>l.length - k) 0 ?_ ?_ ?_)))))))))))
  · exact⟨Nat.zero_le _,rfl⟩
  · exact cN rfl
  ·
   rintro k hC
   obtain ⟨h1,h2⟩:=hC
   refine aC (fun K7 hK7=>(aC (fun K8 hK8=>(aB (aE aA 4 rfl (aD (hK8 _ (aK rfl (fun hc2=>?_) (fun hc2=>?_)))))))))
   ·
    simp only[bs] at hc2
    refine aL (hK7 _ (aC (fun K9 hK9=>(aM (aC (fun K10 hK10=>(aB (aE aA 2 rfl ?_))))))))
    refine aG rfl (aY rfl rfl nZ lC (by first | exact ixm (by omega) | assumption | exact⟨by decide,rfl⟩)) ?_
    refine aE aA 1 rfl (cA hf rfl aK8 rfl lC rfl rfl rfl rfl (lf rfl) (aD (hK10 _ (aC (fun K11 hK11=>(aC (fun K12 hK12=>(aB (aE aA 2 rfl (aJ hf rfl (aO rfl rfl lJ rfl (Nm.refRight_den _ (ht _ (List.getElem_mem _)))) (aE aA 2 rfl (aW rfl rfl rfl (fun hg3=>?_) (fun hg3=>?_)))))))))))))
    ·
     simp only[bs] at hg3
     refine aG rfl (bW rfl aAx cD rfl) ?_
     refine aE aA 4 rfl (aW rfl rfl rfl (fun hg4=>?_) (fun hg4=>?_))
     ·
      simp only[bs] at hg4
      refine aG rfl (bW rfl aAx cD rfl) ?_
      refine aE aA 4 rfl (aW rfl rfl rfl (fun hg5=>?_) (fun hg5=>?_))
      ·
       simp only[bs] at hg5
       refine aG rfl (bW rfl aAw cD rfl) ?_
       refine aE aA 4 rfl (aW rfl rfl rfl (fun hg6=>?_) (fun hg6=>?_))
       ·
        simp only[bs] at hg6
        refine aG rfl (bW rfl aAw cD rfl) ?_
        refine aE aA 4 rfl (aW rfl rfl rfl (fun hg7=>?_) (fun hg7=>?_))
        ·
         simp only[bs] at hg7
         refine aG rfl (bW rfl aAv cD rfl) ?_
         refine aE aA 4 rfl (aW rfl rfl rfl (fun hg8=>?_) (fun hg8=>?_))
         ·
          simp only[bs] at hg8
          refine aG rfl (bW rfl aAv cD rfl) ?_
          refine aE aA 3 rfl (aD (hK12 _ (aK rfl (fun hc9=>?_) (fun hc9=>?_))))
          ·
           simp only[bs] at hc9
           refine aC (fun K13 hK13=>(aB (aE aA 1 rfl (aD (hK13 _ (aI ?_))))))
           refine⟨_,rfl,?_⟩
           refine aQ ?_
           first | (rw[jY,jK h2 (by omega) (show iR l[k]=false from by
            unfold iR
            rw[Bool.eq_false_iff]
            simp only[ne_eq,Bool.and_eq_true,decide_eq_true_eq]
            rintro ⟨q1,⟨⟨q2,q3⟩,⟨q4,q5⟩⟩,q6,q7⟩
            first | omega | (simp_all; done) | (simp_all; omega))]; rfl) | (rw[jY,jX h2 (by omega) (by omega) (show kV _ _=false from by simp only[kV,decide_eq_false_iff_not]; omega)]; rfl)
          ·
           simp only[bs] at hc9
           refine aL (hK11 _ (aC (fun K14 hK14=>(cU hf bF (by kernel_rfl) rfl (aT aA 3 rfl (fZ 54 true rfl (fun hg10=>?_) (fun hg10=>?_)))))))
           ·
            simp only[bs] at hg10
            refine aT aA 2 rfl ?_
            refine bI [(56,_)] rfl rfl ⟨⟨rfl,rfl⟩,trivial⟩ rfl (eZ rfl rfl (by omega) (by omega)) ?_
            refine bI [(55,_),(57,_)] rfl rfl ⟨⟨rfl,rfl⟩,⟨rfl,rfl⟩,trivial⟩ rfl (aY rfl rfl nZ lC (iN (k:=k - 1) (by omega) (by omega))) (aT aA 6 rfl (cY [0,3,64] rfl rfl rfl (hK14 _ (aK rfl (fun hc11=>?_) (fun hc11=>?_)))))
            ·
             simp only[bs] at hc11
             refine aC (fun K15 hK15=>(aB (aE aA 1 rfl (aD (hK15 _ (aI ?_))))))
             refine⟨_,rfl,?_⟩
             refine aQ ?_
             first | (rw[jY,jK h2 (by omega) (show iR l[k]=false from by
              unfold iR
              rw[Bool.eq_false_iff]
              simp only[ne_eq,Bool.and_eq_true,decide_eq_true_eq]
              rintro ⟨q1,⟨⟨q2,q3⟩,⟨q4,q5⟩⟩,q6,q7⟩
              first | omega | (simp_all; done) | (simp_all; omega))]; rfl) | (rw[jY,jX h2 (by omega) (by omega) (show kV _ _=false from by simp only[kV,decide_eq_false_iff_not]; omega)]; rfl)
            ·
             simp only[bs] at hc11
             refine aL (hK9 _ (aB (aE aA 1 rfl ?_)))
             refine aG rfl (bK rfl rfl (by omega) (by omega)) ?_
             refine aE aA 1 rfl (aD ?_)
             exact⟨k+1,⟨by omega,nJ h2 (by omega) (show iR l[k]=true from by
              unfold iR
              simp only[Bool.and_eq_true,decide_eq_true_eq]
              exact⟨by first | assumption | (simp_all; done),⟨⟨by omega,by omega⟩,by omega,by omega⟩,by omega,by omega⟩) (fun h0=>by simp only[kV,decide_eq_true_eq]; omega)⟩,by omega,cN rfl⟩
           ·
            simp only[bs] at hg10
            refine aT aA 10 rfl (cY [0,3,64] rfl rfl rfl (hK14 _ (bT rfl (aL (hK9 _ (aB (aE aA 1 rfl ?_)))))))
            refine aG rfl (bK rfl rfl (by omega) (by omega)) ?_
            refine aE aA 1 rfl (aD ?_)
            exact⟨k+1,⟨by omega,nJ h2 (by omega) (show iR l[k]=true from by
             unfold iR
             simp only[Bool.and_eq_true,decide_eq_true_eq]
             exact⟨by first | assumption | (simp_all; done),⟨⟨by omega,by omega⟩,by omega,by omega⟩,by omega,by omega⟩) (fun h0=>by simp only[kV,decide_eq_true_eq]; omega)⟩,by omega,cN rfl⟩
         ·
          simp only[bs] at hg8
          refine aE aA 3 rfl (aD (hK12 _ (bY rfl (aC (fun K16 hK16=>(aB (aE aA 1 rfl (aD (hK16 _ (aI ?_))))))))))
          refine⟨_,rfl,?_⟩
          refine aQ ?_
          first | (rw[jY,jK h2 (by omega) (show iR l[k]=false from by
           unfold iR
           rw[Bool.eq_false_iff]
           simp only[ne_eq,Bool.and_eq_true,decide_eq_true_eq]
           rintro ⟨q1,⟨⟨q2,q3⟩,⟨q4,q5⟩⟩,q6,q7⟩
           first | omega | (simp_all; done) | (simp_all; omega))]; rfl) | (rw[jY,jX h2 (by omega) (by omega) (show kV _ _=false from by simp only[kV,decide_eq_false_iff_not]; omega)]; rfl)
        ·
         simp only[bs] at hg7
         refine aE aA 8 rfl (aD (hK12 _ (bY rfl (aC (fun K17 hK17=>(aB (aE aA 1 rfl (aD (hK17 _ (aI ?_))))))))))
         refine⟨_,rfl,?_⟩
         refine aQ ?_
         first | (rw[jY,jK h2 (by omega) (show iR l[k]=false from by
          unfold iR
          rw[Bool.eq_false_iff]
          simp only[ne_eq,Bool.and_eq_true,decide_eq_true_eq]
          rintro ⟨q1,⟨⟨q2,q3⟩,⟨q4,q5⟩⟩,q6,q7⟩
          first | omega | (simp_all; done) | (simp_all; omega))]; rfl) | (rw[jY,jX h2 (by omega) (by omega) (show kV _ _=false from by simp only[kV,decide_eq_false_iff_not]; omega)]; rfl)
       ·
        simp only[bs] at hg6
        refine aE aA 13 rfl (aD (hK12 _ (bY rfl (aC (fun K18 hK18=>(aB (aE aA 1 rfl (aD (hK18 _ (aI ?_))))))))))
        refine⟨_,rfl,?_⟩
        refine aQ ?_
        first | (rw[jY,jK h2 (by omega) (show iR l[k]=false from by
         unfold iR
         rw[Bool.eq_false_iff]
         simp only[ne_eq,Bool.and_eq_true,decide_eq_true_eq]
         rintro ⟨q1,⟨⟨q2,q3⟩,⟨q4,q5⟩⟩,q6,q7⟩
         first | omega | (simp_all; done) | (simp_all; omega))]; rfl) | (rw[jY,jX h2 (by omega) (by omega) (show kV _ _=false from by simp only[kV,decide_eq_false_iff_not]; omega)]; rfl)
      ·
       simp only[bs] at hg5
       refine aE aA 18 rfl (aD (hK12 _ (bY rfl (aC (fun K19 hK19=>(aB (aE aA 1 rfl (aD (hK19 _ (aI ?_))))))))))
       refine⟨_,rfl,?_⟩
       refine aQ ?_
       first | (rw[jY,jK h2 (by omega) (show iR l[k]=false from by
        unfold iR
        rw[Bool.eq_false_iff]
        simp only[ne_eq,Bool.and_eq_true,decide_eq_true_eq]
        rintro ⟨q1,⟨⟨q2,q3⟩,⟨q4,q5⟩⟩,q6,q7⟩
        first | omega | (simp_all; done) | (simp_all; omega))]; rfl) | (rw[jY,jX h2 (by omega) (by omega) (show kV _ _=false from by simp only[kV,decide_eq_false_iff_not]; omega)]; rfl)
     ·
      simp only[bs] at hg4
      refine aE aA 23 rfl (aD (hK12 _ (bY rfl (aC (fun K20 hK20=>(aB (aE aA 1 rfl (aD (hK20 _ (aI ?_))))))))))
      refine⟨_,rfl,?_⟩
      refine aQ ?_
      first | (rw[jY,jK h2 (by omega) (show iR l[k]=false from by
       unfold iR
       rw[Bool.eq_false_iff]
       simp only[ne_eq,Bool.and_eq_true,decide_eq_true_eq]
       rintro ⟨q1,⟨⟨q2,q3⟩,⟨q4,q5⟩⟩,q6,q7⟩
       first | omega | (simp_all; done) | (simp_all; omega))]; rfl) | (rw[jY,jX h2 (by omega) (by omega) (show kV _ _=false from by simp only[kV,decide_eq_false_iff_not]; omega)]; rfl)
    ·
     simp only[bs] at hg3
     refine aE aA 28 rfl (aD (hK12 _ (bY rfl (aC (fun K21 hK21=>(aB (aE aA 1 rfl (aD (hK21 _ (aI ?_))))))))))
     refine⟨_,rfl,?_⟩
     refine aQ ?_
     first | (rw[jY,jK h2 (by omega) (show iR l[k]=false from by
      unfold iR
      rw[Bool.eq_false_iff]
      simp only[ne_eq,Bool.and_eq_true,decide_eq_true_eq]
      rintro ⟨q1,⟨⟨q2,q3⟩,⟨q4,q5⟩⟩,q6,q7⟩
      first | omega | (simp_all; done) | (simp_all; omega))]; rfl) | (rw[jY,jX h2 (by omega) (by omega) (show kV _ _=false from by simp only[kV,decide_eq_false_iff_not]; omega)]; rfl)
   ·
    simp only[bs] at hc2
    refine aX (hK5 _ (aC (fun K22 hK22=>(aB (aE aA 1 rfl (aD (hK22 _ (aI ?_))))))))
    refine⟨_,rfl,?_⟩
    refine aQ ?_
    rw[jY,aCx h2 (by omega),show decide (l.length≤16)=true from by simp only[decide_eq_true_eq]; omega]; rfl
end Go.Proofs.YtpkanhklapfajaaGreat
set_option linter.unusedVariables false
set_option linter.unusedSimpArgs false
namespace Go.Proofs.YtpkanhklapfajaaGreat
open Go Go.Abs
end Go.Proofs.YtpkanhklapfajaaGreat
set_option linter.unusedVariables false
set_option linter.unusedSimpArgs false
namespace Go.Proofs.YtpkanhklapfajaaGreat
open Go Go.Abs
theorem aQ0 (s:Sta) (u:ByteArray) (hl:s.usr.length≤9223372036854775807) :Den Tryz.prog 56 [.agg (bJ s),.s (.string u)]  (·=.sl 4 ((ofU s.usr u).map stC)):=by
 refine aR Tryz.func56 rfl (Nat.le_of_ble_eq_true rfl) (fun w0 A hf=>(aC (fun K1 hK1=>(aB (aJ hf rfl (cE rfl rfl (lf rfl)) (aG rfl (bD) (aD (hK1 _ (aC (fun K2 hK2=>(aC (fun K3 hK3=>(aB (aE aA 1 rfl (aD (hK3 _ ?_))))))))))))))))
 refine aM (bM (ι:=Nat) (fun k=>⟨27,[(1,.s (.string u)),(2,.adr (bJ s)),(5,.s (.int .i64 (k:Nat)))],[]⟩) (fun k=>k≤s.usr.length∧∀ (j:Nat) (hj:j<s.usr.length),j<k→isK cW u s.usr[j]=false) (fun k=>s.usr.length - k) 0 ?_ ?_ ?_)
 · exact⟨Nat.zero_le _,by omega⟩
 · exact cN rfl
 ·
  rintro k hC
  obtain ⟨h1,h2⟩:=hC
  refine aC (fun K4 hK4=>(aC (fun K5 hK5=>(aB (aE aA 5 rfl (aD (hK5 _ (aK rfl (fun hc1=>?_) (fun hc1=>?_)))))))))
  ·
   simp only[bs] at hc1
   refine aL (hK4 _ (aC (fun K6 hK6=>(aM (aC (fun K7 hK7=>(aB (aE aA 3 rfl ?_))))))))
   refine aG rfl (aY rfl rfl rR oA (by first | exact ixm (by omega) | assumption | exact⟨by decide,rfl⟩)) ?_
   refine aE aA 4 rfl (aD (hK7 _ (aK rfl (fun hc2=>?_) (fun hc2=>?_))))
   ·
    simp only[bs] at hc2
    refine aC (fun K8 hK8=>(aB (aE aA 3 rfl ?_)))
    refine aG rfl (aY rfl rfl rR oA (by first | exact ixm (by omega) | assumption | exact⟨by decide,rfl⟩)) ?_
    refine aE aA 3 rfl (aD (hK8 _ (aI ?_)))
    refine⟨_,rfl,?_⟩
    rw[aRb (by omega) h2 (by simp_all[toList_inj])]; rfl
   ·
    simp only[bs] at hc2
    refine aL (hK6 _ (aB (aE aA 1 rfl ?_)))
    refine aG rfl (bK rfl rfl (by omega) (by omega)) ?_
    refine aE aA 1 rfl (aD ?_)
    exact⟨k+1,⟨by omega,lK h2 (by omega) (by simp_all[isK,toList_inj])⟩,by omega,cN rfl⟩
  ·
   simp only[bs] at hc1
   refine aX (hK2 _ (aC (fun K9 hK9=>(aB (aG rfl (qY (k:=4)) (aD (hK9 _ (aI ?_))))))))
   refine⟨_,rfl,?_⟩
   rw[ofU_no fun j hj=>h2 j hj (by omega)]; rfl
end Go.Proofs.YtpkanhklapfajaaGreat
set_option linter.unusedVariables false
set_option linter.unusedSimpArgs false
namespace Go.Proofs.YtpkanhklapfajaaGreat
open Go Go.Abs
end Go.Proofs.YtpkanhklapfajaaGreat
set_option linter.unusedVariables false
set_option linter.unusedSimpArgs false
namespace Go.Proofs.YtpkanhklapfajaaGreat
open Go Go.Abs
end Go.Proofs.YtpkanhklapfajaaGreat
set_option linter.unusedVariables false
set_option linter.unusedSimpArgs false
namespace Go.Proofs.YtpkanhklapfajaaGreat
open Go Go.Abs
end Go.Proofs.YtpkanhklapfajaaGreat
set_option linter.unusedVariables false
set_option linter.unusedSimpArgs false
namespace Go.Proofs.YtpkanhklapfajaaGreat
open Go Go.Abs
end Go.Proofs.YtpkanhklapfajaaGreat
set_option linter.unusedVariables false
set_option linter.unusedSimpArgs false
namespace Go.Proofs.YtpkanhklapfajaaGreat
open Go Go.Abs
theorem aC4 (s:Sta) (u:ByteArray) (t:Int) (hz:SzS 140737488353280 s) (ho:s.opn.length≤50) (hr:dI cW s.usr) :Den Tryz.prog 25 [.agg (bJ s),.s (.string u),.s (.int .i64 t)]  (·=.sl 4 ((dN s u t).map stC)):=by
 have z1:=hz.o
 have z2:=hz.u
 have hsl:=yS s.opn u t
 have hou:(ofU s.usr u).length*32≤140737488353280:=aB2 (p:=fun x=>x.2.length*32≤140737488353280) hr hz.y (by simp)
 refine aR Tryz.func25 rfl (Nat.le_of_ble_eq_true rfl) (fun w0 A hf=>(aC (fun K1 hK1=>(aB (aJ hf rfl (cE rfl rfl (lf rfl)) (aG rfl (bD) (aD (hK1 _ (aC (fun K2 hK2=>(aB (aE aA 2 rfl (aJ hf rfl (aO rfl rfl aOu rfl (aQ0 s u (by omega))) (aE aA 1 rfl (aD ?_)))))))))))))))
 refine hK2 _ (aC (fun K3 hK3=>(aB (aE aA 4 rfl (aJ hf rfl (aO rfl rfl aOt rfl (aC5 s.opn u t (by omega))) (aE aA 1 rfl (aD (hK3 _ (aC (fun K4 hK4=>(aC (fun K5 hK5=>(aB (aE aA 1 rfl (aD ?_)))))))))))))))
 refine hK5 _ (aM (bM (ι:=Nat×List bC) (fun(⟨k,out⟩:Nat×List bC)=>⟨31,[(7,.sl 4 (out.map stC)),(8,.sl 4 ((eG s.opn u t).map stC)),(9,.s (.int .i64 (k:Nat)))],[]⟩) (fun(⟨k,out⟩:Nat×List bC)=>k≤(eG s.opn u t).length∧out=((eG s.opn u t).take k).foldl gA (ofU s.usr u)∧out.length≤(ofU s.usr u).length+k) (fun(⟨k,out⟩:Nat×List bC)=>(eG s.opn u t).length - k) (0,ofU s.usr u) ?_ ?_ ?_))
 · exact⟨Nat.zero_le _,rfl,Nat.le_refl _⟩
 · exact cN rfl
 ·
  rintro ⟨k,out⟩ hC
  obtain ⟨h1,h2,h3⟩:=hC
  refine aC (fun K6 hK6=>(aC (fun K7 hK7=>(aB (aE aA 4 rfl (aD (hK7 _ (aK rfl (fun hc1=>?_) (fun hc1=>?_)))))))))
  ·
   simp only[bs] at hc1
   refine aL (hK6 _ (aC (fun K8 hK8=>(aM (aB (aE aA 3 rfl ?_))))))
   refine aG rfl (aY rfl rfl dC cS (by first | exact ixm (by omega) | assumption | exact⟨by decide,rfl⟩)) ?_
   refine aE aA 1 rfl (aJ hf rfl (aO rfl rfl aEs rfl (aAf out (eG s.opn u t)[k] (by omega))) (aE aA 1 rfl ?_))
   refine bH ?_
   refine hK8 _ (aB (aE aA 1 rfl ?_))
   refine aG rfl (bK rfl rfl (by omega) (by omega)) ?_
   refine aE aA 1 rfl (aD ?_)
   exact⟨(k+1,gA out (eG s.opn u t)[k]),⟨by omega,by rw[dU (eG s.opn u t) gA _ k (by omega),← h2],by have:=uF out (eG s.opn u t)[k]; omega⟩,by simp only; omega,cN rfl⟩
  ·
   simp only[bs] at hc1
   refine aX (hK4 _ (aC (fun K9 hK9=>(aB (aE aA 2 rfl (aD (hK9 _ (aI ?_))))))))
   refine⟨_,rfl,?_⟩
   show AV.sl 4 (out.map stC)=_
   rw[h2,List.take_of_length_le (by omega)]; rfl
end Go.Proofs.YtpkanhklapfajaaGreat
set_option linter.unusedVariables false
set_option linter.unusedSimpArgs false
namespace Go.Proofs.YtpkanhklapfajaaGreat
open Go Go.Abs
theorem aC3 (s:Sta) (x:Us) (hx:x.2.length≤9223372036854775807) (ho:s.opn.length≤9223372036854775807) :Den Tryz.prog 39 [.sl 4 (x.2.map stC),.s (.int .i64 s.now),.sl 4 (s.opn.map seC)]  (·=.s (.bool (aBq s x))):=by
 refine aR Tryz.func39 rfl (Nat.le_of_ble_eq_true rfl) (fun w0 A hf=>(aC (fun K1 hK1=>(aB (aE aA 1 rfl (aD (hK1 _ (aC (fun K2 hK2=>(aC (fun K3 hK3=>(aB (aE aA 1 rfl (aD (hK3 _ (aM ?_))))))))))))))))
 refine bM (ι:=Nat) (fun k=>⟨80,[(0,.sl 4 (x.2.map stC)),(1,.s (.int .i64 s.now)),(2,.sl 4 (s.opn.map seC)),(7,.s (.int .i64 (k:Nat)))],[]⟩) (fun k=>k≤x.2.length∧∀ (j:Nat) (hj:j<x.2.length),j<k→kA s x.2[j]=true) (fun k=>x.2.length - k) 0 ?_ ?_ ?_
 · exact⟨Nat.zero_le _,by omega⟩
 · exact cN rfl
 ·
  rintro k hC
  obtain ⟨h1,h2⟩:=hC
  refine aC (fun K4 hK4=>(aC (fun K5 hK5=>(aB (aE aA 4 rfl (aD (hK5 _ (dL rfl rfl (fun hc1=>?_) (fun hc1=>?_)))))))))
  ·
   simp only[bs] at hc1
   refine aL (hK4 _ (aC (fun K6 hK6=>(aM (aC (fun K7 hK7=>(aB ?_)))))))
   have hk:k<x.2.length:=by omega
   refine aE aA 2 rfl ?_
   refine aG rfl (aY rfl rfl dC cS (by first | exact ixm (by omega) | assumption | exact⟨by decide,rfl⟩)) ?_
   refine aE aA 1 rfl (cA hf rfl nU rfl cS rfl rfl rfl rfl (lf rfl) (aD (hK7 _ (aC (fun K8 hK8=>(aC (fun K9 hK9=>(aB (aE aA 1 rfl (aD (hK9 _ (aM (bM (ι:=Nat) (fun i=>⟨80,[(0,.sl 4 (x.2.map stC)),(1,.s (.int .i64 s.now)),(2,.sl 4 (s.opn.map seC)),(7,.s (.int .i64 (k:Nat))),(8,.adr (stC x.2[k])),(9,.s (.int .i64 (i:Nat)))],[]⟩) (fun i=>i≤s.opn.length∧∀ (j:Nat) (hj:j<s.opn.length),j<i→¬ (s.opn[j].1.1=x.2[k].2.1∧s.opn[j].2.2<x.2[k].1.2)) (fun i=>s.opn.length - i) 0 ?_ ?_ ?_)))))))))))))
   · exact⟨Nat.zero_le _,by omega⟩
   · exact cN rfl
   ·
    rintro i hC
    obtain ⟨h3,h4⟩:=hC
    refine aC (fun K10 hK10=>(aC (fun K11 hK11=>(aB (aE aA 4 rfl (aD (hK11 _ (dL rfl rfl (fun hc2=>?_) (fun hc2=>?_)))))))))
    ·
     simp only[bs] at hc2
     refine aL (hK10 _ (aC (fun K12 hK12=>(aM (aC (fun K13 hK13=>(cU hf bF (by kernel_rfl) rfl ?_)))))))
     have hi:i<s.opn.length:=by omega
     refine aT aA 2 rfl ?_
     refine bI [(26,_),(27,_)] rfl rfl ⟨⟨rfl,rfl⟩,⟨rfl,rfl⟩,trivial⟩ rfl (aY rfl rfl nZ lC (by first | exact ixm (by omega) | assumption | exact⟨by decide,rfl⟩)) ?_
     refine aT aA 6 rfl (fZ 34 true rfl (fun hg3=>?_) (fun hg3=>?_))
     ·
      simp only[bs] at hg3
      refine aT aA 4 rfl ?_
      refine bI [(37,_),(38,_)] rfl rfl ⟨⟨rfl,rfl⟩,⟨rfl,rfl⟩,trivial⟩ rfl (aY rfl rfl nZ lC (by first | exact ixm (by omega) | assumption | exact⟨by decide,rfl⟩)) ?_
      refine aT aA 4 rfl (cY [0,1,2,7,8,9,43] rfl rfl rfl (hK13 _ (dL rfl rfl (fun hc4=>?_) (fun hc4=>?_))))
      ·
       simp only[bs] at hc4
       refine aC (fun K14 hK14=>(aB (aE aA 1 rfl (aD (hK14 _ (aI ?_))))))
       refine⟨_,rfl,?_⟩
       refine aQ ?_
       exact pB hk (aTg hi (by first | assumption | omega) (by first | assumption | omega))
      ·
       simp only[bs] at hc4
       refine aL (hK12 _ (aB (aE aA 1 rfl ?_)))
       refine aG rfl (bK rfl rfl (by omega) (by omega)) ?_
       refine aE aA 1 rfl (aD ?_)
       exact⟨i+1,⟨by omega,lK h4 (by omega) (by omega)⟩,by omega,cN rfl⟩
     ·
      simp only[bs] at hg3
      refine aT aA 9 rfl (cY [0,1,2,7,8,9,43] rfl rfl rfl (hK13 _ (bT rfl (aL (hK12 _ (aB (aE aA 1 rfl ?_)))))))
      refine aG rfl (bK rfl rfl (by omega) (by omega)) ?_
      refine aE aA 1 rfl (aD ?_)
      exact⟨i+1,⟨by omega,lK h4 (by omega) (by omega)⟩,by omega,cN rfl⟩
    ·
     simp only[bs] at hc2
     refine aX (hK8 _ (aC (fun K15 hK15=>(aB (aE aA 4 rfl (aW rfl rfl rfl (fun hg6=>?_) (fun hg6=>?_)))))))
     ·
      simp only[bs] at hg6
      refine aG rfl (bW rfl aLf cD rfl) ?_
      refine aE aA 5 rfl (aW rfl rfl rfl (fun hg7=>?_) (fun hg7=>?_))
      ·
       simp only[bs] at hg7
       refine aG rfl (bW rfl aA1 cD rfl) ?_
       refine aE aA 4 rfl (aW rfl rfl rfl (fun hg8=>?_) (fun hg8=>?_))
       ·
        simp only[bs] at hg8
        refine aG rfl (bW rfl aA1 cD rfl) ?_
        refine aE aA 4 rfl (aW rfl rfl rfl (fun hg9=>?_) (fun hg9=>?_))
        ·
         simp only[bs] at hg9
         refine aG rfl (bW rfl aA0 cD rfl) ?_
         refine aE aA 4 rfl (aW rfl rfl rfl (fun hg10=>?_) (fun hg10=>?_))
         ·
          simp only[bs] at hg10
          refine aG rfl (bW rfl aA0 cD rfl) ?_
          refine aE aA 3 rfl (aD (hK15 _ (dL rfl rfl (fun hc11=>?_) (fun hc11=>?_))))
          ·
           simp only[bs] at hc11
           refine aC (fun K16 hK16=>(aB (aE aA 1 rfl (aD (hK16 _ (aI ?_))))))
           refine⟨_,rfl,?_⟩
           refine aQ ?_
           exact pB hk (rA (by omega))
          ·
           simp only[bs] at hc11
           refine aL (hK6 _ (aB (aE aA 1 rfl ?_)))
           refine aG rfl (bK rfl rfl (by omega) (by omega)) ?_
           refine aE aA 1 rfl (aD ?_)
           exact⟨k+1,⟨by omega,lK h2 (by omega) (aRa (by omega) h4 (by refine⟨?_,?_,?_,?_,?_,?_⟩ <;> omega))⟩,by omega,cN rfl⟩
         ·
          simp only[bs] at hg10
          refine aE aA 3 rfl (aD (hK15 _ (bY rfl (aC (fun K17 hK17=>(aB (aE aA 1 rfl (aD (hK17 _ (aI ?_))))))))))
          refine⟨_,rfl,?_⟩
          refine aQ ?_
          exact pB hk (rA (by omega))
        ·
         simp only[bs] at hg9
         refine aE aA 8 rfl (aD (hK15 _ (bY rfl (aC (fun K18 hK18=>(aB (aE aA 1 rfl (aD (hK18 _ (aI ?_))))))))))
         refine⟨_,rfl,?_⟩
         refine aQ ?_
         exact pB hk (rA (by omega))
       ·
        simp only[bs] at hg8
        refine aE aA 13 rfl (aD (hK15 _ (bY rfl (aC (fun K19 hK19=>(aB (aE aA 1 rfl (aD (hK19 _ (aI ?_))))))))))
        refine⟨_,rfl,?_⟩
        refine aQ ?_
        exact pB hk (rA (by omega))
      ·
       simp only[bs] at hg7
       refine aE aA 18 rfl (aD (hK15 _ (bY rfl (aC (fun K20 hK20=>(aB (aE aA 1 rfl (aD (hK20 _ (aI ?_))))))))))
       refine⟨_,rfl,?_⟩
       refine aQ ?_
       exact pB hk (rA (by omega))
     ·
      simp only[bs] at hg6
      refine aE aA 24 rfl (aD (hK15 _ (bY rfl (aC (fun K21 hK21=>(aB (aE aA 1 rfl (aD (hK21 _ (aI ?_))))))))))
      refine⟨_,rfl,?_⟩
      refine aQ ?_
      exact pB hk (rA (by omega))
  ·
   simp only[bs] at hc1
   refine aX (hK2 _ (aC (fun K22 hK22=>(aB (aE aA 4 rfl (aW rfl rfl rfl (fun hg17=>?_) (fun hg17=>?_)))))))
   ·
    simp only[bs] at hg17
    refine aG rfl (fB rfl) (bE rfl rfl rfl (aJ hf rfl (aO rfl rfl aOn rfl (aC7 x.2 hx)) (aE aA 2 rfl (aD (hK22 _ (aI ?_))))))
    refine⟨_,rfl,?_⟩
    refine aQ ?_
    exact aJp (by omega) h2 (by simp_all)
   ·
    simp only[bs] at hg17
    refine aE aA 3 rfl (aD (hK22 _ (aI ?_)))
    refine⟨_,rfl,?_⟩
    refine aQ ?_
    exact aJp (by omega) h2 (by simp_all)
end Go.Proofs.YtpkanhklapfajaaGreat
set_option linter.unusedVariables false
set_option linter.unusedSimpArgs false
namespace Go.Proofs.YtpkanhklapfajaaGreat
open Go Go.Abs
theorem aC8 (s:Sta) (h1:s.opn.length≤9223372036854775807) (h2:s.usr.length≤9223372036854775807) (h3:s.sub.length≤9223372036854775807) (h4:s.tmb.length≤9223372036854775807) (h5:∀ x∈s.usr,x.2.length≤9223372036854775807) (t1:∀ e∈s.opn,TS e.1.2) (t2:∀ x∈s.usr,TS x.1) (t3:∀ e∈s.sub,TS e.1.1∧TS e.1.2) (t4:∀ x∈s.tmb,TS x.1) :Den Tryz.prog 12 [.agg (bJ s)]  (·=.s (.bool (oV s))):=by
 refine aR Tryz.func12 rfl (Nat.le_of_ble_eq_true rfl) (fun w0 A hf=>(aC (fun K1 hK1=>(aB (aJ hf rfl (cE rfl rfl (lf rfl)) (aE aA 1 rfl (aD (hK1 _ (aC (fun K2 hK2=>(aC (fun K3 hK3=>(aB (aE aA 4 rfl (aW rfl rfl rfl (fun hg1=>?_) (fun hg1=>?_))))))))))))))))
 ·
  simp only[bs] at hg1
  refine aG rfl (bW rfl aA5 cD rfl) ?_
  refine aE aA 4 rfl (aW rfl rfl rfl (fun hg2=>?_) (fun hg2=>?_))
  ·
   simp only[bs] at hg2
   refine aG rfl (bW rfl uG cD rfl) ?_
   refine aE aA 4 rfl (aW rfl rfl rfl (fun hg3=>?_) (fun hg3=>?_))
   ·
    simp only[bs] at hg3
    refine aG rfl (bW rfl uG cD rfl) ?_
    refine aE aA 4 rfl (aW rfl rfl rfl (fun hg4=>?_) (fun hg4=>?_))
    ·
     simp only[bs] at hg4
     refine aG rfl (bW rfl aA4 aM6 rfl) ?_
     refine aE aA 1 rfl (bE rfl rfl rfl (aJ hf rfl (aO rfl rfl aO7 rfl (aBp s.opn (by omega) t1)) (aE aA 3 rfl (aW rfl rfl rfl (fun hg5=>?_) (fun hg5=>?_)))))
     ·
      simp only[bs] at hg5
      refine aG rfl (bW rfl aA3 aM5 rfl) ?_
      refine aE aA 1 rfl (bE rfl rfl rfl (aJ hf rfl (aO rfl rfl aO6 rfl (aFa s.sub h3 t3)) (aE aA 2 rfl (aD (hK3 _ (dL rfl rfl (fun hc6=>?_) (fun hc6=>?_)))))))
      ·
       simp only[bs] at hc6
       refine aC (fun K4 hK4=>(aB (aE aA 1 rfl (aD (hK4 _ (aI ?_))))))
       refine⟨_,rfl,?_⟩
       refine aQ ?_
       refine fF fun h=>?_
       have n0:=h.n0
       have n1:=h.n1
       have n2:=h.h0
       have n3:=h.h1
       have n4:=h.opn
       have n5:=h.sub
       (simp_all; done)
      ·
       simp only[bs] at hc6
       refine aL (hK2 _ (aC (fun K5 hK5=>(aC (fun K6 hK6=>(aB (aE aA 1 rfl (aD (hK6 _ (aM (bM (ι:=Nat) (fun k1=>⟨178,[(1,.adr (bJ s)),(3,.s (.int .i64 (k1:Nat)))],[]⟩) (fun k1=>k1≤s.opn.length∧∀ (j:Nat) (hj:j<s.opn.length),j<k1→s.opn[j].2.2≤s.now) (fun k1=>s.opn.length - k1) 0 ?_ ?_ ?_)))))))))))
       · exact⟨Nat.zero_le _,by omega⟩
       · exact cN rfl
       ·
        rintro k1 hC
        obtain ⟨a1,a2⟩:=hC
        refine aC (fun K7 hK7=>(aC (fun K8 hK8=>(aB (aE aA 5 rfl (aD (hK8 _ (dL rfl rfl (fun hc7=>?_) (fun hc7=>?_)))))))))
        ·
         simp only[bs] at hc7
         refine aL (hK7 _ (aC (fun K9 hK9=>(aM (aC (fun K10 hK10=>(cU hf bF (by kernel_rfl) rfl ?_)))))))
         have q1:k1<s.opn.length:=by omega
         refine aT aA 3 rfl ?_
         refine bI [(48,_),(49,_)] rfl rfl ⟨⟨rfl,rfl⟩,⟨rfl,rfl⟩,trivial⟩ rfl (aY rfl rfl nZ lC (by first | exact ixm (by omega) | assumption | exact⟨by decide,rfl⟩)) ?_
         refine aT aA 5 rfl (cY [1,3,55] rfl rfl rfl (hK10 _ (dL rfl rfl (fun hc8=>?_) (fun hc8=>?_))))
         ·
          simp only[bs] at hc8
          refine aC (fun K11 hK11=>(aB (aE aA 1 rfl (aD (hK11 _ (aI ?_))))))
          refine⟨_,rfl,?_⟩
          refine aQ ?_
          refine fF fun h=>?_
          have:=h.late _ (List.getElem_mem q1)
          omega
         ·
          simp only[bs] at hc8
          refine aL (hK9 _ (aB (aE aA 1 rfl ?_)))
          refine aG rfl (bK rfl rfl (by omega) (by omega)) ?_
          refine aE aA 1 rfl (aD ?_)
          exact⟨k1+1,⟨by omega,lK a2 (by omega) (by omega)⟩,by omega,cN rfl⟩
        ·
         simp only[bs] at hc7
         refine aX (hK5 _ (aC (fun K12 hK12=>(aC (fun K13 hK13=>(aB (aE aA 1 rfl (aD (hK13 _ (aM (bM (ι:=Nat) (fun k2=>⟨178,[(1,.adr (bJ s)),(4,.s (.int .i64 (k2:Nat)))],[]⟩) (fun k2=>k2≤s.usr.length∧RisUp cW (fun x=>aBq s x=true) s.usr k2) (fun k2=>s.usr.length - k2) 0 ?_ ?_ ?_)))))))))))
         · exact⟨Nat.zero_le _,RisUp.zero⟩
         · exact cN rfl
         ·
          rintro k2 hC
          obtain ⟨b1,b2⟩:=hC
          refine aC (fun K14 hK14=>(aC (fun K15 hK15=>(aB (aE aA 5 rfl (aD (hK15 _ (dL rfl rfl (fun hc9=>?_) (fun hc9=>?_)))))))))
          ·
           simp only[bs] at hc9
           refine aL (hK14 _ (aC (fun K16 hK16=>(aM (aC (fun K17 hK17=>(aB ?_)))))))
           have q2:k2<s.usr.length:=by omega
           refine aE aA 3 rfl ?_
           refine aG rfl (aY rfl rfl rR oA (by first | exact ixm (by omega) | assumption | exact⟨by decide,rfl⟩)) ?_
           refine aE aA 1 rfl (cA hf rfl aK7 rfl oA rfl rfl rfl rfl (lf rfl) (aD (hK17 _ (aC (fun K18 hK18=>(cU hf bF (by kernel_rfl) rfl (aT aA 2 rfl (bL [(69,_)] rfl rfl ⟨⟨rfl,rfl⟩,trivial⟩ rfl (aO rfl rfl lJ rfl (Nm.refRight_den _ (t2 _ (List.getElem_mem _)))) (aT aA 2 rfl (fZ 72 false rfl (fun hg10=>?_) (fun hg10=>?_)))))))))))
           ·
            simp only[bs] at hg10
            refine aT aA 6 rfl (bL [(74,_),(76,_),(78,_)] rfl rfl ⟨⟨rfl,rfl⟩,⟨rfl,rfl⟩,⟨rfl,rfl⟩,trivial⟩ rfl (aO rfl rfl aO5 rfl (aC3 s s.usr[k2] (h5 _ (List.getElem_mem q2)) h1)) (aT aA 3 rfl (fZ 82 false rfl (fun hg11=>?_) (fun hg11=>?_))))
            ·
             simp only[bs] at hg11
             refine aT aA 3 rfl (fZ 85 true rfl (fun hg12=>?_) (fun hg12=>?_))
             ·
              simp only[bs] at hg12
              refine aT aA 3 rfl ?_
              refine bI [(88,_)] rfl rfl ⟨⟨rfl,rfl⟩,trivial⟩ rfl (eZ rfl rfl (by omega) (by omega)) ?_
              refine bI [(87,_),(89,_)] rfl rfl ⟨⟨rfl,rfl⟩,⟨rfl,rfl⟩,trivial⟩ rfl (aY rfl rfl rR oA (iN (k:=k2 - 1) (by omega) (by omega))) (aT aA 4 rfl (bL [(92,_),(94,_)] rfl rfl ⟨⟨rfl,rfl⟩,⟨rfl,rfl⟩,trivial⟩ rfl (aO rfl rfl sQ rfl (Nm.refCmp_den _ _ (t2 _ (List.getElem_mem _)) (t2 _ (List.getElem_mem _)))) (aT aA 3 rfl (cY [1,4,98] rfl rfl rfl (hK18 _ (dL rfl rfl (fun hc13=>?_) (fun hc13=>?_)))))))
              ·
               simp only[bs] at hc13
               refine aC (fun K19 hK19=>(aB (aE aA 1 rfl (aD (hK19 _ (aI ?_))))))
               refine⟨_,rfl,?_⟩
               refine aQ ?_
               refine fF fun h=>?_
               have e1:=h.unm _ (List.getElem_mem q2)
               have e2:=h.uok _ (List.getElem_mem q2)
               (have e3:=aPt h.usr (k:=k2) (by omega) q2; simp only[cW] at e3; omega)
              ·
               simp only[bs] at hc13
               refine aL (hK16 _ (aB (aE aA 1 rfl ?_)))
               refine aG rfl (bK rfl rfl (by omega) (by omega)) ?_
               refine aE aA 1 rfl (aD ?_)
               exact⟨k2+1,⟨by omega,b2.next (by omega) (by first | assumption | (simp_all; done)) (by first | assumption | (simp_all; done)) (fun h0=>by first | omega | (show eJ (s.usr[k2 - 1]).1 (s.usr[k2]).1<0; omega))⟩,by omega,cN rfl⟩
             ·
              simp only[bs] at hg12
              refine aT aA 13 rfl (cY [1,4,98] rfl rfl rfl (hK18 _ (bT rfl (aL (hK16 _ (aB (aE aA 1 rfl ?_)))))))
              refine aG rfl (bK rfl rfl (by omega) (by omega)) ?_
              refine aE aA 1 rfl (aD ?_)
              exact⟨k2+1,⟨by omega,b2.next (by omega) (by first | assumption | (simp_all; done)) (by first | assumption | (simp_all; done)) (fun h0=>by first | omega | (show eJ (s.usr[k2 - 1]).1 (s.usr[k2]).1<0; omega))⟩,by omega,cN rfl⟩
            ·
             simp only[bs] at hg11
             refine aT aA 3 rfl (bP rfl rfl ?_)
             refine bP rfl rfl ?_
             refine bP rfl rfl ?_
             refine bP rfl rfl ?_
             refine bP rfl rfl ?_
             refine bP rfl rfl ?_
             refine bP rfl rfl ?_
             refine bP rfl rfl ?_
             refine bP rfl rfl ?_
             refine bP rfl rfl ?_
             refine bP rfl rfl ?_
             refine aT aA 2 rfl (cY [1,4,98] rfl rfl rfl (hK18 _ (bY rfl (aC (fun K20 hK20=>(aB (aE aA 1 rfl (aD (hK20 _ (aI ?_))))))))))
             refine⟨_,rfl,?_⟩
             refine aQ ?_
             refine fF fun h=>?_
             have e1:=h.unm _ (List.getElem_mem q2)
             have e2:=h.uok _ (List.getElem_mem q2)
             (simp_all; done)
           ·
            simp only[bs] at hg10
            refine aT aA 13 rfl (bP rfl rfl ?_)
            refine bP rfl rfl ?_
            refine bP rfl rfl ?_
            refine bP rfl rfl ?_
            refine bP rfl rfl ?_
            refine bP rfl rfl ?_
            refine bP rfl rfl ?_
            refine bP rfl rfl ?_
            refine bP rfl rfl ?_
            refine bP rfl rfl ?_
            refine bP rfl rfl ?_
            refine aT aA 2 rfl (cY [1,4,98] rfl rfl rfl (hK18 _ (bY rfl (aC (fun K21 hK21=>(aB (aE aA 1 rfl (aD (hK21 _ (aI ?_))))))))))
            refine⟨_,rfl,?_⟩
            refine aQ ?_
            refine fF fun h=>?_
            have e1:=h.unm _ (List.getElem_mem q2)
            have e2:=h.uok _ (List.getElem_mem q2)
            (simp_all; done)
          ·
           simp only[bs] at hc9
           refine aX (hK12 _ (aC (fun K22 hK22=>(aC (fun K23 hK23=>(aB (aE aA 1 rfl (aD (hK23 _ (aM (bM (ι:=Nat) (fun k3=>⟨178,[(1,.adr (bJ s)),(6,.s (.int .i64 (k3:Nat)))],[]⟩) (fun k3=>k3≤s.sub.length∧∀ (j:Nat) (hj:j<s.sub.length),j<k3→aDk s s.sub[j]=true) (fun k3=>s.sub.length - k3) 0 ?_ ?_ ?_)))))))))))
           · exact⟨Nat.zero_le _,by omega⟩
           · exact cN rfl
           ·
            rintro k3 hC
            obtain ⟨c1,c2⟩:=hC
            refine aC (fun K24 hK24=>(aC (fun K25 hK25=>(aB (aE aA 5 rfl (aD (hK25 _ (dL rfl rfl (fun hc17=>?_) (fun hc17=>?_)))))))))
            ·
             simp only[bs] at hc17
             refine aL (hK24 _ (aC (fun K26 hK26=>(aM (aC (fun K27 hK27=>(aB ?_)))))))
             have q3:k3<s.sub.length:=by omega
             refine aE aA 3 rfl ?_
             refine aG rfl (aY rfl rfl lB gV (by first | exact ixm (by omega) | assumption | exact⟨by decide,rfl⟩)) ?_
             refine aE aA 1 rfl (cA hf rfl zV rfl gV rfl rfl rfl rfl (lf rfl) (aD (hK27 _ (aC (fun K28 hK28=>(aB (aE aA 4 rfl (aW rfl rfl rfl (fun hg18=>?_) (fun hg18=>?_)))))))))
             ·
              simp only[bs] at hg18
              refine aG rfl (bW rfl aIe cD rfl) ?_
              refine aE aA 6 rfl (aW rfl rfl rfl (fun hg19=>?_) (fun hg19=>?_))
              ·
               simp only[bs] at hg19
               refine aG rfl (bW rfl yJ cD rfl) ?_
               refine aE aA 5 rfl (aW rfl rfl rfl (fun hg20=>?_) (fun hg20=>?_))
               ·
                simp only[bs] at hg20
                refine aG rfl (bW rfl yJ cD rfl) ?_
                refine aE aA 4 rfl (aD (hK28 _ (dL rfl rfl (fun hc21=>?_) (fun hc21=>?_))))
                ·
                 simp only[bs] at hc21
                 refine aC (fun K29 hK29=>(aB (aE aA 1 rfl (aD (hK29 _ (aI ?_))))))
                 refine⟨_,rfl,?_⟩
                 refine aQ ?_
                 refine fF fun h=>?_
                 have e1:=fX.1 (h.sok _ (List.getElem_mem q3))
                 omega
                ·
                 simp only[bs] at hc21
                 refine aL (hK26 _ (aB (aE aA 1 rfl ?_)))
                 refine aG rfl (bK rfl rfl (by omega) (by omega)) ?_
                 refine aE aA 1 rfl (aD ?_)
                 exact⟨k3+1,⟨by omega,lK c2 (by omega) (fX.2 ⟨by omega,by omega,by omega⟩)⟩,by omega,cN rfl⟩
               ·
                simp only[bs] at hg20
                refine aE aA 4 rfl (aD (hK28 _ (bT rfl (aL (hK26 _ (aB (aE aA 1 rfl ?_)))))))
                refine aG rfl (bK rfl rfl (by omega) (by omega)) ?_
                refine aE aA 1 rfl (aD ?_)
                exact⟨k3+1,⟨by omega,lK c2 (by omega) (fX.2 ⟨by omega,by omega,by omega⟩)⟩,by omega,cN rfl⟩
              ·
               simp only[bs] at hg19
               refine aE aA 5 rfl (fE rfl rfl rfl ?_)
               refine fE rfl rfl rfl ?_
               refine fE rfl rfl rfl ?_
               refine aE aA 2 rfl (aD (hK28 _ (bY rfl (aC (fun K30 hK30=>(aB (aE aA 1 rfl (aD (hK30 _ (aI ?_))))))))))
               refine⟨_,rfl,?_⟩
               refine aQ ?_
               refine fF fun h=>?_
               have e1:=fX.1 (h.sok _ (List.getElem_mem q3))
               omega
             ·
              simp only[bs] at hg18
              refine aE aA 12 rfl (fE rfl rfl rfl ?_)
              refine fE rfl rfl rfl ?_
              refine fE rfl rfl rfl ?_
              refine aE aA 2 rfl (aD (hK28 _ (bY rfl (aC (fun K31 hK31=>(aB (aE aA 1 rfl (aD (hK31 _ (aI ?_))))))))))
              refine⟨_,rfl,?_⟩
              refine aQ ?_
              refine fF fun h=>?_
              have e1:=fX.1 (h.sok _ (List.getElem_mem q3))
              omega
            ·
             simp only[bs] at hc17
             refine aX (hK22 _ (aC (fun K32 hK32=>(aC (fun K33 hK33=>(aB (aE aA 1 rfl (aD (hK33 _ (aM (bM (ι:=Nat) (fun k4=>⟨178,[(1,.adr (bJ s)),(8,.s (.int .i64 (k4:Nat)))],[]⟩) (fun k4=>k4≤s.tmb.length∧RisUp eO (fun x=>aTf s x=true) s.tmb k4) (fun k4=>s.tmb.length - k4) 0 ?_ ?_ ?_)))))))))))
             · exact⟨Nat.zero_le _,RisUp.zero⟩
             · exact cN rfl
             ·
              rintro k4 hC
              obtain ⟨d1,d2⟩:=hC
              refine aC (fun K34 hK34=>(aC (fun K35 hK35=>(aB (aE aA 5 rfl (aD (hK35 _ (dL rfl rfl (fun hc25=>?_) (fun hc25=>?_)))))))))
              ·
               simp only[bs] at hc25
               refine aL (hK34 _ (aC (fun K36 hK36=>(aM (aC (fun K37 hK37=>(aB ?_)))))))
               have q4:k4<s.tmb.length:=by omega
               refine aE aA 3 rfl ?_
               refine aG rfl (aY rfl rfl aE0 rS (by first | exact ixm (by omega) | assumption | exact⟨by decide,rfl⟩)) ?_
               refine aE aA 1 rfl (cA hf rfl aGm rfl rS rfl rfl rfl rfl (lf rfl) (aD (hK37 _ (aC (fun K38 hK38=>(cU hf bF (by kernel_rfl) rfl (aT aA 2 rfl (bL [(146,_)] rfl rfl ⟨⟨rfl,rfl⟩,trivial⟩ rfl (aO rfl rfl lJ rfl (Nm.refRight_den _ (t4 _ (List.getElem_mem _)))) (aT aA 2 rfl (fZ 149 false rfl (fun hg26=>?_) (fun hg26=>?_)))))))))))
               ·
                simp only[bs] at hg26
                refine aT aA 5 rfl (fZ 154 false rfl (fun hg27=>?_) (fun hg27=>?_))
                ·
                 simp only[bs] at hg27
                 refine aT aA 7 rfl (fZ 161 false rfl (fun hg28=>?_) (fun hg28=>?_))
                 ·
                  simp only[bs] at hg28
                  refine aT aA 3 rfl (fZ 164 true rfl (fun hg29=>?_) (fun hg29=>?_))
                  ·
                   simp only[bs] at hg29
                   refine aT aA 3 rfl ?_
                   refine bI [(167,_)] rfl rfl ⟨⟨rfl,rfl⟩,trivial⟩ rfl (eZ rfl rfl (by omega) (by omega)) ?_
                   refine bI [(166,_),(168,_)] rfl rfl ⟨⟨rfl,rfl⟩,⟨rfl,rfl⟩,trivial⟩ rfl (aY rfl rfl aE0 rS (iN (k:=k4 - 1) (by omega) (by omega))) (aT aA 4 rfl (bL [(171,_),(173,_)] rfl rfl ⟨⟨rfl,rfl⟩,⟨rfl,rfl⟩,trivial⟩ rfl (aO rfl rfl sQ rfl (Nm.refCmp_den _ _ (t4 _ (List.getElem_mem _)) (t4 _ (List.getElem_mem _)))) (aT aA 3 rfl (cY [1,8,177] rfl rfl rfl (hK38 _ (dL rfl rfl (fun hc30=>?_) (fun hc30=>?_)))))))
                   ·
                    simp only[bs] at hc30
                    refine aC (fun K39 hK39=>(aB (aE aA 1 rfl (aD (hK39 _ (aI ?_))))))
                    refine⟨_,rfl,?_⟩
                    refine aQ ?_
                    refine fF fun h=>?_
                    have e1:=h.tnm _ (List.getElem_mem q4)
                    have e2:=jZ.1 (h.tok _ (List.getElem_mem q4))
                    (have e3:=aPt h.tmb (k:=k4) (by omega) q4; simp only[eO] at e3; omega)
                   ·
                    simp only[bs] at hc30
                    refine aL (hK36 _ (aB (aE aA 1 rfl ?_)))
                    refine aG rfl (bK rfl rfl (by omega) (by omega)) ?_
                    refine aE aA 1 rfl (aD ?_)
                    exact⟨k4+1,⟨by omega,d2.next (by omega) (by first | assumption | (simp_all; done)) (jZ.2 ⟨by omega,by omega⟩) (fun h0=>by first | omega | (show eJ (s.tmb[k4 - 1]).1 (s.tmb[k4]).1<0; omega))⟩,by omega,cN rfl⟩
                  ·
                   simp only[bs] at hg29
                   refine aT aA 13 rfl (cY [1,8,177] rfl rfl rfl (hK38 _ (bT rfl (aL (hK36 _ (aB (aE aA 1 rfl ?_)))))))
                   refine aG rfl (bK rfl rfl (by omega) (by omega)) ?_
                   refine aE aA 1 rfl (aD ?_)
                   exact⟨k4+1,⟨by omega,d2.next (by omega) (by first | assumption | (simp_all; done)) (jZ.2 ⟨by omega,by omega⟩) (fun h0=>by first | omega | (show eJ (s.tmb[k4 - 1]).1 (s.tmb[k4]).1<0; omega))⟩,by omega,cN rfl⟩
                 ·
                  simp only[bs] at hg28
                  refine aT aA 3 rfl (bP rfl rfl ?_)
                  refine bP rfl rfl ?_
                  refine bP rfl rfl ?_
                  refine bP rfl rfl ?_
                  refine bP rfl rfl ?_
                  refine bP rfl rfl ?_
                  refine bP rfl rfl ?_
                  refine bP rfl rfl ?_
                  refine bP rfl rfl ?_
                  refine bP rfl rfl ?_
                  refine bP rfl rfl ?_
                  refine aT aA 2 rfl (cY [1,8,177] rfl rfl rfl (hK38 _ (bY rfl (aC (fun K40 hK40=>(aB (aE aA 1 rfl (aD (hK40 _ (aI ?_))))))))))
                  refine⟨_,rfl,?_⟩
                  refine aQ ?_
                  refine fF fun h=>?_
                  have e1:=h.tnm _ (List.getElem_mem q4)
                  have e2:=jZ.1 (h.tok _ (List.getElem_mem q4))
                  omega
                ·
                 simp only[bs] at hg27
                 refine aT aA 10 rfl (bP rfl rfl ?_)
                 refine bP rfl rfl ?_
                 refine bP rfl rfl ?_
                 refine bP rfl rfl ?_
                 refine bP rfl rfl ?_
                 refine bP rfl rfl ?_
                 refine bP rfl rfl ?_
                 refine bP rfl rfl ?_
                 refine bP rfl rfl ?_
                 refine bP rfl rfl ?_
                 refine bP rfl rfl ?_
                 refine aT aA 2 rfl (cY [1,8,177] rfl rfl rfl (hK38 _ (bY rfl (aC (fun K41 hK41=>(aB (aE aA 1 rfl (aD (hK41 _ (aI ?_))))))))))
                 refine⟨_,rfl,?_⟩
                 refine aQ ?_
                 refine fF fun h=>?_
                 have e1:=h.tnm _ (List.getElem_mem q4)
                 have e2:=jZ.1 (h.tok _ (List.getElem_mem q4))
                 omega
               ·
                simp only[bs] at hg26
                refine aT aA 15 rfl (bP rfl rfl ?_)
                refine bP rfl rfl ?_
                refine bP rfl rfl ?_
                refine bP rfl rfl ?_
                refine bP rfl rfl ?_
                refine bP rfl rfl ?_
                refine bP rfl rfl ?_
                refine bP rfl rfl ?_
                refine bP rfl rfl ?_
                refine bP rfl rfl ?_
                refine bP rfl rfl ?_
                refine aT aA 2 rfl (cY [1,8,177] rfl rfl rfl (hK38 _ (bY rfl (aC (fun K42 hK42=>(aB (aE aA 1 rfl (aD (hK42 _ (aI ?_))))))))))
                refine⟨_,rfl,?_⟩
                refine aQ ?_
                refine fF fun h=>?_
                have e1:=h.tnm _ (List.getElem_mem q4)
                have e2:=jZ.1 (h.tok _ (List.getElem_mem q4))
                (simp_all; done)
              ·
               simp only[bs] at hc25
               refine aX (hK32 _ (aC (fun K43 hK43=>(aB (aE aA 1 rfl (aD (hK43 _ (aI ?_))))))))
               refine⟨_,rfl,?_⟩
               refine aQ ?_
               exact aQy ⟨by omega,by omega,by omega,by omega,by first | assumption | (simp_all; done),aK4 (by omega) a2,b2.n (by omega),b2.r (by omega),b2.q (by omega),by first | assumption | (simp_all; done),aK4 (by omega) c2,d2.n (by omega),d2.r (by omega),d2.q (by omega)⟩
     ·
      simp only[bs] at hg5
      refine aE aA 4 rfl (aD (hK3 _ (bY rfl (aC (fun K44 hK44=>(aB (aE aA 1 rfl (aD (hK44 _ (aI ?_))))))))))
      refine⟨_,rfl,?_⟩
      refine aQ ?_
      refine fF fun h=>?_
      have n0:=h.n0
      have n1:=h.n1
      have n2:=h.h0
      have n3:=h.h1
      have n4:=h.opn
      have n5:=h.sub
      (simp_all; done)
    ·
     simp only[bs] at hg4
     refine aE aA 10 rfl (aD (hK3 _ (bY rfl (aC (fun K45 hK45=>(aB (aE aA 1 rfl (aD (hK45 _ (aI ?_))))))))))
     refine⟨_,rfl,?_⟩
     refine aQ ?_
     refine fF fun h=>?_
     have n0:=h.n0
     have n1:=h.n1
     have n2:=h.h0
     have n3:=h.h1
     have n4:=h.opn
     have n5:=h.sub
     omega
   ·
    simp only[bs] at hg3
    refine aE aA 15 rfl (aD (hK3 _ (bY rfl (aC (fun K46 hK46=>(aB (aE aA 1 rfl (aD (hK46 _ (aI ?_))))))))))
    refine⟨_,rfl,?_⟩
    refine aQ ?_
    refine fF fun h=>?_
    have n0:=h.n0
    have n1:=h.n1
    have n2:=h.h0
    have n3:=h.h1
    have n4:=h.opn
    have n5:=h.sub
    omega
  ·
   simp only[bs] at hg2
   refine aE aA 20 rfl (aD (hK3 _ (bY rfl (aC (fun K47 hK47=>(aB (aE aA 1 rfl (aD (hK47 _ (aI ?_))))))))))
   refine⟨_,rfl,?_⟩
   refine aQ ?_
   refine fF fun h=>?_
   have n0:=h.n0
   have n1:=h.n1
   have n2:=h.h0
   have n3:=h.h1
   have n4:=h.opn
   have n5:=h.sub
   omega
 ·
  simp only[bs] at hg1
  refine aE aA 25 rfl (aD (hK3 _ (bY rfl (aC (fun K48 hK48=>(aB (aE aA 1 rfl (aD (hK48 _ (aI ?_))))))))))
  refine⟨_,rfl,?_⟩
  refine aQ ?_
  refine fF fun h=>?_
  have n0:=h.n0
  have n1:=h.n1
  have n2:=h.h0
  have n3:=h.h1
  have n4:=h.opn
  have n5:=h.sub
  omega
end Go.Proofs.YtpkanhklapfajaaGreat
set_option linter.unusedVariables false
set_option linter.unusedSimpArgs false
namespace Go.Proofs.YtpkanhklapfajaaGreat
open Go Go.Abs
end Go.Proofs.YtpkanhklapfajaaGreat
set_option linter.unusedVariables false
namespace Go.Abs
open Go
abbrev aEe:ByteArray:=⟨#[97,110,110]⟩
end Go.Abs
set_option linter.unusedVariables false
set_option linter.unusedSimpArgs false
namespace Go.Proofs.YtpkanhklapfajaaGreat
open Go Go.Abs
theorem qL (s:Sta) (hz:SzS 140737488355328 s) (ts:TsS s):Den Tryz.prog 12 [.agg (bJ s)] (·=.s (.bool (oV s))) :=
  aC8 s (by have:=hz.o; omega) (by have:=hz.u; omega) (by have:=hz.b; omega) (by have:=hz.t; omega) (fun x hx=>by have:=hz.y x hx; omega) ts.o ts.u ts.b ts.t
theorem newW (s:Sta) (hz:SzS 140737488353280 s):Den Tryz.prog 15 [.agg (bJ s)] (·=.agg (bJ s)):=aRe s (hz.mono (by omega))
theorem staysW (s:Sta) (u:ByteArray) (t:Int) (hz:SzS 140737488353280 s) (h:RightP s):Den Tryz.prog 43 [.agg (bJ s),.s (.string u),.s (.int .i64 t)] (·=.sl 4 ((dN s u t).map stC)):=aIx s u t hz (Nat.le_trans (aPu h) (by decide)) h.usr
theorem aF5 (s:Sta) (u:ByteArray) (t:Int) (hz:SzS 140737488353280 s) (h:RightP s):Den Tryz.prog 25 [.agg (bJ s),.s (.string u),.s (.int .i64 t)] (·=.sl 4 ((dN s u t).map stC)):=aC4 s u t hz (Nat.le_trans (aPu h) (by decide)) h.usr
end Go.Proofs.YtpkanhklapfajaaGreat
set_option linter.unusedVariables false
set_option linter.unusedSimpArgs false
namespace Go.Proofs.YtpkanhklapfajaaGreat
open Go Go.Abs
theorem aE9 (a b:List bC) (h:a=b) (ha:a.length≤9223372036854775807):Den Tryz.prog 18 [.sl 4 (a.map stC),.sl 4 (b.map stC)] (·=.s (.bool true)):=by
  subst h
  exact(aG7 a a ha ha).mono fun r h=>h.trans (by simp)
end Go.Proofs.YtpkanhklapfajaaGreat
set_option linter.unusedVariables false
set_option linter.unusedSimpArgs false
namespace Go.Proofs.YtpkanhklapfajaaGreat
open Go Go.Abs
theorem aC6 (l:List bC) (hl:l.length*32+32≤140737488355328) :Den Tryz.prog 101 [.sl 4 (l.map stC)]  (·=.sl 4 ((aAa l).map stC)):=by
 refine aR Tryz.func101 rfl (Nat.le_of_ble_eq_true rfl) (fun w0 A hf=>(aC (fun K1 hK1=>(aB (aG rfl (bD) (aD (hK1 _ (aC (fun K2 hK2=>(aB (aG rfl (qY (k:=4)) (aD (hK2 _ (aC (fun K3 hK3=>(aC (fun K4 hK4=>?_)))))))))))))))))
 refine aB (aE aA 1 rfl (aD (hK4 _ (aM (bM (ι:=Nat×List bC) (fun(⟨k,out⟩:Nat×List bC)=>⟨49,[(0,.sl 4 (l.map stC)),(3,.sl 4 (out.map stC)),(4,.s (.int .i64 (k:Nat)))],[]⟩) (fun(⟨k,out⟩:Nat×List bC)=>k≤l.length∧out=(l.take k).foldl sG []∧out.length=k) (fun(⟨k,out⟩:Nat×List bC)=>l.length - k) (0,[]) ?_ ?_ ?_)))))
 · exact⟨Nat.zero_le _,rfl,rfl⟩
 · exact cN rfl
 ·
  rintro ⟨k,out⟩ hC
  obtain ⟨h1,h2,h3⟩:=hC
  refine aC (fun K5 hK5=>(aC (fun K6 hK6=>(aB (aE aA 4 rfl (aD (hK6 _ (aK rfl (fun hc1=>?_) (fun hc1=>?_)))))))))
  ·
   simp only[bs] at hc1
   refine aL (hK5 _ (aC (fun K7 hK7=>(aM (aC (fun K8 hK8=>(aB (aE aA 1 rfl (aD (hK8 _ (aC (fun K9 hK9=>(aM (bM (ι:=Nat) (fun a=>⟨49,[(0,.sl 4 (l.map stC)),(3,.sl 4 (out.map stC)),(4,.s (.int .i64 (k:Nat))),(5,.s (.int .i64 (a:Nat)))],[]⟩) (fun a=>a≤out.length∧∀ (j:Nat) (hj:j<out.length),j<a→¬ gL l[k] out[j]<0) (fun a=>out.length - a) 0 ?_ ?_ ?_))))))))))))))
   · exact⟨Nat.zero_le _,by omega⟩
   · exact cN rfl
   ·
    rintro a hC
    obtain ⟨h4,h5⟩:=hC
    refine aC (fun K10 hK10=>(aC (fun K11 hK11=>(cU hf bF (by kernel_rfl) rfl (aT aA 5 rfl (fZ 17 true rfl (fun hg2=>?_) (fun hg2=>?_)))))))
    ·
     simp only[bs] at hg2
     refine aT aA 2 rfl ?_
     refine bI [(18,_),(19,_)] rfl rfl ⟨⟨rfl,rfl⟩,⟨rfl,rfl⟩,trivial⟩ rfl (aY rfl rfl dC cS (by first | exact ixm (by omega) | assumption | exact⟨by decide,rfl⟩)) ?_
     refine aT aA 3 rfl ?_
     refine bI [(22,_),(23,_)] rfl rfl ⟨⟨rfl,rfl⟩,⟨rfl,rfl⟩,trivial⟩ rfl (aY rfl rfl dC cS (by first | exact ixm (by omega) | assumption | exact⟨by decide,rfl⟩)) ?_
     refine aT aA 1 rfl (bL [(21,_),(25,_)] rfl rfl ⟨⟨rfl,rfl⟩,⟨rfl,rfl⟩,trivial⟩ rfl (aO rfl rfl uN rfl (wO l[k] out[a])) (aT aA 2 rfl (cY [0,3,4,5,28] rfl rfl rfl (hK11 _ (aK rfl (fun hc3=>?_) (fun hc3=>?_))))))
     ·
      simp only[bs] at hc3
      refine aL (hK10 _ (aM (aB (aE aA 1 rfl ?_))))
      refine aG rfl (bK rfl rfl (by omega) (by omega)) ?_
      refine aE aA 1 rfl ?_
      refine bH ?_
      exact⟨a+1,⟨by omega,fun j hj hja=>by
       by_cases e:j=a
       · subst e; omega
       · exact h5 j hj (by omega)⟩,by omega,cN rfl⟩
     ·
      simp only[bs] at hc3
      refine aX (hK9 _ (aC (fun K12 hK12=>(aB ?_))))
      have hins:=aHm l[k] out a (by omega) h5 (fun h=>by omega)
      refine cT hf rfl rfl rfl eP rfl rfl rfl rfl (l2 rfl) ?_
      refine aE aA 2 rfl (aG rfl (dE rfl dC cS rfl (kH rfl (by omega)) (by omega) (by simp only[List.length_map,Int.toNat_natCast] <;> omega) (jW (k:=a) (by omega))) ?_)
      refine aZ hf rfl eP rfl rfl rfl (.inl rfl) (by first | rfl | (simp only[List.length_append,List.length_map,List.length_cons,List.length_nil,List.length_take] <;> omega)) rfl (by first | rfl | simp [dJ,bG]) (by first | (simp only[maxLen,List.length_map,List.length_append,List.length_cons,List.length_nil]; omega) | (simp [maxLen] <;> omega)) (by first | (simp only[List.length_map,List.length_append,List.length_cons,List.length_nil]; omega) | (simp <;> omega)) ?_
      refine aU (cM [0,3,4,5,35] rfl) (aE aA 1 rfl (aD (hK12 _ (aC (fun K13 hK13=>(aB (aE aA 3 rfl ?_)))))))
      refine aG rfl (aY rfl rfl dC cS (by first | exact ixm (by omega) | assumption | exact⟨by decide,rfl⟩)) ?_
      refine aE aA 1 rfl (aJ hf rfl (aP eP rfl rfl rfl rfl (l2 rfl)) (aZ hf rfl eP rfl rfl rfl (.inl rfl) (by first | rfl | (simp only[List.length_append,List.length_map,List.length_cons,List.length_nil,List.length_take] <;> omega)) rfl (by first | rfl | simp [dJ,bG]) (by first | (simp only[maxLen,List.length_map,List.length_append,List.length_cons,List.length_nil]; omega) | (simp [maxLen] <;> omega)) (by first | (simp only[List.length_map,List.length_append,List.length_cons,List.length_nil]; omega) | (simp <;> omega)) ?_))
      refine aU (cM [0,3,4,5,42] rfl) (aE aA 1 rfl (aD (hK13 _ (aB (aE aA 3 rfl (aG rfl (dE rfl dC cS (kH rfl (by omega)) rfl (by simp only[List.length_map,Int.toNat_natCast] <;> omega) (by omega) (gX (k:=a) (by omega))) ?_))))))
      refine aZ hf rfl eP rfl rfl rfl (.inl rfl) (by first | rfl | (simp only[List.length_append,List.length_map,List.length_cons,List.length_nil,List.length_take] <;> omega)) rfl (by first | rfl | simp [dJ,bG]) (by first | (simp only[maxLen,List.length_map,List.length_append,List.length_cons,List.length_nil]; omega) | (simp [maxLen] <;> omega)) (by first | (simp only[List.length_map,List.length_append,List.length_cons,List.length_nil]; omega) | (simp <;> omega)) ?_
      refine aU (cM [0,4,47] rfl) (aE aA 1 rfl ?_)
      refine bH ?_
      refine hK7 _ (aB (aU (mT (sl':=[(0,.sl 4 (l.map stC)),(3,.sl 4 ((sG out l[k]).map stC)),(4,.s (.int .i64 (k:Nat)))]) ⟨⟨_,rfl,rfl⟩,⟨_,rfl,(lG (g:=31) rfl (by simp only[List.length_append,List.length_map,List.length_cons,List.length_nil,List.length_take])).trans (by rw[hins]; first | (simp; done) | (simp; rfl))⟩,⟨_,rfl,rfl⟩,trivial⟩) ?_))
      refine aE aA 1 rfl ?_
      refine aG rfl (bK rfl rfl (by omega) (by omega)) ?_
      refine aE aA 1 rfl (aD ?_)
      exact⟨(k+1,sG out l[k]),⟨by omega,by rw[dU l sG [] k (by omega),← h2],by rw[(rF _ _).length_eq,List.length_cons,h3]⟩,by simp only; omega,cN rfl⟩
    ·
     simp only[bs] at hg2
     refine aT aA 11 rfl (cY [0,3,4,5,28] rfl rfl rfl (hK11 _ (bT rfl (aX (hK9 _ (aC (fun K14 hK14=>(aB ?_))))))))
     have hins:=aHm l[k] out a (by omega) h5 (fun h=>by omega)
     refine cT hf rfl rfl rfl eP rfl rfl rfl rfl (l2 rfl) ?_
     refine aE aA 2 rfl (aG rfl (dE rfl dC cS rfl (kH rfl (by omega)) (by omega) (by simp only[List.length_map,Int.toNat_natCast] <;> omega) (jW (k:=a) (by omega))) ?_)
     refine aZ hf rfl eP rfl rfl rfl (.inl rfl) (by first | rfl | (simp only[List.length_append,List.length_map,List.length_cons,List.length_nil,List.length_take] <;> omega)) rfl (by first | rfl | simp [dJ,bG]) (by first | (simp only[maxLen,List.length_map,List.length_append,List.length_cons,List.length_nil]; omega) | (simp [maxLen] <;> omega)) (by first | (simp only[List.length_map,List.length_append,List.length_cons,List.length_nil]; omega) | (simp <;> omega)) ?_
     refine aU (cM [0,3,4,5,35] rfl) (aE aA 1 rfl (aD (hK14 _ (aC (fun K15 hK15=>(aB (aE aA 3 rfl ?_)))))))
     refine aG rfl (aY rfl rfl dC cS (by first | exact ixm (by omega) | assumption | exact⟨by decide,rfl⟩)) ?_
     refine aE aA 1 rfl (aJ hf rfl (aP eP rfl rfl rfl rfl (l2 rfl)) (aZ hf rfl eP rfl rfl rfl (.inl rfl) (by first | rfl | (simp only[List.length_append,List.length_map,List.length_cons,List.length_nil,List.length_take] <;> omega)) rfl (by first | rfl | simp [dJ,bG]) (by first | (simp only[maxLen,List.length_map,List.length_append,List.length_cons,List.length_nil]; omega) | (simp [maxLen] <;> omega)) (by first | (simp only[List.length_map,List.length_append,List.length_cons,List.length_nil]; omega) | (simp <;> omega)) ?_))
     refine aU (cM [0,3,4,5,42] rfl) (aE aA 1 rfl (aD (hK15 _ (aB (aE aA 3 rfl (aG rfl (dE rfl dC cS (kH rfl (by omega)) rfl (by simp only[List.length_map,Int.toNat_natCast] <;> omega) (by omega) (gX (k:=a) (by omega))) ?_))))))
     refine aZ hf rfl eP rfl rfl rfl (.inl rfl) (by first | rfl | (simp only[List.length_append,List.length_map,List.length_cons,List.length_nil,List.length_take] <;> omega)) rfl (by first | rfl | simp [dJ,bG]) (by first | (simp only[maxLen,List.length_map,List.length_append,List.length_cons,List.length_nil]; omega) | (simp [maxLen] <;> omega)) (by first | (simp only[List.length_map,List.length_append,List.length_cons,List.length_nil]; omega) | (simp <;> omega)) ?_
     refine aU (cM [0,4,47] rfl) (aE aA 1 rfl ?_)
     refine bH ?_
     refine hK7 _ (aB (aU (mT (sl':=[(0,.sl 4 (l.map stC)),(3,.sl 4 ((sG out l[k]).map stC)),(4,.s (.int .i64 (k:Nat)))]) ⟨⟨_,rfl,rfl⟩,⟨_,rfl,(lG (g:=31) rfl (by simp only[List.length_append,List.length_map,List.length_cons,List.length_nil,List.length_take])).trans (by rw[hins]; first | (simp; done) | (simp; rfl))⟩,⟨_,rfl,rfl⟩,trivial⟩) ?_))
     refine aE aA 1 rfl ?_
     refine aG rfl (bK rfl rfl (by omega) (by omega)) ?_
     refine aE aA 1 rfl (aD ?_)
     exact⟨(k+1,sG out l[k]),⟨by omega,by rw[dU l sG [] k (by omega),← h2],by rw[(rF _ _).length_eq,List.length_cons,h3]⟩,by simp only; omega,cN rfl⟩
  ·
   simp only[bs] at hc1
   refine aX (hK3 _ (aC (fun K16 hK16=>(aB (aE aA 2 rfl (aD (hK16 _ (aI ?_))))))))
   refine⟨_,rfl,?_⟩
   show AV.sl 4 (out.map stC)=_
   rw[h2,List.take_of_length_le (by omega)]; rfl
theorem aJf (l:List bC) (b:List Sp) (hl:l.length*32+32≤140737488355328) (hb0:b.length≤1000000000) (hlb:l.length*(dY b).length*32≤140737488351232) :Den Tryz.prog 48 [.sl 4 (l.map stC),.sl 2 (b.map spC)]  (·=.sl 4 ((aFq l b).map stC)):=by
 have hnb:=tT b
 refine aR Tryz.func48 rfl (Nat.le_of_ble_eq_true rfl) (fun w0 A hf=>(aC (fun K1 hK1=>(aB (aG rfl (bD) (aD (hK1 _ (aC (fun K2 hK2=>(aB (kW hf 4 rfl rfl rfl (aD (hK2 _ (aC (fun K3 hK3=>(aB ?_))))))))))))))))
 refine aE aA 1 rfl (aJ hf rfl (aO rfl rfl aBh rfl (aAd b (by omega))) (aE aA 1 rfl (aD (hK3 _ (aC (fun K4 hK4=>(aC (fun K5 hK5=>(aB (aE aA 1 rfl (aD (hK5 _ (aM (bM (ι:=Nat×List bC) (fun(⟨k,out⟩:Nat×List bC)=>⟨68,[(0,.sl 4 (l.map stC)),(5,.own 5 4 0 out.length),(6,.sl 2 ((dY b).map spC)),(7,.s (.int .i64 (k:Nat)))],[(5,.buf 4 (out.map stC))]⟩) (fun(⟨k,out⟩:Nat×List bC)=>k≤l.length∧out=pO (l.take k) (dY b)∧out.length≤k*(dY b).length) (fun(⟨k,out⟩:Nat×List bC)=>l.length - k) (0,[]) ?_ ?_ ?_))))))))))))))
 · exact⟨Nat.zero_le _,rfl,Nat.zero_le _⟩
 · exact cN rfl
 ·
  rintro ⟨k,out⟩ hC
  obtain ⟨h1,h2,h3⟩:=hC
  refine aC (fun K6 hK6=>(aC (fun K7 hK7=>(aB (aE aA 4 rfl (aD (hK7 _ (aK rfl (fun hc1=>?_) (fun hc1=>?_)))))))))
  ·
   simp only[bs] at hc1
   refine aL (hK6 _ (aC (fun K8 hK8=>(aM (aC (fun K9 hK9=>(aB (aE aA 1 rfl (aD (hK9 _ (aM (bM (ι:=Nat×List bC) (fun(⟨j,o⟩:Nat×List bC)=>⟨68,[(0,.sl 4 (l.map stC)),(5,.own 5 4 0 o.length),(6,.sl 2 ((dY b).map spC)),(7,.s (.int .i64 (k:Nat))),(8,.s (.int .i64 (j:Nat)))],[(5,.buf 4 (o.map stC))]⟩) (fun(⟨j,o⟩:Nat×List bC)=>j≤(dY b).length∧o=out++((dY b).take j).flatMap (rC l[k])∧o.length≤k*(dY b).length+j) (fun(⟨j,o⟩:Nat×List bC)=>(dY b).length - j) (0,out) ?_ ?_ ?_))))))))))))
   · exact⟨Nat.zero_le _,by simp,by omega⟩
   · exact cN rfl
   ·
    rintro ⟨j,o⟩ hC
    obtain ⟨h4,h5,h6⟩:=hC
    refine aC (fun K10 hK10=>(aC (fun K11 hK11=>(aB (aE aA 4 rfl (aD (hK11 _ (aK rfl (fun hc2=>?_) (fun hc2=>?_)))))))))
    ·
     simp only[bs] at hc2
     refine aL (hK10 _ (aC (fun K12 hK12=>(aM (aC (fun K13 hK13=>(cU hf bF (by kernel_rfl) rfl ?_)))))))
     have hm:=Nat.mul_le_mul_right (dY b).length (show k+1≤l.length by omega)
     rw[Nat.add_mul,Nat.one_mul] at hm
     have hj:j<(dY b).length:=by omega
     have hk:k<l.length:=by omega
     refine aT aA 2 rfl ?_
     refine bI [(25,_),(26,_)] rfl rfl ⟨⟨rfl,rfl⟩,⟨rfl,rfl⟩,trivial⟩ rfl (aY rfl rfl dC cS (by first | exact ixm (by omega) | assumption | exact⟨by decide,rfl⟩)) ?_
     refine aT aA 4 rfl ?_
     refine bI [(30,_),(31,_)] rfl rfl ⟨⟨rfl,rfl⟩,⟨rfl,rfl⟩,trivial⟩ rfl (aY rfl rfl mM mN (by first | exact ixm (by omega) | assumption | exact⟨by decide,rfl⟩)) ?_
     refine aT aA 2 rfl (bI [(29,_),(34,_)] rfl rfl ⟨⟨rfl,rfl⟩,⟨rfl,rfl⟩,trivial⟩ rfl (aPz rfl rfl) (aT aA 1 rfl (cY [0,5,6,7,8,9] rfl rfl rfl (hK13 _ (aC (fun K14 hK14=>(cU hf bF (by kernel_rfl) rfl (aT aA 2 rfl ?_))))))))
     refine bI [(36,_),(37,_)] rfl rfl ⟨⟨rfl,rfl⟩,⟨rfl,rfl⟩,trivial⟩ rfl (aY rfl rfl dC cS (by first | exact ixm (by omega) | assumption | exact⟨by decide,rfl⟩)) ?_
     refine aT aA 4 rfl ?_
     refine bI [(41,_),(42,_)] rfl rfl ⟨⟨rfl,rfl⟩,⟨rfl,rfl⟩,trivial⟩ rfl (aY rfl rfl mM mN (by first | exact ixm (by omega) | assumption | exact⟨by decide,rfl⟩)) ?_
     refine aT aA 2 rfl (bI [(40,_),(45,_)] rfl rfl ⟨⟨rfl,rfl⟩,⟨rfl,rfl⟩,trivial⟩ rfl (p_min rfl rfl) (aT aA 1 rfl (cY [0,5,6,7,8,9,10] rfl rfl rfl (hK14 _ (aC (fun K15 hK15=>(aB (aE aA 3 rfl (aD (hK15 _ (aK rfl (fun hc3=>?_) (fun hc3=>?_))))))))))))
     ·
      simp only[bs] at hc3
      refine fO hf (L:=#[true,true,true,true,true,true,true,true,true,true,true,true,true,true,true,false,false]) 15 2 bF (by kernel_rfl) rfl (by kernel_rfl) rfl ?_
      refine aT aA 5 rfl ?_
      refine bI [(53,_),(54,_)] rfl rfl ⟨⟨rfl,rfl⟩,⟨rfl,rfl⟩,trivial⟩ rfl (aY rfl rfl dC cS (by first | exact ixm (by omega) | assumption | exact⟨by decide,rfl⟩)) ?_
      refine aT aA 4 rfl ?_
      refine bI [(58,_),(59,_)] rfl rfl ⟨⟨rfl,rfl⟩,⟨rfl,rfl⟩,trivial⟩ rfl (aY rfl rfl dC cS (by first | exact ixm (by omega) | assumption | exact⟨by decide,rfl⟩)) ?_
      refine aT aA 2 rfl (bI [(51,_),(52,_),(57,_),(62,_)] rfl rfl ⟨⟨rfl,rfl⟩,⟨rfl,rfl⟩,⟨rfl,rfl⟩,⟨rfl,rfl⟩,trivial⟩ rfl (bO rfl nU zW (l3 rfl) rfl) (bL [(63,_)] rfl rfl ⟨⟨rfl,rfl⟩,trivial⟩ rfl (aP eP rfl rfl rfl rfl (l2 rfl)) (pE [0,5,6,7,8,50,64] rfl rfl rfl ?_)))
      refine aH 15 [] (by kernel_rfl) ⟨?_,trivial⟩
      ·
       refine⟨_,rfl,rfl,(ao rfl (aZ hf rfl eP rfl rfl rfl (.inl rfl) (by rw[List.length_map]) rfl (by first | rfl | simp [dJ,bG]) (by first | (simp only[maxLen,List.length_map,List.length_append,List.length_cons,List.length_nil]; omega) | (simp [maxLen] <;> omega)) (by first | (simp only[List.length_map,List.length_append,List.length_cons,List.length_nil]; omega) | (simp <;> omega)) ?_))⟩
       refine aU (cM [0,5,6,7,8,65] rfl) (aF (aH 16 [] (by kernel_rfl) ⟨?_,trivial⟩))
       ·
        refine⟨_,rfl,rfl,(ao rfl (aE aA 1 rfl (aF (bS (by kernel_rfl) ?_))))⟩
        refine hK12 _ (aB (aE aA 1 rfl ?_))
        refine aG rfl (bK rfl rfl (by omega) (by omega)) ?_
        refine aE aA 1 rfl (aD ?_)
        exact⟨(j+1,o++[(gZ l[k].1 (dY b)[j],l[k].2)]),⟨by omega,by rw[h5,jU _ _ j (by omega),aP6 (by simp only[gZ]; omega),List.append_assoc],by rw[List.length_append]; simp only[List.length_cons,List.length_nil]; omega⟩,by simp only; omega,cF ⟨rfl,(by rw[List.length_append]; rfl),rfl,rfl,rfl,trivial⟩ (by rw[List.map_append]; rfl)⟩
     ·
      simp only[bs] at hc3
      refine aL (hK12 _ (aB (aE aA 1 rfl ?_)))
      refine aG rfl (bK rfl rfl (by omega) (by omega)) ?_
      refine aE aA 1 rfl (aD ?_)
      exact⟨(j+1,o),⟨by omega,by rw[h5,jU _ _ j (by omega),aP5 (by simp only[gZ]; omega),List.append_nil],by omega⟩,by simp only; omega,cF ⟨rfl,rfl,rfl,rfl,rfl,trivial⟩ rfl⟩
    ·
     simp only[bs] at hc2
     refine aX (hK8 _ (aB (aE aA 1 rfl ?_)))
     refine aG rfl (bK rfl rfl (by omega) (by omega)) ?_
     refine aE aA 1 rfl (aD ?_)
     exact⟨(k+1,o),⟨by omega,by rw[h5,aKm (by omega),h2,List.take_of_length_le (show (dY b).length≤j by omega)],by rw[Nat.add_mul,Nat.one_mul]; omega⟩,by simp only; omega,cF ⟨rfl,rfl,rfl,rfl,trivial⟩ rfl⟩
  ·
   simp only[bs] at hc1
   refine aX (hK4 _ (aC (fun K16 hK16=>(aB ?_))))
   have hk:k=l.length:=by omega
   have hm:=Nat.mul_le_mul_right (dY b).length (show k≤l.length by omega)
   refine aU (mT (sl':=[(5,.sl 4 (out.map stC))]) ⟨⟨_,rfl,lG (g:=5) rfl (by rw[List.length_map])⟩,trivial⟩) ?_
   refine aE aA 1 rfl (aJ hf rfl (aO rfl rfl aM4 rfl (aC6 out (by omega))) (aE aA 1 rfl (aD (hK16 _ (aI ?_)))))
   refine⟨_,rfl,?_⟩
   show AV.sl 4 ((aAa out).map stC)=_
   rw[h2,List.take_of_length_le (by omega)]; rfl
end Go.Proofs.YtpkanhklapfajaaGreat
set_option linter.unusedVariables false
set_option linter.unusedSimpArgs false
namespace Go.Abs
def kF (l:List bC) (t:Int):Nat:=(l.filter fun s=>decide (s.1.1≤t)&&decide (t<s.1.2)).length
theorem pP (a b:List bC) (t:Int):kF (a++b) t=kF a t+kF b t:=by simp [kF]
theorem aT5 {a b:List bC} (h:a.Perm b) (t:Int):kF a t=kF b t:=(h.filter _).length_eq
theorem cnt_one (s:bC) (z:Sp) (t:Int):kF (rC s z) t=if (s.1.1≤t∧t<s.1.2)∧(z.1≤t∧t<z.2) then 1 else 0:=by
  unfold rC
  split
  · rename_i h
    rw[if_neg (by simp only[gZ] at h; omega)]; rfl
  · rename_i h
    have e:(decide ((gZ s.1 z).1≤t)&&decide (t<(gZ s.1 z).2))=decide ((s.1.1≤t∧t<s.1.2)∧(z.1≤t∧t<z.2)):=by
      rw[Bool.eq_iff_iff]
      simp only[gZ,Bool.and_eq_true,decide_eq_true_eq,Int.max_le,Int.lt_min]
      constructor
      · rintro ⟨⟨a,b⟩,c,d⟩; exact⟨⟨a,c⟩,b,d⟩
      · rintro ⟨⟨a,b⟩,c,d⟩; exact⟨⟨a,c⟩,b,d⟩
    simp only[kF,List.filter_cons,List.filter_nil,e]
    by_cases h2:(s.1.1≤t∧t<s.1.2)∧(z.1≤t∧t<z.2)
    · rw[if_pos h2,decide_eq_true h2]; rfl
    · rw[if_neg h2,decide_eq_false h2]; rfl
theorem aKq (s:bC) (t:Int):∀ {nb:List Sp},jS nb→kF (nb.flatMap (rC s)) t=if (s.1.1≤t∧t<s.1.2)∧dR nb t=true then 1 else 0
  | [],_=>by simp [kF,kY]
  | x::r,hn=>by
    obtain ⟨hx,hr⟩:=jM hn
    rw[List.flatMap_cons,pP,cnt_one,aKq s t (zC hn),iT]
    have hd:x.1≤t∧t<x.2→dR r t=false:=fun h=>by
      rw[Bool.eq_false_iff]; intro h0
      obtain ⟨z,hz,h1,h2⟩:=fV.1 h0
      have:=hr z hz; omega
    by_cases h1:x.1≤t∧t<x.2
    · rw[hd h1]
      simp [h1]
    · have:(decide (x.1≤t)&&decide (t<x.2))=false:=by
        rw[Bool.eq_false_iff]; simp only[ne_eq,Bool.and_eq_true,decide_eq_true_eq]; exact h1
      rw[this,if_neg (by intro h; exact h1 h.2),Bool.false_or,Nat.zero_add]
theorem aQe (t:Int) {nb:List Sp} (hn:jS nb):∀ l:List bC,kF (pO l nb) t=if dR nb t=true then kF l t else 0
  | []=>by simp [pO,kF]
  | s::l=>by
    show kF (nb.flatMap (rC s)++pO l nb) t=_
    rw[pP,aKq s t hn,aQe t hn l,show s::l=[s]++l from rfl,pP]
    have:kF [s] t=if s.1.1≤t∧t<s.1.2 then 1 else 0:=by
      simp only[kF,List.filter_cons,List.filter_nil]
      by_cases h:s.1.1≤t∧t<s.1.2
      · rw[if_pos h,if_pos (by simpa using h)]; rfl
      · rw[if_neg h,if_neg (by simpa using h)]; rfl
    rw[this]
    by_cases h:dR nb t=true <;> simp [h]
theorem cnt_cut (l:List bC) (b:List Sp) (t:Int):kF (aFq l b) t=if dR b t=true then kF l t else 0:=by
  rw[aFq,aT5 (oT _),aQe t (oP b).1,(oP b).2]
theorem cnt_le (l:List bC) (t:Int):kF l t≤l.length:=List.length_filter_le _ _
theorem aOb {l:List bC} {t:Int} {k:Nat} (hk:k<l.length) (h:(decide (l[k].1.1≤t)&&decide (t<l[k].1.2))=true):kF (l.take (k+1)) t=kF (l.take k) t+1:=by
  rw[← List.take_append_getElem hk,pP]
  simp only[kF,List.filter_cons,List.filter_nil,if_pos h]; rfl
theorem aOc {l:List bC} {t:Int} {k:Nat} (hk:k<l.length) (h:(decide (l[k].1.1≤t)&&decide (t<l[k].1.2))=false):kF (l.take (k+1)) t=kF (l.take k) t:=by
  rw[← List.take_append_getElem hk,pP]
  simp only[kF,List.filter_cons,List.filter_nil,h]; rfl
end Go.Abs
set_option linter.unusedVariables false
set_option linter.unusedSimpArgs false
namespace Go.Proofs.YtpkanhklapfajaaGreat
open Go Go.Abs
theorem aT4 (l:List bC) (b:List Sp) (h1:l.length≤100000) (h2:b.length≤100000):Den Tryz.prog 29 [.sl 4 (l.map stC),.sl 2 (b.map spC)] (·=.sl 4 ((aFq l b).map stC)) :=
  aT3 l b (by omega) (by omega) (by have:=tT b; have:=Nat.mul_le_mul (show l.length≤100000 by omega) (show (dY b).length≤200000 by omega); omega)
theorem aJg (l:List bC) (b:List Sp) (h1:l.length≤100000) (h2:b.length≤100000):Den Tryz.prog 48 [.sl 4 (l.map stC),.sl 2 (b.map spC)] (·=.sl 4 ((aFq l b).map stC)) :=
  aJf l b (by omega) (by omega) (by have:=tT b; have:=Nat.mul_le_mul (show l.length≤100000 by omega) (show (dY b).length≤200000 by omega); omega)
end Go.Proofs.YtpkanhklapfajaaGreat
set_option linter.unusedVariables false
set_option linter.unusedSimpArgs false
namespace Go.Abs
open Go
def zY (s:Sta) (e:Ev):Sta:=if (fC s e).2=0 then (fC s e).1 else s
def uC (s:Sta) (l:List Ev):Sta:=l.foldl zY s
def nG:Sta→List Ev→List Int
  | _,[]=>[]
  | s,e::l=>(fC s e).2::nG (zY s e) l
theorem step_ok {s:Sta} {e:Ev} (h:(fC s e).2=0):zY s e=(fC s e).1:=if_pos h
theorem step_no {s:Sta} {e:Ev} (h:(fC s e).2≠0):zY s e=s:=if_neg h
theorem aRt (s:Sta) (a b:List Ev):uC s (a++b)=uC (uC s a) b:=List.foldl_append
theorem aIq:∀ (a:List Ev) (s:Sta) (b:List Ev),nG s (a++b)=nG s a++nG (uC s a) b
  | [],_,_=>rfl
  | e::a,s,b=>by
    show _::nG (zY s e) (a++b)=_::(nG (zY s e) a++_)
    rw[aIq a (zY s e) b]; rfl
theorem aIp:∀ (l:List Ev) (s:Sta),(nG s l).length=l.length
  | [],_=>rfl
  | e::l,s=>by simp only[nG,List.length_cons,aIp l]
theorem uS {s:Sta} {l:List Ev} {k:Nat} (hk:k<l.length):nG s (l.take (k+1))=nG s (l.take k)++[(fC (uC s (l.take k)) l[k]).2]:=by
  rw[List.take_succ_eq_append_getElem hk,aIq]; rfl
theorem aGj {s:Sta} {l:List Ev} {k:Nat} (hk:k<l.length):uC s (l.take (k+1))=zY (uC s (l.take k)) l[k]:=by
  rw[List.take_succ_eq_append_getElem hk,aRt]; rfl
abbrev bBob:ByteArray:=⟨#[98,111,98]⟩
end Go.Abs
set_option linter.unusedVariables false
set_option linter.unusedSimpArgs false
namespace Go.Abs
open Go
end Go.Abs
set_option linter.unusedVariables false
set_option linter.unusedSimpArgs false
namespace Go.Abs
open Go
def aFg (x:bC):Bool:=!decide (x.1.2≤x.1.1)
theorem addS_perm {l:List bC} {x:bC}:(gA l x).Perm (l++[x].filter aFg):=by
  unfold gA
  by_cases h:x.1.2≤x.1.1
  · rw[if_pos h]; simp [aFg,h]
  · rw[if_neg h]
    have:[x].filter aFg=[x]:=by simp [aFg,h]
    rw[this]
    exact(gI x l).trans (List.perm_append_comm (l₁:=[x]) (l₂:=l))
theorem aRr {l:List bC}:∀ {a:List bC},Srt gL a→Srt gL (l.foldl gA a)∧(l.foldl gA a).Perm (a++l.filter aFg):=by
  induction l with
  | nil=>intro a h; exact⟨h,by simp⟩
  | cons x l ih =>
    intro a h
    obtain ⟨h1,h2⟩:=ih (a:=gA a x) (aK5 h)
    refine⟨h1,?_⟩
    have e:(x::l).filter aFg=[x].filter aFg++l.filter aFg:=by rw[← List.filter_append]; rfl
    rw[e,← List.append_assoc]
    exact h2.trans (addS_perm.append_right _)
end Go.Abs
set_option linter.unusedVariables false
set_option linter.unusedSimpArgs false
namespace Go.Abs
open Go
def lE (s:Sta) (p:Pr) (q:Sp):List Sp:=sU (sU (gB s.sub p) [q]) [(s.hor,1099511627776)]
def lY (s:Sta) (p:Pr) (now:Int):Int:=if cI p.1=true∧cI p.2=true then (if now<s.now∨1099511627776≤now then 130 else 0) else 1
def fU (s:Sta) (p:Pr) (q:Sp) (now:Int):List bC:=if lY s p now=0 then aFq (dN s p.2 now) (lE s p q) else []
def aAq (s:Sta) (p:Pr) (now:Int):Int×Bool:=aAp (fU s p (0,1099511627776) now)
def aI1 (s:Sta) (p:Pr) (t:Int):Bool:=dR (gB s.sub p) t
def xX (q:Sp) (t:Int):Bool:=decide (q.1≤t)&&decide (t<q.2)
theorem aDy (q:Sp) (t:Int):dR [q] t=xX q t:=by simp [dR,xX]
theorem aRk (a b:Sp) (t:Int):xX (gZ a b) t=(xX a t&&xX b t):=by
  rw[Bool.eq_iff_iff]
  simp only[xX,gZ,Bool.and_eq_true,decide_eq_true_eq,Int.max_le,Int.lt_min]
  constructor
  · rintro ⟨⟨h1,h2⟩,h3,h4⟩; exact⟨⟨h1,h3⟩,h2,h4⟩
  · rintro ⟨⟨h1,h3⟩,h2,h4⟩; exact⟨⟨h1,h2⟩,h3,h4⟩
theorem aFv (s:Sta) (p:Pr) (q:Sp) (t:Int):dR (lE s p q) t=((dR (gB s.sub p) t&&xX q t)&&xX (s.hor,1099511627776) t):=by
  rw[lE,(mS _ _).2,(mS _ _).2,aDy,aDy]
theorem aCf (s:Sta) (p:Pr) (q:Sp):jS (lE s p q):=(mS _ _).1
theorem aNb (s:Sta) (p:Pr) (q:Sp):sU [gZ q (s.hor,1099511627776)] (gB s.sub p)=lE s p q :=
  xO _ _ (mS _ _).1 (aCf s p q) fun t=>by
    rw[(mS _ _).2,aFv,aDy,aRk]
    cases dR (gB s.sub p) t <;> cases xX q t <;> cases xX (s.hor,1099511627776) t <;> rfl
theorem xI {s:Sta} {p:Pr} {q:Sp} {now:Int} (h:lY s p now≠0):fU s p q now=[]:=if_neg h
theorem aDa {s:Sta} {p:Pr} {q:Sp} {now:Int} (h:lY s p now=0):fU s p q now=aFq (dN s p.2 now) (lE s p q):=if_pos h
theorem aQs {s:Sta} {p:Pr} {q:Sp} {now t:Int} (h:lY s p now=0) :
    kF (fU s p q now) t=if aI1 s p t=true∧s.hor≤t∧t<1099511627776∧q.1≤t∧t<q.2 then kF (dN s p.2 now) t else 0:=by
  rw[aDa h,cnt_cut,aFv]
  by_cases hc:((dR (gB s.sub p) t&&xX q t)&&xX (s.hor,1099511627776) t)=true
  · rw[if_pos hc]
    simp only[xX,Bool.and_eq_true,decide_eq_true_eq] at hc
    rw[if_pos ⟨hc.1.1,hc.2.1,hc.2.2,hc.1.2.1,hc.1.2.2⟩]
  · rw[if_neg hc,if_neg]
    rintro ⟨g1,g2,g3,g4,g5⟩
    refine hc ?_
    simp only[xX,Bool.and_eq_true,decide_eq_true_eq]
    exact⟨⟨g1,g4,g5⟩,g2,g3⟩
theorem norm_id {b:List Sp} (h:jS b):dY b=b:=aP3 h fun _=>rfl
theorem ofU_srt {s:Sta} (h:RightP s) (u:ByteArray):Srt gL (ofU s.usr u):=yT ((tJ _).1 (aGa h u).1).2
theorem aS2 {l:List Se} {u:ByteArray} {t:Int}:∀ x∈gM l u t,aFg x=true:=fun x hx=>by
  obtain ⟨e,_,he⟩:=List.mem_flatMap.1 hx
  split at he
  · rename_i hh
    obtain rfl:=List.mem_singleton.1 he
    show (!decide (t≤e.2.2))=true
    rw[decide_eq_false hh.2]; rfl
  · simp at he
theorem aNe {s:Sta} (h:RightP s) (u:ByteArray) (t:Int):(dN s u t).Perm (ofU s.usr u++gM s.opn u t):=by
  refine(aRr (ofU_srt h u)).2.trans (List.Perm.append_left _ ?_)
  have:(eG s.opn u t).filter aFg=eG s.opn u t:=List.filter_eq_self.2 fun x hx=>aS2 x ((oT _).mem_iff.1 hx)
  rw[this]; exact oT _
end Go.Abs
set_option linter.unusedVariables false
set_option linter.unusedSimpArgs false
namespace Go.Abs
open Go
def zR (p:Pr) (q:Sp) (t:Int):List AV:=[.s (.string p.1),.s (.string p.2),.s (.int .i64 q.1),.s (.int .i64 q.2),.s (.int .i64 t)]
theorem aGz {s:Sta} {p:Pr} {t:Int} (h:(cI p.1&&cI p.2)=false):1=lY s p t:=by
  unfold lY; rw[if_neg]
  rintro ⟨h1,h2⟩
  rw[h1,h2] at h; exact absurd h (by decide)
theorem xB {s:Sta} {p:Pr} {t:Int} (h1:cI p.1=true) (h2:cI p.2=true) (h:t<s.now∨1099511627776≤t):130=lY s p t:=by
  unfold lY; rw[if_pos ⟨h1,h2⟩,if_pos h]
theorem aSn {s:Sta} {p:Pr} {t:Int} (h1:cI p.1=true) (h2:cI p.2=true) (h:¬ t<s.now) (h':¬ 1099511627776≤t):0=lY s p t:=by
  unfold lY; rw[if_pos ⟨h1,h2⟩,if_neg (fun hh=>hh.elim h h')]
theorem aP8 {s:Sta} {p:Pr} {t:Int} (h:lY s p t≠0):aAq s p t=(0,false):=by rw[aAq,xI h]; rfl
theorem wE {s:Sta} (h:fG s+s.usr.length≤1048576):aP7 s=((fG s+s.usr.length:Nat):Int):=by
  have e:IntKind.i64.wrap ((fG s:Nat):Int)=((fG s:Nat):Int):=wrap_i64 (by omega) (by omega)
  rw[aP7,e,wrap_i64 (by omega) (by omega)]
  omega
theorem aRh {l:List Us} {x:Us} (hx:x∈l):x.2.length≤mI l:=by
  induction l with
  | nil=>simp at hx
  | cons y l ih =>
    have e:mI (y::l)=y.2.length+mI l:=by simp [mI]
    rcases List.mem_cons.1 hx with rfl | hx
    · omega
    · have:=ih hx; omega
theorem aRc (l:List Us) (u:ByteArray):(ofU l u).length≤mI l:=by
  unfold ofU
  cases h:l.find? (isK cW u) with
  | none=>simp
  | some y=>simpa using aRh (List.mem_of_find?_eq_some h)
theorem raw_len (l:List Se) (u:ByteArray) (t:Int):(gM l u t).length≤l.length:=by
  have:=yS l u t
  rwa [eG,yU] at this
theorem tD {s:Sta} (h:RightP s) (u:ByteArray) (t:Int):(dN s u t).length≤fG s:=by
  have h1:=(aNe h u t).length_eq
  rw[List.length_append] at h1
  have h2:=aRc s.usr u
  have h3:=raw_len s.opn u t
  unfold fG; omega
theorem yO (s:Sta) (p:Pr) (q:Sp):(lE s p q).length≤2*(2*(2*s.sub.length+1)+1):=by
  have h1:=aDp (sU (gB s.sub p) [q]) [(s.hor,1099511627776)]
  have h2:=aDp (gB s.sub p) [q]
  have h3:=nK s.sub p
  simp only[List.length_cons,List.length_nil] at h1 h2
  unfold lE; omega
theorem qW {s:Sta} {p:Pr} {q:Sp} {t:Int} (hs:(dN s p.2 t).length≤102) (hb:s.sub.length≤101):(fU s p q t).length≤100000:=by
  unfold fU
  split
  · have h1:=cut_len (dN s p.2 t) (lE s p q)
    rw[norm_id (aCf s p q)] at h1
    have h2:=yO s p q
    have h3:=Nat.mul_le_mul hs (show (lE s p q).length≤814 by omega)
    omega
  · simp
theorem rJ {l:List bC} {t:Int} {k:Nat} (hk:k<l.length):kF (l.take (k+1)) t=kF (l.take k) t+if l[k].1.1≤t∧t<l[k].1.2 then 1 else 0:=by
  by_cases h:l[k].1.1≤t∧t<l[k].1.2
  · rw[if_pos h,aOb hk (by simp [h.1,h.2])]
  · rw[if_neg h,aOc hk (by simpa using h)]; rfl
theorem aQf {l:List bC} {t:Int} {k:Nat} (hk:l.length≤k):kF (l.take k) t=kF l t:=by rw[List.take_of_length_le hk]
theorem aSp {cs:List AV} (h:Ty (.agg [.str,.str,.int .i64,.int .i64,.int .i64]) cs):∃ (p:Pr) (q:Sp) (t:Int),cs=zR p q t∧TS p.1∧TS p.2∧-9223372036854775808≤t∧t≤9223372036854775807:=by
  simp only[Ty,TyL] at h
  obtain ⟨_,_,rfl,⟨a,rfl,ha⟩,_,_,rfl,⟨b,rfl,hb⟩,_,_,rfl,⟨x,rfl,_⟩,_,_,rfl,⟨y,rfl,_⟩,_,_,rfl,⟨z,rfl,hz⟩,rfl⟩:=h
  exact⟨(a,b),(x,y),z,rfl,Nat.le_trans ha (by decide),Nat.le_trans hb (by decide),aSo hz⟩
abbrev mJ:Pr:=(bBob,aEe)
def agE1:Ev:=⟨1,3,aEe,bs0,1,1⟩
def agE2:Ev:=⟨4,5,bBob,aEe,0,0⟩
def agE3:Ev:=⟨3,9,aEe,bs0,1,0⟩
def agS:Sta:=⟨9,0,[],[(aEe,[((3,9),(1,1))])],[(mJ,(5,1099511627776))],[]⟩
theorem ag_1:uC rW [agE1,agE2,agE3]=agS:=by decide +kernel
theorem ag_2:nG rW [agE1,agE2,agE3]=[0,0,0]:=by decide +kernel
theorem ag_3:fU agS mJ (0,8) 9=[((5,8),(1,1))]:=by decide +kernel
theorem ag_4:lY agS mJ 9=0:=by decide +kernel
theorem ag_5:lY agS mJ 8=130:=by decide +kernel
theorem ag_6:fU agS mJ (0,0) 8=[]:=by decide +kernel
theorem ag_7:lY agS (bs0,bs0) 9=1:=by decide +kernel
theorem ag_8:fU agS (bs0,bs0) (0,0) 9=[]:=by decide +kernel
theorem ag_9:aAq agS mJ 20=(9,true):=by decide +kernel
theorem ag_10:lY agS mJ 20=0:=by decide +kernel
theorem ag_11:aAq agS (aEe,aEe) 20=(0,false):=by decide +kernel
theorem ag_12:lY agS (aEe,aEe) 20=0:=by decide +kernel
theorem ag_13:aI1 agS mJ 5=true:=by decide +kernel
theorem ag_14:aI1 agS mJ 4=false:=by decide +kernel
theorem rK:RightP agS:=mR.1 (by decide +kernel)
end Go.Abs
set_option linter.unusedVariables false
set_option linter.unusedSimpArgs false
namespace Go.Proofs.YtpkanhklapfajaaGreat
open Go Go.Abs
theorem aQp (s:Sta) (p:Pr) (q:Sp) (t:Int) (h1:TS p.1) (h2:TS p.2) :Den Tryz.prog 42 [.agg (zR p q t),.agg (bJ s)]  (·=.s (.int .i64 (lY s p t))):=by
 refine aR Tryz.func42 rfl (Nat.le_of_ble_eq_true rfl) (fun w0 A hf=>(aC (fun K1 hK1=>(aB (aJ hf rfl (cE rfl rfl (lf rfl)) (aJ hf rfl (cE rfl rfl (lf rfl)) (aE aA 1 rfl (aD (hK1 _ (aC (fun K2 hK2=>(aM (aC (fun K3 hK3=>(aB (aE aA 2 rfl ?_))))))))))))))))
 refine aJ hf rfl (aO rfl rfl aOm rfl (Nm.pairRight_den p.1 p.2 h1 h2)) (aE aA 2 rfl (aD (hK3 _ (aK rfl (fun hc1=>?_) (fun hc1=>?_)))))
 ·
  simp only[bs] at hc1
  refine aC (fun K4 hK4=>(aB (aE aA 1 rfl (aD (hK4 _ (aI ?_))))))
  refine⟨_,rfl,?_⟩
  refine dG (aGz ?_)
  simp_all
 ·
  simp only[bs] at hc1
  refine aC (fun K5 hK5=>(aB (aE aA 6 rfl (aW rfl rfl rfl (fun hg2=>?_) (fun hg2=>?_)))))
  ·
   simp only[bs] at hg2
   refine aG rfl (bW rfl aLg cD rfl) ?_
   refine aE aA 4 rfl (aD (hK5 _ (aK rfl (fun hc3=>?_) (fun hc3=>?_))))
   ·
    simp only[bs] at hc3
    refine aC (fun K6 hK6=>(aB (aE aA 1 rfl (aD (hK6 _ (aI ?_))))))
    refine⟨_,rfl,?_⟩
    refine dG (xB ?_ ?_ ?_)
    · simp_all
    · simp_all
    · omega
   ·
    simp only[bs] at hc3
    refine aL (hK2 _ (aC (fun K7 hK7=>(aB (aE aA 1 rfl (aD (hK7 _ (aI ?_))))))))
    refine⟨_,rfl,?_⟩
    refine dG (aSn ?_ ?_ ?_ ?_)
    · simp_all
    · simp_all
    · omega
    · omega
  ·
   simp only[bs] at hg2
   refine aE aA 4 rfl (aD (hK5 _ (bY rfl (aC (fun K8 hK8=>(aB (aE aA 1 rfl (aD (hK8 _ (aI ?_))))))))))
   refine⟨_,rfl,?_⟩
   refine dG (xB ?_ ?_ ?_)
   · simp_all
   · simp_all
   · omega
theorem aG6 (s:Sta) (p:Pr) (q:Sp) (t:Int) (h1:TS p.1) (h2:TS p.2) :Den Tryz.prog 27 [.agg (bJ s),.agg (zR p q t)]  (·=.s (.int .i64 (lY s p t))):=by
 refine aR Tryz.func27 rfl (Nat.le_of_ble_eq_true rfl) (fun w0 A hf=>(aC (fun K1 hK1=>(aB (aJ hf rfl (cE rfl rfl (lf rfl)) (aJ hf rfl (cE rfl rfl (lf rfl)) (aE aA 1 rfl (aD (hK1 _ (aC (fun K2 hK2=>(aC (fun K3 hK3=>(aB (aE aA 2 rfl (aJ hf rfl (aO rfl rfl lJ rfl (Nm.refRight_den p.1 h1)) ?_))))))))))))))))
 refine aE aA 2 rfl (aW rfl rfl rfl (fun hg1=>?_) (fun hg1=>?_))
 ·
  simp only[bs] at hg1
  refine aG rfl (bW rfl aLn cO rfl) ?_
  refine aE aA 1 rfl (bE rfl rfl rfl (aJ hf rfl (aO rfl rfl lJ rfl (Nm.refRight_den p.2 h2)) (aE aA 2 rfl (aD (hK3 _ (aK rfl (fun hc2=>?_) (fun hc2=>?_)))))))
  ·
   simp only[bs] at hc2
   refine aC (fun K4 hK4=>(aB (aE aA 1 rfl (aD (hK4 _ (aI ?_))))))
   refine⟨_,rfl,?_⟩
   refine dG (aGz ?_)
   simp_all
  ·
   simp only[bs] at hc2
   refine aL (hK2 _ (aC (fun K5 hK5=>(aC (fun K6 hK6=>(aB (aE aA 6 rfl (aW rfl rfl rfl (fun hg3=>?_) (fun hg3=>?_)))))))))
   ·
    simp only[bs] at hg3
    refine aG rfl (bW rfl aLm cD rfl) ?_
    refine aE aA 3 rfl (aD (hK6 _ (aK rfl (fun hc4=>?_) (fun hc4=>?_))))
    ·
     simp only[bs] at hc4
     refine aC (fun K7 hK7=>(aB (aE aA 1 rfl (aD (hK7 _ (aI ?_))))))
     refine⟨_,rfl,?_⟩
     refine dG (xB ?_ ?_ ?_)
     · simp_all
     · simp_all
     · omega
    ·
     simp only[bs] at hc4
     refine aL (hK5 _ (aC (fun K8 hK8=>(aB (aE aA 1 rfl (aD (hK8 _ (aI ?_))))))))
     refine⟨_,rfl,?_⟩
     refine dG (aSn ?_ ?_ ?_ ?_)
     · simp_all
     · simp_all
     · omega
     · omega
   ·
    simp only[bs] at hg3
    refine aE aA 3 rfl (aD (hK6 _ (bY rfl (aC (fun K9 hK9=>(aB (aE aA 1 rfl (aD (hK9 _ (aI ?_))))))))))
    refine⟨_,rfl,?_⟩
    refine dG (xB ?_ ?_ ?_)
    · simp_all
    · simp_all
    · omega
 ·
  simp only[bs] at hg1
  refine aE aA 4 rfl (aD (hK3 _ (bY rfl (aC (fun K10 hK10=>(aB (aE aA 1 rfl (aD (hK10 _ (aI ?_))))))))))
  refine⟨_,rfl,?_⟩
  refine dG (aGz ?_)
  simp_all
theorem aIr (s:Sta) (p:Pr) (q:Sp) (t:Int) (hz:SzS 140737488353280 s) :Den Tryz.prog 44 [.agg (zR p q t),.agg (bJ s)]  (·=.sl 2 ((lE s p q).map spC)):=by
 have hzb:=hz.b
 have hpl:=nK s.sub p
 refine aR Tryz.func44 rfl (Nat.le_of_ble_eq_true rfl) (fun w0 A hf=>(aC (fun K1 hK1=>(aB (aJ hf rfl (cE rfl rfl (lf rfl)) (aJ hf rfl (cE rfl rfl (lf rfl)) (aG rfl (bD) (aD (hK1 _ (aC (fun K2 hK2=>(aB (aE aA 4 rfl (aG rfl (bO rfl fW kR (l3 rfl) rfl) (aJ hf rfl (aO rfl rfl wR rfl (zD q (s.hor,1099511627776))) ?_)))))))))))))))
 refine cA hf rfl fW rfl dP rfl rfl rfl rfl (lf rfl) (aD (hK2 _ (aC (fun K3 hK3=>(cU hf bF (by kernel_rfl) rfl (aT aA 1 rfl (bL [(12,_)] rfl rfl ⟨⟨rfl,rfl⟩,trivial⟩ rfl (aP iA rfl rfl rfl rfl (l2 rfl)) (aT aA 4 rfl (bL [(15,_),(17,_)] rfl rfl ⟨⟨rfl,rfl⟩,⟨rfl,rfl⟩,trivial⟩ rfl (aO rfl rfl aEu rfl (aAl s.sub p (by omega))) (bL [(13,_),(18,_)] rfl rfl ⟨⟨rfl,rfl⟩,⟨rfl,rfl⟩,trivial⟩ rfl (aO rfl rfl aOl rfl ((show Den Tryz.prog _ _ (·=.sl 2 ((lE s p q).map spC)) from sK (aTk [gZ q (s.hor,1099511627776)] (gB s.sub p) (by simp) (by omega) (by simp only[List.length_cons,List.length_nil]; omega)) (by rw[aNb])))) ?_))))))))))
 refine aT aA 1 rfl (cY [4] rfl rfl rfl (hK3 _ (aI ?_)))
 refine⟨_,rfl,?_⟩
 rfl
theorem aC2 (s:Sta) (p:Pr) (q:Sp) (t:Int) (hb:s.sub.length≤101) :Den Tryz.prog 32 [.agg (bJ s),.agg (zR p q t)]  (·=.sl 2 ((lE s p q).map spC)):=by
 have hpl:=nK s.sub p
 have hml:=aDp (gB s.sub p) [q]
 simp only[List.length_cons,List.length_nil] at hml
 refine aR Tryz.func32 rfl (Nat.le_of_ble_eq_true rfl) (fun w0 A hf=>(aC (fun K1 hK1=>(aB (aJ hf rfl (cE rfl rfl (lf rfl)) (aJ hf rfl (cE rfl rfl (lf rfl)) (aG rfl (bD) (aD (hK1 _ (aC (fun K2 hK2=>(aB (aE aA 6 rfl (aG rfl (bO rfl aK9 aGo (l3 rfl) rfl) (aJ hf rfl (aO rfl rfl aEt rfl (tO s.sub p (by omega))) ?_)))))))))))))))
 refine aE aA 1 rfl (aD (hK2 _ (aC (fun K3 hK3=>(aB (aE aA 5 rfl (aG rfl (bO rfl eA dF (l3 rfl) rfl) (aJ hf rfl (aP aS rfl rfl rfl rfl (l2 rfl)) (aJ hf rfl (aO rfl rfl aEp rfl (aAe (gB s.sub p) [q] (by omega) (by simp))) ?_)))))))))
 refine aE aA 1 rfl (aD (hK3 _ (aC (fun K4 hK4=>(aB (aE aA 3 rfl (aG rfl (bO rfl eA dF (l3 rfl) rfl) (aJ hf rfl (aP aS rfl rfl rfl rfl (l2 rfl)) (aJ hf rfl (aO rfl rfl aEp rfl (aAe (sU (gB s.sub p) [q]) [(s.hor,1099511627776)] (by omega) (by simp))) ?_)))))))))
 refine aE aA 1 rfl (aD (hK4 _ (aI ?_)))
 refine⟨_,rfl,?_⟩
 rfl
theorem lM (s:Sta) (p:Pr) (q:Sp) (t:Int) (h1:TS p.1) (h2:TS p.2) (hz:SzS 140737488353280 s) (h:RightP s) (hs:(dN s p.2 t).length≤102) (hb:s.sub.length≤101) :Den Tryz.prog 14 [.agg (bJ s),.agg (zR p q t)]  (·=.tup [.sl 4 ((fU s p q t).map stC),.s (.int .i64 (lY s p t))]):=by
 have htl:=yO s p q
 refine aR Tryz.func14 rfl (Nat.le_of_ble_eq_true rfl) (fun w0 A hf=>(aC (fun K1 hK1=>(aB (aJ hf rfl (cE rfl rfl (lf rfl)) (aJ hf rfl (cE rfl rfl (lf rfl)) (aG rfl (bD) (aE aA 1 rfl (aD (hK1 _ (aC (fun K2 hK2=>(aC (fun K3 hK3=>(aB (aE aA 2 rfl ?_))))))))))))))))
 refine aJ hf rfl (aO rfl rfl aO3 rfl (aQp s p q t h1 h2)) (aE aA 1 rfl (aD (hK3 _ (aC (fun K4 hK4=>(aB (aE aA 2 rfl (aD (hK4 _ (aK rfl (fun hc1=>?_) (fun hc1=>?_)))))))))))
 ·
  simp only[bs] at hc1
  refine aC (fun K5 hK5=>(aB (aE aA 1 rfl (aG rfl (qY (k:=4)) (aE aA 1 rfl (aD (hK5 _ (aI ?_))))))))
  refine⟨_,rfl,?_⟩
  show AV.tup [.sl 4 [],_]=_
  rw[xI (by simp_all)]; rfl
 ·
  simp only[bs] at hc1
  refine aL (hK2 _ (aC (fun K6 hK6=>(cU hf bF (by kernel_rfl) rfl (aT aA 6 rfl (bL [(13,_),(16,_),(18,_)] rfl rfl ⟨⟨rfl,rfl⟩,⟨rfl,rfl⟩,⟨rfl,rfl⟩,trivial⟩ rfl (aO rfl rfl aO2 rfl (staysW s p.2 t hz h)) (aT aA 2 rfl (bL [(20,_),(21,_)] rfl rfl ⟨⟨rfl,rfl⟩,⟨rfl,rfl⟩,trivial⟩ rfl (aO rfl rfl aO1 rfl (aIr s p q t hz)) (bL [(19,_),(22,_)] rfl rfl ⟨⟨rfl,rfl⟩,⟨rfl,rfl⟩,trivial⟩ rfl (aO rfl rfl aPb rfl (aT4 (dN s p.2 t) (lE s p q) (by omega) (by omega))) (aT aA 2 rfl ?_))))))))))
  refine cY [4,5] rfl rfl rfl (hK6 _ (aI ?_))
  refine⟨_,rfl,?_⟩
  have h0:lY s p t=0:=by simp_all
  rw[aDa h0,h0]; rfl
theorem tN (s:Sta) (p:Pr) (q:Sp) (t:Int) (h1:TS p.1) (h2:TS p.2) (hz:SzS 140737488353280 s) (h:RightP s) (hs:(dN s p.2 t).length≤102) (hb:s.sub.length≤101) :Den Tryz.prog 17 [.agg (bJ s),.agg (zR p q t)]  (·=.tup [.sl 4 ((fU s p q t).map stC),.s (.int .i64 (lY s p t))]):=by
 have htl:=yO s p q
 refine aR Tryz.func17 rfl (Nat.le_of_ble_eq_true rfl) (fun w0 A hf=>(aC (fun K1 hK1=>(aB (aJ hf rfl (cE rfl rfl (lf rfl)) (aJ hf rfl (cE rfl rfl (lf rfl)) (aG rfl (bD) (aE aA 1 rfl (aD (hK1 _ (aC (fun K2 hK2=>(aB (aE aA 2 rfl (aJ hf rfl (aO rfl rfl aPc rfl (aG6 s p q t h1 h2)) ?_)))))))))))))))
 refine aE aA 1 rfl (aD (hK2 _ (aC (fun K3 hK3=>(aC (fun K4 hK4=>(aB (aE aA 2 rfl (aD (hK4 _ (aK rfl (fun hc1=>?_) (fun hc1=>?_))))))))))))
 ·
  simp only[bs] at hc1
  refine aC (fun K5 hK5=>(aB (aE aA 1 rfl (aG rfl (qY (k:=4)) (aE aA 1 rfl (aD (hK5 _ (aI ?_))))))))
  refine⟨_,rfl,?_⟩
  show AV.tup [.sl 4 [],_]=_
  rw[xI (by simp_all)]; rfl
 ·
  simp only[bs] at hc1
  refine aL (hK3 _ (aC (fun K6 hK6=>(cU hf bF (by kernel_rfl) rfl (aT aA 5 rfl (bL [(13,_),(15,_),(17,_)] rfl rfl ⟨⟨rfl,rfl⟩,⟨rfl,rfl⟩,⟨rfl,rfl⟩,trivial⟩ rfl (aO rfl rfl aEv rfl (aF5 s p.2 t hz h)) (aT aA 2 rfl (bL [(19,_),(20,_)] rfl rfl ⟨⟨rfl,rfl⟩,⟨rfl,rfl⟩,trivial⟩ rfl (aO rfl rfl aPa rfl (aC2 s p q t hb)) (bL [(18,_),(21,_)] rfl rfl ⟨⟨rfl,rfl⟩,⟨rfl,rfl⟩,trivial⟩ rfl (aO rfl rfl aOz rfl (aJg (dN s p.2 t) (lE s p q) (by omega) (by omega))) (aT aA 2 rfl ?_))))))))))
  refine cY [4,5] rfl rfl rfl (hK6 _ (aI ?_))
  refine⟨_,rfl,?_⟩
  have h0:lY s p t=0:=by simp_all
  rw[aDa h0,h0]; rfl
theorem wG (s:Sta) (p:Pr) (t:Int) (h1:TS p.1) (h2:TS p.2) (hz:SzS 140737488353280 s) (h:RightP s) (hs:(dN s p.2 t).length≤102) (hb:s.sub.length≤101) :Den Tryz.prog 20 [.agg (bJ s),.agg (prC p),.s (.int .i64 t)]  (·=.tup [.s (.int .i64 (aAq s p t).1),.s (.bool (aAq s p t).2),.s (.int .i64 (lY s p t))]):=by
 have hrl:=qW (s:=s) (p:=p) (q:=(0,1099511627776)) (t:=t) hs hb
 refine aR Tryz.func20 rfl (Nat.le_of_ble_eq_true rfl) (fun w0 A hf=>(aC (fun K1 hK1=>(aB (aJ hf rfl (cE rfl rfl (lf rfl)) (aJ hf rfl (cE rfl rfl (lf rfl)) (aE aA 3 rfl (aD (hK1 _ (aC (fun K2 hK2=>(aB (aE aA 2 rfl (aG rfl (bO rfl fW kR (l3 rfl) rfl) (aE aA 1 rfl ?_)))))))))))))))
 refine aG rfl (bO rfl rM rP (l3 rfl) rfl) (aJ hf rfl (aO rfl rfl nA rfl (lM s p (0,1099511627776) t h1 h2 hz h hs hb)) (aE aA 5 rfl (aD (hK2 _ (aC (fun K3 hK3=>(aC (fun K4 hK4=>(aB (aE aA 2 rfl (aD (hK4 _ (aK rfl (fun hc1=>?_) (fun hc1=>?_))))))))))))))
 ·
  simp only[bs] at hc1
  refine aC (fun K5 hK5=>(aB (aE aA 4 rfl (aD (hK5 _ (aI ?_))))))
  refine⟨_,rfl,?_⟩
  have h0:lY s p t≠0:=by simp_all
  rw[aP8 h0]; rfl
 ·
  simp only[bs] at hc1
  refine aL (hK3 _ (aC (fun K6 hK6=>(aB (aE aA 1 rfl (aJ hf rfl (aO rfl rfl aOx rfl (aRj (fU s p (0,1099511627776) t) (by omega))) (aE aA 5 rfl (aD (hK6 _ (aC (fun K7 hK7=>(aB (aE aA 5 rfl (aD ?_))))))))))))))
  refine hK7 _ (aI ?_)
  refine⟨_,rfl,?_⟩
  have h0:lY s p t=0:=by simp_all
  rw[h0]; rfl
theorem aFb (s:Sta) (p:Pr) (t:Int) (h1:TS p.1) (h2:TS p.2) (hz:SzS 140737488353280 s) (h:RightP s) (hs:(dN s p.2 t).length≤102) (hb:s.sub.length≤101) :Den Tryz.prog 21 [.agg (bJ s),.agg (prC p),.s (.int .i64 t)]  (·=.tup [.s (.int .i64 (aAq s p t).1),.s (.bool (aAq s p t).2),.s (.int .i64 (lY s p t))]):=by
 have hrl:=qW (s:=s) (p:=p) (q:=(0,1099511627776)) (t:=t) hs hb
 refine aR Tryz.func21 rfl (Nat.le_of_ble_eq_true rfl) (fun w0 A hf=>(aC (fun K1 hK1=>(aB (aJ hf rfl (cE rfl rfl (lf rfl)) (aJ hf rfl (cE rfl rfl (lf rfl)) (aE aA 3 rfl (aD (hK1 _ (aC (fun K2 hK2=>(aB (aE aA 6 rfl (aG rfl (bO rfl aUm aSg (l3 rfl) rfl) (aJ hf rfl (aO rfl rfl aEy rfl (tN s p (0,1099511627776) t h1 h2 hz h hs hb)) ?_)))))))))))))))
 refine aE aA 5 rfl (aD (hK2 _ (aC (fun K3 hK3=>(aC (fun K4 hK4=>(aB (aE aA 2 rfl (aD (hK4 _ (aK rfl (fun hc1=>?_) (fun hc1=>?_))))))))))))
 ·
  simp only[bs] at hc1
  refine aC (fun K5 hK5=>(aB (aE aA 4 rfl (aD (hK5 _ (aI ?_))))))
  refine⟨_,rfl,?_⟩
  have h0:lY s p t≠0:=by simp_all
  rw[aP8 h0]; rfl
 ·
  simp only[bs] at hc1
  refine aL (hK3 _ (aC (fun K6 hK6=>(aB (aE aA 1 rfl (aJ hf rfl (aO rfl rfl aOw rfl (aG8 (fU s p (0,1099511627776) t) (by omega))) (aE aA 5 rfl (aD (hK6 _ (aC (fun K7 hK7=>(aB (aE aA 5 rfl (aD ?_))))))))))))))
  refine hK7 _ (aI ?_)
  refine⟨_,rfl,?_⟩
  have h0:lY s p t=0:=by simp_all
  rw[h0]; rfl
theorem vW (s:Sta) (p:Pr) (t:Int) (hb:s.sub.length≤101) :Den Tryz.prog 22 [.agg (bJ s),.agg (prC p),.s (.int .i64 t)]  (·=.s (.bool (aI1 s p t))):=by
 have hpl:=nK s.sub p
 refine aR Tryz.func22 rfl (Nat.le_of_ble_eq_true rfl) (fun w0 A hf=>(aC (fun K1 hK1=>(aB (aJ hf rfl (cE rfl rfl (lf rfl)) (aJ hf rfl (cE rfl rfl (lf rfl)) (aE aA 1 rfl (aD (hK1 _ (aC (fun K2 hK2=>(aB (aE aA 3 rfl (aJ hf rfl (aO rfl rfl aEu rfl (aAl s.sub p (by omega))) (aE aA 1 rfl ?_)))))))))))))))
 refine aJ hf rfl (aO rfl rfl aOv rfl (aNy (gB s.sub p) t (by omega))) (aE aA 1 rfl (aD (hK2 _ (aI ?_))))
 refine⟨_,rfl,?_⟩
 rfl
theorem vJ (s:Sta) (p:Pr) (t:Int) (hb:s.sub.length≤101) :Den Tryz.prog 23 [.agg (bJ s),.agg (prC p),.s (.int .i64 t)]  (·=.s (.bool (aI1 s p t))):=by
 have hpl:=nK s.sub p
 refine aR Tryz.func23 rfl (Nat.le_of_ble_eq_true rfl) (fun w0 A hf=>(aC (fun K1 hK1=>(aB (aJ hf rfl (cE rfl rfl (lf rfl)) (aJ hf rfl (cE rfl rfl (lf rfl)) (aE aA 1 rfl (aD (hK1 _ (aC (fun K2 hK2=>(aB (aE aA 3 rfl (aJ hf rfl (aO rfl rfl aEt rfl (tO s.sub p (by omega))) (aE aA 1 rfl ?_)))))))))))))))
 refine aJ hf rfl (aO rfl rfl sP rfl (sC (gB s.sub p) t (by omega))) (aE aA 1 rfl (aD (hK2 _ (aI ?_))))
 refine⟨_,rfl,?_⟩
 rfl
theorem aGb (p:Pr) (q:Sp) (t:Int) :Den Tryz.prog 16 [.agg (zR p q t)]  (·=.agg (zR p q t)):=by
 refine aR Tryz.func16 rfl (Nat.le_of_ble_eq_true rfl) (fun w0 A hf=>(aC (fun K1 hK1=>(aB (aJ hf rfl (cE rfl rfl (lf rfl)) (bV hf rfl rfl rfl rM (aD (hK1 _ (aC (fun K2 hK2=>(aB (aE aA 4 rfl (aG rfl (bO rfl fP iX (l3 rfl) rfl) (aE aA 4 rfl (aG rfl (bO rfl fW kR (l3 rfl) rfl) ?_)))))))))))))))
 refine aE aA 2 rfl (aG rfl (bO rfl rM rP (l3 rfl) rfl) (bB hf rfl rfl aUq rfl rfl (l1 rfl) (l4 rfl) rfl (aD (hK2 _ (aI ?_)))))
 refine⟨_,rfl,?_⟩
 rfl
end Go.Proofs.YtpkanhklapfajaaGreat
set_option linter.unusedVariables false
set_option linter.unusedSimpArgs false
namespace Go.Abs
open Go
def aH3 (sp:List Sp) (f a:Int):Prop:=∀ τ:Int,dR sp τ=(decide (f≤τ)&&decide (τ<a))
theorem aR5 (f:Int):aH3 [] f f:=by
  intro τ
  rw[kY,Bool.eq_iff_iff]
  simp only[Bool.and_eq_true,decide_eq_true_eq,Bool.false_eq_true,false_iff]
  omega
theorem aOa {sp:List Sp} {f a t:Int} (h:aH3 sp f a) (h1:f≤a) (h2:a≤t):aH3 (sp++[(a,t)]) f t:=by
  intro τ
  rw[nQ,h τ,iT,kY,Bool.eq_iff_iff]
  simp only[Bool.and_eq_true,decide_eq_true_eq,Bool.or_eq_true,Bool.false_eq_true,or_false]
  omega
structure WholeI (e:Se) (k:Nat) (a:Int) (stays:List bC) (sp:List Sp) (n:Nat):Prop where
  le:k≤n
  ge:e.2.2≤a
  l1:stays.length=k
  l2:sp.length=k
  ends:∀ y∈stays,y.1.2≤a
  cov:aH3 sp e.2.2 a
theorem WholeI.start (e:Se) (n:Nat):WholeI e 0 e.2.2 [] [] n:=⟨Nat.zero_le _,Int.le_refl _,rfl,rfl,by simp,aR5 _⟩
theorem WholeI.next {e:Se} {k n:Nat} {a t s0:Int} {stays:List bC} {sp:List Sp} (h:WholeI e k a stays sp n) (hk:k<n) (ht:a≤t):WholeI e (k+1) t (stays++[((a,t),(e.1.1,s0))]) (sp++[(a,t)]) n:=by
  refine⟨hk,Int.le_trans h.ge ht,by rw[List.length_append,h.l1]; rfl,by rw[List.length_append,h.l2]; rfl,fun y hy=>?_,aOa h.cov h.ge ht⟩
  rcases List.mem_append.1 hy with hy | hy
  · exact Int.le_trans (h.ends y hy) ht
  · rw[List.mem_singleton.1 hy]; exact Int.le_refl _
variable {P:Program}
end Go.Abs
set_option linter.unusedVariables false
set_option linter.unusedSimpArgs false
namespace Go.Proofs.YtpkanhklapfajaaGreat
open Go Go.Abs
theorem xU (a:List Int) (n:Int):tZ (a++[n])=tZ a++[[AV.s (.int .i64 n)]]:=by simp [tZ]
theorem aRs (j:Nat) (s:Sta) (l:List Ev) (hz:SzS (140737488351232+48*j) s) (h:RightP s) (hl:j+l.length≤60) (ht:∀ e∈l,TS e.user∧TS e.other) :Den Tryz.prog 41 [.agg (bJ s),.sl 6 (l.map evC)]  (·=.tup [.agg (bJ (uC s l)),.sl 1 (tZ (nG s l))]):=by
 refine aR Tryz.func41 rfl (Nat.le_of_ble_eq_true rfl) (fun w0 A hf=>(aC (fun K1 hK1=>(aB (sZ hf rfl rfl rfl rfl (l1 rfl) ?_)))))
 refine bV hf rfl rfl rfl bR (aG rfl (bD) (aD (hK1 _ (aC (fun K2 hK2=>(aB (kW hf 1 rfl rfl rfl (aD (hK2 _ (aC (fun K3 hK3=>(aB (aE aA 1 rfl (iM hf [] [(E0,222),(E1,223)] rfl rfl rfl rfl rfl rfl (by decide) (by decide) (by decide) rfl pT (nT s (hz.mono (by omega))) ?_))))))))))))))
 rintro r m1 ⟨rfl,rfl⟩
 rw[tM]
 refine aU (cM [1,2,4,6,12] rfl) (bB hf rfl rfl cP rfl rfl (l1 rfl) (l4 rfl) rfl (aD (hK3 _ (aC (fun K4 hK4=>(aC (fun K5 hK5=>(aB (aU (aB3 (nee 222) (sl':=[(1,_),(2,_),(4,_),(6,_)]) (m':=[(223,.buf 2 (s.tmb.map tmC)),(6,.buf 1 []),(4,AM.box [.s (.int .i64 0),.s (.int .i64 0),.s (.slice none 0 0),.s (.slice none 0 0),.s (.slice none 0 0),.s (.slice none 0 0)]),(2,.box [.s (.int .i64 s.now),.s (.int .i64 s.hor),.sl 4 (s.opn.map seC),.sl 2 (s.usr.map usC),.sl 4 (s.sub.map enC),.own 223 2 0 (s.tmb.map tmC).length])]) ⟨⟨_,rfl,rfl⟩,⟨_,rfl,rfl⟩,⟨_,rfl,rfl⟩,⟨_,rfl,rfl⟩,trivial⟩ (Eq.trans (show _=[(223,AM.buf 2 (s.tmb.map tmC)),(6,.buf 1 []),(4,AM.box [.s (.int .i64 0),.s (.int .i64 0),.s (.slice none 0 0),.s (.slice none 0 0),.s (.slice none 0 0),.s (.slice none 0 0)]),(2,.box [.s (.int .i64 s.now),.s (.int .i64 s.hor),.sl 4 (s.opn.map seC),AV.only (nee 222) [(222,.buf 2 (s.usr.map usC)),(223,.buf 2 (s.tmb.map tmC)),(6,.buf 1 []),(4,.box [.s (.int .i64 0),.s (.int .i64 0),.s (.slice none 0 0),.s (.slice none 0 0),.s (.slice none 0 0),.s (.slice none 0 0)]),(2,.box [.s (.int .i64 s.now),.s (.int .i64 s.hor),.sl 4 (s.opn.map seC),.own 222 2 0 (s.usr.map usC).length,.sl 4 (s.sub.map enC),.own 223 2 0 (s.tmb.map tmC).length])] (.own 222 2 0 (s.usr.map usC).length),.sl 4 (s.sub.map enC),.own 223 2 0 (s.tmb.map tmC).length])] from rfl) (by rw[aDj (ok:=nee 222) (g:=222) rfl rfl rfl]))) ?_)))))))))
 refine aU (aB3 (nee 223) (sl':=[(1,_),(2,_),(4,_),(6,_)]) (m':=[(6,.buf 1 []),(4,AM.box [.s (.int .i64 0),.s (.int .i64 0),.s (.slice none 0 0),.s (.slice none 0 0),.s (.slice none 0 0),.s (.slice none 0 0)]),(2,.box [.s (.int .i64 s.now),.s (.int .i64 s.hor),.sl 4 (s.opn.map seC),.sl 2 (s.usr.map usC),.sl 4 (s.sub.map enC),.sl 2 (s.tmb.map tmC)])]) ⟨⟨_,rfl,rfl⟩,⟨_,rfl,rfl⟩,⟨_,rfl,rfl⟩,⟨_,rfl,rfl⟩,trivial⟩ (Eq.trans (show _=[(6,.buf 1 []),(4,AM.box [.s (.int .i64 0),.s (.int .i64 0),.s (.slice none 0 0),.s (.slice none 0 0),.s (.slice none 0 0),.s (.slice none 0 0)]),(2,.box [.s (.int .i64 s.now),.s (.int .i64 s.hor),.sl 4 (s.opn.map seC),.sl 2 (s.usr.map usC),.sl 4 (s.sub.map enC),AV.only (nee 223) [(223,.buf 2 (s.tmb.map tmC)),(6,.buf 1 []),(4,AM.box [.s (.int .i64 0),.s (.int .i64 0),.s (.slice none 0 0),.s (.slice none 0 0),.s (.slice none 0 0),.s (.slice none 0 0)]),(2,.box [.s (.int .i64 s.now),.s (.int .i64 s.hor),.sl 4 (s.opn.map seC),.sl 2 (s.usr.map usC),.sl 4 (s.sub.map enC),.own 223 2 0 (s.tmb.map tmC).length])] (.own 223 2 0 (s.tmb.map tmC).length)])] from rfl) (by rw[aDj (ok:=nee 223) (g:=223) rfl rfl rfl]))) ?_
 refine aE aA 3 rfl (aD (hK5 _ (aM (bM (ι:=Nat×Sta) (fun(⟨k,st⟩:Nat×Sta)=>⟨35,[(2,.ref 2 0 0 0),(4,.ref 4 0 0 0),(6,.own 6 1 0 (tZ (nG s (l.take k))).length),(13,.sl 6 (l.map evC)),(14,.s (.int .i64 ((l.map evC).length:Nat))),(15,.s (.int .i64 (k:Nat)))],[(6,.buf 1 (tZ (nG s (l.take k)))),(4,.box [.s (.int .i64 0),.s (.int .i64 0),.s (.slice none 0 0),.s (.slice none 0 0),.s (.slice none 0 0),.s (.slice none 0 0)]),(2,.box (bJ st))]⟩) (fun(⟨k,st⟩:Nat×Sta)=>k≤l.length∧st=uC s (l.take k)∧RightP st∧SzS (140737488351232+48*j+48*k) st) (fun(⟨k,st⟩:Nat×Sta)=>l.length - k) (0,s) ?_ ?_ ?_))))
 · exact⟨Nat.zero_le _,rfl,h,hz⟩
 · exact cF ⟨rfl,rfl,rfl,rfl,rfl,rfl,trivial⟩ rfl
 ·
  rintro ⟨k,st⟩ hC
  obtain ⟨h1,h2,h3,h4⟩:=hC
  refine aC (fun K6 hK6=>(aB (aE aA 1 rfl (aD (hK6 _ (aC (fun K7 hK7=>(aK rfl (fun hc1=>?_) (fun hc1=>?_)))))))))
  ·
   simp only[bs,gE] at hc1
   refine aL (hK7 _ (aC (fun K8 hK8=>(aM (aC (fun K9 hK9=>(aB ?_)))))))
   have hk:k<l.length:=by omega
   have hzS:SzS 140737488355100 st:=h4.mono (by omega)
   obtain ⟨hu,ho⟩:=ht _ (List.getElem_mem hk)
   have htl:(tZ (nG s (l.take k))).length=k:=by rw[gE,aIp,List.length_take]; omega
   refine aG rfl (aY rfl rfl aSl gO (by first | assumption | (refine⟨by omega,?_⟩; first | assumption | exact nC (by omega) | exact nC (by simp only[List.length_cons] at *; omega) | exact xT (by omega) | exact zE (by omega) | exact xR (by omega)) | exact⟨by decide,rfl⟩)) ?_
   refine aE aA 1 rfl (cA hf rfl rL rfl gO rfl rfl rfl rfl (lf rfl) (aD (hK9 _ (aC (fun K10 hK10=>(aB (aE aA 2 rfl (aJ hf rfl (aO rfl rfl aPd rfl (aK1 st l[k] hzS h3.usr h3.tmb hu ho)) (aE aA 3 rfl (cA hf rfl bR rfl cP rfl rfl rfl rfl (lf rfl) (aE aA 1 rfl (aD (hK10 _ ?_)))))))))))))
   refine aC (fun K11 hK11=>(aC (fun K12 hK12=>(aB (aE aA 2 rfl (aD (hK12 _ (aK rfl (fun hc2=>?_) (fun hc2=>?_)))))))))
   ·
    simp only[bs,gE] at hc2
    refine aB (aE aA 1 rfl (bB hf rfl rfl cP rfl rfl (l1 rfl) (l4 rfl) rfl (aD (hK11 _ (aB (aE aA 2 rfl (aJ hf rfl (aP sS rfl rfl rfl rfl (l2 rfl)) (aZ hf rfl sS rfl rfl rfl (.inl rfl) rfl rfl (by first | rfl | simp [dJ,bG]) (by first | (simp only[maxLen,List.length_map,List.length_append,List.length_cons,List.length_nil]; omega) | (simp [maxLen] <;> omega)) (by first | (simp only[List.length_map,List.length_append,List.length_cons,List.length_nil]; omega) | (simp <;> omega)) ?_))))))))
    refine aU (cM [2,4,13,14,15,31] rfl) (aE aA 1 rfl ?_)
    refine bH ?_
    refine hK8 _ (aB ?_)
    refine aG rfl (bK rfl rfl (by omega) (by omega)) ?_
    refine aE aA 1 rfl (aD ?_)
    exact⟨(k+1,(fC st l[k]).1),⟨by omega,by rw[aGj hk,← h2,step_ok (by assumption)],aIa h3 _,applySz h4 h3.usr (by omega)⟩,by simp only; omega,cF ⟨rfl,rfl,(by rw[uS hk,← h2,xU,List.length_append]; rfl),rfl,rfl,rfl,trivial⟩ (by rw[uS hk,← h2,xU]; rfl)⟩
   ·
    simp only[bs,gE] at hc2
    refine aL (hK11 _ (aB (aE aA 2 rfl (aJ hf rfl (aP sS rfl rfl rfl rfl (l2 rfl)) (aZ hf rfl sS rfl rfl rfl (.inl rfl) rfl rfl (by first | rfl | simp [dJ,bG]) (by first | (simp only[maxLen,List.length_map,List.length_append,List.length_cons,List.length_nil]; omega) | (simp [maxLen] <;> omega)) (by first | (simp only[List.length_map,List.length_append,List.length_cons,List.length_nil]; omega) | (simp <;> omega)) ?_)))))
    refine aU (cM [2,4,13,14,15,31] rfl) (aE aA 1 rfl ?_)
    refine bH ?_
    refine hK8 _ (aB ?_)
    refine aG rfl (bK rfl rfl (by omega) (by omega)) ?_
    refine aE aA 1 rfl (aD ?_)
    exact⟨(k+1,st),⟨by omega,by rw[aGj hk,← h2,step_no (by assumption)],h3,h4.mono (by omega)⟩,by simp only; omega,cF ⟨rfl,rfl,(by rw[uS hk,← h2,xU,List.length_append]; rfl),rfl,rfl,rfl,trivial⟩ (by rw[uS hk,← h2,xU]; rfl)⟩
  ·
   simp only[bs,gE] at hc1
   refine aX (hK4 _ (aC (fun K13 hK13=>(aB (aE aA 2 rfl (bB hf rfl rfl cP rfl rfl (l1 rfl) (l4 rfl) rfl (aE aA 1 rfl (aD (hK13 _ (aI ?_))))))))))
   refine⟨_,rfl,?_⟩
   show AV.tup [.agg _,AV.conv _ (.own 6 1 0 (tZ (nG s (l.take k))).length)]=_
   rw[cJ (g:=6) rfl rfl,List.take_of_length_le (by omega)]
   rw[List.take_of_length_le (by omega)] at h2
   rw[h2]; rfl
theorem aTt (s:Sta) (l:List Ev) (hz:SzS 140737488351232 s) (h:RightP s) (hl:l.length≤60) (ht:∀ e∈l,TS e.user∧TS e.other):Den Tryz.prog 41 [.agg (bJ s),.sl 6 (l.map evC)] (·=.tup [.agg (bJ (uC s l)),.sl 1 (tZ (nG s l))]):=aRs 0 s l hz h (by omega) ht
end Go.Proofs.YtpkanhklapfajaaGreat
set_option linter.unusedVariables false
set_option linter.unusedSimpArgs false
namespace Go.Proofs.YtpkanhklapfajaaGreat
open Go Go.Abs
theorem eX  :Den Tryz.prog 13 []  (·=.s (.bool true)):=by
 refine aR Tryz.func13 rfl (Nat.le_of_ble_eq_true rfl) (fun w0 A hf=>(aC (fun K1 hK1=>(aB (aE aA 1 rfl (aD (hK1 _ (aC (fun K2 hK2=>(aB (aG rfl (bO rfl fP iX (l3 rfl) rfl) (cA hf rfl fP rfl oB rfl rfl rfl rfl (lf rfl) (aD (hK2 _ (aC (fun K3 hK3=>?_))))))))))))))))
 refine aB (aG rfl (bO rfl bR mZ (l3 rfl) rfl) (aU (xS sY) (aG rfl (bO rfl rL vC (l3 rfl) rfl) (aG rfl (bO rfl rL vC (l3 rfl) rfl) (aG rfl (bO rfl rL vC (l3 rfl) rfl) (aJ hf rfl (aP aPi rfl rfl rfl rfl (l2 rfl)) (aJ hf rfl (aO rfl rfl aO4 rfl ((show Den Tryz.prog _ _ (·=.tup [.agg (bJ agS),.sl 1 (tZ [0,0,0])]) from sK (aTt rW [agE1,agE2,agE3] (aG2 _) aCm (by decide) (by decide)) (by rw[ag_1,ag_2])))) ?_)))))))
 refine aE aA 3 rfl (cA hf rfl bR rfl cP rfl rfl rfl rfl (lf rfl) (aE aA 1 rfl (aD (hK3 _ (aC (fun K4 hK4=>(aB (aE aA 2 rfl (aG rfl (bO rfl fW kR (l3 rfl) rfl) (aG rfl (bO rfl rM rP (l3 rfl) rfl) (aJ hf rfl (aO rfl rfl nA rfl ((show Den Tryz.prog _ _ (·=.tup [.sl 4 (([((5,8),(1,1))]).map stC),.s (.int .i64 0)]) from sK (lM agS mJ (0,8) 9 (by decide) (by decide) (⟨by decide,by decide,by decide,by decide,by decide⟩) rK (by decide +kernel) (by decide)) (by rw[ag_3,ag_4])))) ?_)))))))))))
 refine aE aA 5 rfl (aD (hK4 _ (aC (fun K5 hK5=>(aB (aE aA 2 rfl (aG rfl (bO rfl rM rP (l3 rfl) rfl) (aJ hf rfl (aO rfl rfl nA rfl ((show Den Tryz.prog _ _ (·=.tup [.sl 4 (([]).map stC),.s (.int .i64 130)]) from sK (lM agS mJ (0,0) 8 (by decide) (by decide) (⟨by decide,by decide,by decide,by decide,by decide⟩) rK (by decide +kernel) (by decide)) (by rw[ag_6,ag_5])))) ?_))))))))
 refine aE aA 5 rfl (aD (hK5 _ (aC (fun K6 hK6=>(aB (aE aA 1 rfl (aG rfl (bO rfl rM rP (l3 rfl) rfl) (aJ hf rfl (aO rfl rfl nA rfl ((show Den Tryz.prog _ _ (·=.tup [.sl 4 (([]).map stC),.s (.int .i64 1)]) from sK (lM agS (bs0,bs0) (0,0) 9 (by decide) (by decide) (⟨by decide,by decide,by decide,by decide,by decide⟩) rK (by decide +kernel) (by decide)) (by rw[ag_8,ag_7])))) ?_))))))))
 refine aE aA 5 rfl (aD (hK6 _ (aC (fun K7 hK7=>(aB (aE aA 2 rfl (aJ hf rfl (aO rfl rfl wV rfl ((show Den Tryz.prog _ _ (·=.tup [.s (.int .i64 9),.s (.bool true),.s (.int .i64 0)]) from sK (wG agS mJ 20 (by decide) (by decide) (⟨by decide,by decide,by decide,by decide,by decide⟩) rK (by decide +kernel) (by decide)) (by rw[ag_9,ag_10])))) ?_)))))))
 refine aE aA 7 rfl (aD (hK7 _ (aC (fun K8 hK8=>(aB (aE aA 1 rfl (aG rfl (bO rfl fP iX (l3 rfl) rfl) (aJ hf rfl (aO rfl rfl wV rfl ((show Den Tryz.prog _ _ (·=.tup [.s (.int .i64 0),.s (.bool false),.s (.int .i64 0)]) from sK (wG agS (aEe,aEe) 20 (by decide) (by decide) (⟨by decide,by decide,by decide,by decide,by decide⟩) rK (by decide +kernel) (by decide)) (by rw[ag_11,ag_12])))) ?_))))))))
 refine aE aA 7 rfl (aD (hK8 _ (aC (fun K9 hK9=>(aC (fun K10 hK10=>(aB (aE aA 3 rfl (aD (hK10 _ (bT rfl (aL (hK9 _ (aC (fun K11 hK11=>?_)))))))))))))))
 refine aB (aE aA 4 rfl (bE rfl rfl rfl ?_))
 refine aG rfl (aY rfl rfl cB bA (by first | assumption | (refine⟨by omega,?_⟩; first | assumption | exact nC (by omega) | exact nC (by simp only[List.length_cons] at *; omega) | exact xT (by omega) | exact zE (by omega) | exact xR (by omega)) | exact⟨by decide,rfl⟩)) ?_
 refine aE aA 7 rfl (bE rfl rfl rfl ?_)
 refine aG rfl (aY rfl rfl cB bA (by first | assumption | (refine⟨by omega,?_⟩; first | assumption | exact nC (by omega) | exact nC (by simp only[List.length_cons] at *; omega) | exact xT (by omega) | exact zE (by omega) | exact xR (by omega)) | exact⟨by decide,rfl⟩)) ?_
 refine aE aA 35 rfl (bE rfl rfl rfl (aJ hf rfl (aO rfl rfl wU rfl ((show Den Tryz.prog _ _ (·=.s (.bool true)) from sK (vW agS mJ 5 (by decide)) (by rw[ag_13])))) ?_))
 refine aE aA 4 rfl (bE rfl rfl rfl (aJ hf rfl (aO rfl rfl wU rfl ((show Den Tryz.prog _ _ (·=.s (.bool false)) from sK (vW agS mJ 4 (by decide)) (by rw[ag_14])))) ?_))
 refine aE aA 3 rfl (aD (hK11 _ (aI ?_)))
 refine⟨_,rfl,?_⟩
 rfl
end Go.Proofs.YtpkanhklapfajaaGreat
