import Derived.WalkKit
import Derived.WalkSpells
import Derived.WalkLawsBesides
import Derived.Deep.LoopGhost
import Derived.ChangeKeysEq
import Derived.Still
import Derived.Lib.AppendZeros
import Derived.Laws.StructEq
import Derived.OpenShut
import Derived.Scope
import Derived.Shelf.SlSortCmp.Kit1
import Derived.Shelf.SlSortCmp.InsertionK
import Derived.Lib.SlicesCompact
import Derived.ProofKit
import Derived.ChangeSame
import Derived.Carry
import Derived.SliceStrings
import Derived.ChangeMaps5
import Derived.Deep.Slices
import Derived.Test.YthapfogcaklbbaaGreatRows
import Derived.Shelf.Abstract
import Derived.Deep.RegionLaw
import Derived.Lib.Walk
import Derived.Lib.Overlaps
import Derived.Lib.AppendZerosOnto
import Derived.Laws.CopyRow
import Derived.Shelf.SlSortCmp.WholeK
import Derived.Shelf.SlSortCmp.Whole1
import Derived.Shelf.SlSortCmp.NoneTotal
import Derived.Test.YthapfogcaklbbaaGreatK1
import Derived.Test.YthapfogcaklbbaaGreatK2
set_option maxRecDepth 20000
set_option maxHeartbeats 16000000
set_option linter.unusedVariables false
set_option linter.unusedSimpArgs false
namespace Go.Abs
abbrev bD:=Sp×(Int×Int)
def stC (s:bD):List AV:=[.s (.int .i64 s.1.1),.s (.int .i64 s.1.2),.s (.int .i64 s.2.1),.s (.int .i64 s.2.2)]
def gK (a b:bD):Int:=orI [iQ a.1.1 b.1.1,iQ a.1.2 b.1.2,iQ a.2.1 b.2.1,iQ a.2.2 b.2.2]
theorem aFt:gK=qP (fun a b:bD=>iQ a.1.1 b.1.1) (qP (fun a b=>iQ a.1.2 b.1.2) (qP (fun a b=>iQ a.2.1 b.2.1) (fun a b=>iQ a.2.2 b.2.2))):=by
  funext p q
  simp only[gK,orI,qP]
  (repeat' split) <;> simp_all
theorem cmpS_tri:Tri gK:=by
  rw[aFt]
  exact(cmpI_tri.comap fun a:bD=>a.1.1).lex ((cmpI_tri.comap fun a:bD=>a.1.2).lex ((cmpI_tri.comap fun a:bD=>a.2.1).lex (cmpI_tri.comap fun a:bD=>a.2.2)))
theorem nY {a b:Int}:iQ a b=0↔a=b:=by unfold iQ; (repeat' split) <;> omega
theorem aC7 {a b:bD}:gK a b=0↔a=b:=by
  rw[aFt,oW,oW,oW,nY,nY,nY,nY,Prod.ext_iff,Prod.ext_iff,Prod.ext_iff,and_assoc]
def okS (s:bD):Bool:=decide (s.1.1<s.1.2)
def zH (a b:bD):Bool:=decide (gK a b<0)
def uV (l:List bD):Bool:=lW okS zH none l
theorem tJ (l:List bD):uV l=true↔(∀ x∈l,okS x=true)∧l.Pairwise fun a b=>gK a b<0:=by
  rw[uV,oP (fun a b=>gK a b<0) (fun x y=>by simp [zH]) (fun x y z _ h1 h2=>cmpS_tri.lt_tr h1 h2)]
  simp
theorem sJ {α:Type} {c:α→α→Int} (hc:Tri c) (h0:∀ x y,c x y=0→x=y):∀ {a b:List α},Srt c a→Srt c b→a.Perm b→a=b
  | [],b,_,_,hp=>by have:=hp.length_eq; exact(List.eq_nil_of_length_eq_zero (by simpa using this.symm)).symm
  | x::a,[],_,_,hp=>by have:=hp.length_eq; simp at this
  | x::a,y::b,ha,hb,hp=>by
    have e:x=y:=by
      have h1:x∈y::b:=hp.mem_iff.1 (by simp)
      have h2:y∈x::a:=hp.mem_iff.2 (by simp)
      rcases List.mem_cons.1 h1 with e | h1
      · exact e
      · rcases List.mem_cons.1 h2 with e | h2
        · exact e.symm
        · have e1:=(List.pairwise_cons.1 ha).1 y h2
          have e2:=(List.pairwise_cons.1 hb).1 x h1
          have:=hc.swap x y
          exact h0 x y (by omega)
    subst e
    rw[sJ hc h0 (List.pairwise_cons.1 ha).2 (List.pairwise_cons.1 hb).2 (List.Perm.cons_inv hp)]
def aCz:List bD→bD→List bD
  | [],x=>[x]
  | y::r,x=>if gK x y<0 then x::y::r else y::aCz r x
theorem vE (x:bD):∀ l:List bD,(aCz l x).Perm (x::l)
  | []=>.refl _
  | y::l=>by
    rw[aCz]; split
    · exact .refl _
    · exact((vE x l).cons y).trans (List.Perm.swap x y l)
theorem aE7 {x:bD}:∀ {l:List bD},Srt gK l→Srt gK (aCz l x)
  | [],_=>List.pairwise_singleton _ _
  | y::l,h=>by
    obtain ⟨h1,h2⟩:=List.pairwise_cons.1 h
    rw[aCz]; split
    · rename_i h0
      refine List.pairwise_cons.2 ⟨fun z hz=>?_,h⟩
      rcases List.mem_cons.1 hz with rfl | hz
      · omega
      · exact cmpS_tri.tr x y z (by omega) (h1 z hz)
    · rename_i h0
      refine List.pairwise_cons.2 ⟨fun z hz=>?_,aE7 h2⟩
      rcases List.mem_cons.1 ((vE x l).mem_iff.1 hz) with rfl | hz
      · have:=cmpS_tri.swap z y; omega
      · exact h1 z hz
def aD2 (l:List bD):List bD:=l.foldl aCz []
theorem yE:∀ (l out:List bD),Srt gK out→Srt gK (l.foldl aCz out)∧(l.foldl aCz out).Perm (out++l)
  | [],out,h=>⟨h,by simp⟩
  | x::l,out,h=>by
    obtain ⟨h1,h2⟩:=yE l (aCz out x) (aE7 h)
    exact⟨h1,h2.trans (((vE x out).append_right l).trans List.perm_middle.symm)⟩
theorem aKd (l:List bD):Srt gK (aD2 l):=(yE l [] List.Pairwise.nil).1
theorem yF (l:List bD):(aD2 l).Perm l:=(yE l [] List.Pairwise.nil).2
theorem aL2 {l t:List bD} (hp:t.Perm l) (hs:Srt gK t):t=aD2 l :=
  sJ cmpS_tri (fun _ _ h=>aC7.1 h) hs (aKd l) (hp.trans (yF l).symm)
theorem aKe (l:List bD):(aD2 l).length=l.length:=(yF l).length_eq
def xA:List bD→bD→List bD
  | [],s=>[s]
  | x::l,s=>if (x::l).all (fun y=>decide (0<gK y s))=true then s::x::l else x::xA l s
theorem aCw (s:bD):∀ (l:List bD) (k:Nat),k≤l.length→(∀ (j:Nat) (hj:j<l.length),k≤j→0<gK l[j] s)→(∀ (h0:0<k) (h:k - 1<l.length),gK l[k - 1] s≤0)→xA l s=l.take k++s::l.drop k
  | [],k,hk,_,_=>by
                          have:k=0:=by simpa using hk
                          subst this; rfl
  | x::l,0,_,h,_=>by
    rw[xA,if_pos]
    · rfl
    · rw[List.all_eq_true]
      intro y hy
      obtain ⟨j,hj,rfl⟩:=List.mem_iff_getElem.1 hy
      simpa using h j hj (Nat.zero_le _)
  | x::l,k+1,hk,h1,h2=>by
    have hn:=h2 (by omega) (by simp at hk ⊢; omega)
    rw[xA,if_neg]
    · rw[aCw s l k (by simpa using hk) (fun j hj hkj=>by have:=h1 (j+1) (by simpa using hj) (by omega); simpa using this) (fun h0 h=>by
        have e:(x::l)[k+1 - 1]'(by simp at hk ⊢; omega)=l[k - 1]'h:=by
          simp only[Nat.add_sub_cancel]
          obtain ⟨k',rfl⟩:∃ k',k=k'+1:=⟨k - 1,by omega⟩
          simp
        rw[e] at hn; exact hn)]
      rfl
    · rw[List.all_eq_true]
      intro hall
      have:=hall _ (List.getElem_mem (show k+1 - 1<(x::l).length by simp at hk ⊢; omega))
      simp only[decide_eq_true_eq] at this
      omega
theorem fP (s:bD):∀ l:List bD,(xA l s).Perm (s::l)
  | []=>.refl _
  | x::l=>by
    rw[xA]; split
    · exact .refl _
    · exact((fP s l).cons x).trans (List.Perm.swap s x l)
theorem zL (l:List bD) (s:bD):(xA l s).length=l.length+1:=by simpa using (fP s l).length_eq
theorem mY {s:bD}:∀ {l:List bD},Srt gK l→Srt gK (xA l s)
  | [],_=>List.pairwise_singleton _ _
  | x::l,h=>by
    obtain ⟨h1,h2⟩:=List.pairwise_cons.1 h
    rw[xA]; split
    · rename_i h0
      rw[List.all_eq_true] at h0
      refine List.pairwise_cons.2 ⟨fun z hz=>?_,h⟩
      have:=h0 z hz
      simp only[decide_eq_true_eq] at this
      have:=cmpS_tri.swap z s; omega
    · rename_i h0
      refine List.pairwise_cons.2 ⟨fun z hz=>?_,mY h2⟩
      rcases List.mem_cons.1 ((fP s l).mem_iff.1 hz) with rfl | hz
      · -- some one of the row is not above it: so the first one is not
        have h3:∃ y∈x::l,¬ 0<gK y z:=by
          apply Classical.byContradiction
          intro hn
          exact h0 (List.all_eq_true.2 fun y hy=>by
            simp only[decide_eq_true_eq]
            apply Classical.byContradiction
            intro hh
            exact hn ⟨y,hy,hh⟩)
        obtain ⟨y,hy,hyz⟩:=h3
        rcases List.mem_cons.1 hy with rfl | hy
        · omega
        · exact cmpS_tri.tr x y z (h1 y hy) (by omega)
      · exact h1 z hz
def gX (l:List bD) (s:bD):List bD:=if s.1.2≤s.1.1 then l else xA l s
theorem aAh (l:List bD) (s:bD):(gX l s).length≤l.length+1:=by
  unfold gX; split
  · omega
  · rw[zL]; omega
theorem aBh {l:List bD} (h:l.Pairwise fun a b=>gK a b<0):Srt gK l:=h.imp fun h=>by omega
theorem ris_add {l:List bD} {s:bD} (h:uV l=true):uV (gX l s)=!(l.any fun y=>decide (y=s)):=by
  obtain ⟨h1,h2⟩:=(tJ l).1 h
  unfold gX
  split
  · rename_i h0
    have:l.any (fun y=>decide (y=s))=false:=by
      rw[Bool.eq_false_iff]; intro ha
      obtain ⟨y,hy,e⟩:=List.any_eq_true.1 ha
      simp only[decide_eq_true_eq] at e
      subst e
      have:=h1 y hy
      simp only[okS,decide_eq_true_eq] at this; omega
    rw[this,h]; rfl
  · rename_i h0
    have hs:=mY (s:=s) (aBh h2)
    cases ha:l.any (fun y=>decide (y=s))
    · rw[Bool.not_false,tJ]
      refine⟨fun x hx=>?_,?_⟩
      · rcases List.mem_cons.1 ((fP s l).mem_iff.1 hx) with rfl | hx
        · simp only[okS,decide_eq_true_eq]; omega
        · exact h1 x hx
      · have hnd:(xA l s).Nodup:=by
          rw[(fP s l).nodup_iff]
          refine List.nodup_cons.2 ⟨fun hm=>?_,?_⟩
          · rw[Bool.eq_false_iff] at ha
            exact ha (List.any_eq_true.2 ⟨s,hm,by simp⟩)
          · exact h2.imp fun {a b} h e=>by subst e; have:=cmpS_tri.self a; omega
        refine(List.Pairwise.and hs hnd).imp fun {a b} ⟨h3,h4⟩=>?_
        rcases Int.lt_or_eq_of_le h3 with e | e
        · exact e
        · exact absurd (aC7.1 e) h4
    · rw[Bool.not_true,Bool.eq_false_iff]
      intro hr
      obtain ⟨y,hy,e⟩:=List.any_eq_true.1 ha
      simp only[decide_eq_true_eq] at e
      subst e
      have hnd:(xA l y).Nodup:=((tJ _).1 hr).2.imp fun {a b} h e=>by subst e; have:=cmpS_tri.self a; omega
      rw[(fP y l).nodup_iff] at hnd
      exact(List.nodup_cons.1 hnd).1 hy
theorem add_comm {l:List bD} {a b:bD} (h:uV l=true):gX (gX l a) b=gX (gX l b) a:=by
  have hs:=aBh ((tJ l).1 h).2
  unfold gX
  split <;> split <;> try rfl
  exact sJ cmpS_tri (fun _ _ h=>aC7.1 h) (mY (mY hs)) (mY (mY hs)) (((fP _ _).trans ((fP _ _).cons _)).trans ((List.Perm.swap _ _ _).trans (((fP _ _).trans ((fP _ _).cons _)).symm)))
theorem stC_eqF (x y:bD):(x.1.1 == y.1.1&&(x.1.2 == y.1.2&&(x.2.1 == y.2.1&&(x.2.2 == y.2.2&&true))))=decide (x=y):=by
  rw[Bool.eq_iff_iff]
  simp only[Bool.and_eq_true,beq_iff_eq,and_true,decide_eq_true_eq,Prod.ext_iff,and_assoc]
theorem xJ {a b:Int}:iQ a b<0↔a<b:=by unfold iQ; (repeat' split) <;> omega
theorem mH (a:Int):iQ a a=0:=nY.2 rfl
theorem ah1 {a b:bD} (h:¬ a.1.1=b.1.1):decide (a.1.1<b.1.1)=decide (gK a b<0):=by
  have:gK a b=iQ a.1.1 b.1.1:=by rw[gK,orI,if_pos (fun e=>h (nY.1 e))]
  rw[this,Bool.eq_iff_iff,decide_eq_true_eq,decide_eq_true_eq,xJ]
theorem ah2 {a b:bD} (h1:a.1.1=b.1.1) (h:¬ a.1.2=b.1.2):decide (a.1.2<b.1.2)=decide (gK a b<0):=by
  have:gK a b=iQ a.1.2 b.1.2:=by rw[gK,h1,mH,orI,if_neg (by simp),orI,if_pos (fun e=>h (nY.1 e))]
  rw[this,Bool.eq_iff_iff,decide_eq_true_eq,decide_eq_true_eq,xJ]
theorem ah3 {a b:bD} (h1:a.1.1=b.1.1) (h2:a.1.2=b.1.2) (h:¬ a.2.1=b.2.1):decide (a.2.1<b.2.1)=decide (gK a b<0):=by
  have:gK a b=iQ a.2.1 b.2.1:=by rw[gK,h1,h2,mH,mH,orI,if_neg (by simp),orI,if_neg (by simp),orI,if_pos (fun e=>h (nY.1 e))]
  rw[this,Bool.eq_iff_iff,decide_eq_true_eq,decide_eq_true_eq,xJ]
theorem ah4 {a b:bD} (h1:a.1.1=b.1.1) (h2:a.1.2=b.1.2) (h3:a.2.1=b.2.1):decide (a.2.2<b.2.2)=decide (gK a b<0):=by
  have:gK a b<0↔iQ a.2.2 b.2.2<0:=by
    rw[gK,h1,h2,h3,mH,mH,mH,orI,if_neg (by simp),orI,if_neg (by simp),orI,if_neg (by simp),orI,orI]
    split
    · exact Iff.rfl
    · rename_i h; omega
  rw[Bool.eq_iff_iff,decide_eq_true_eq,decide_eq_true_eq,this,xJ]
theorem sF {α β:Type} (l:List α) (f:α→List β) (k:Nat) (h:k<l.length):(l.take (k+1)).flatMap f=(l.take k).flatMap f++f l[k]:=by
  rw[← List.take_append_getElem h,List.flatMap_append]; simp
end Go.Abs
set_option linter.unusedVariables false
set_option linter.unusedSimpArgs false
namespace Go.Proofs.YthapfogcaklbbaaGreat
open Go Go.Abs
theorem qB (g:Nat) (a1 u b1 v c1:List bD) (N:Nat) (za zb zn:Int) (hN:N=a1.length+u.length+b1.length+v.length+c1.length) (huv:v.length=u.length) (hza:za=(a1.length:Nat)) (hzb:zb=((a1.length+u.length+b1.length:Nat):Int)) (hzn:zn=(u.length:Nat)) (hM:N<4611686018427387904) :DenM Tryz.prog 269 [.own E0 4 0 N,.s (.int .i64 za),.s (.int .i64 zb),.s (.int .i64 zn),.fn g []] 4 ((List.map stC (a1++(u++(b1++(v++c1)))))) (fun r ys=>ys=(List.map stC (a1++(v++(b1++(u++c1)))))):=by
 subst hza
 subst hzb
 subst hzn
 refine fI Tryz.func269 rfl (Nat.le_of_ble_eq_true rfl) (fun w0 x0 A hf=>?_)
 refine aC (fun K1 hK1=>(aB (aE aA 1 rfl (aD (hK1 _ (aO (bR (ι:=Nat) (fun i=>⟨38,[(0,.own E0 4 0 N),(1,.s (.int .i64 (a1.length:Nat))),(2,.s (.int .i64 ((a1.length+u.length+b1.length:Nat):Int))),(3,.s (.int .i64 (u.length:Nat))),(10,.s (.int .i64 (i:Nat)))],[(E0,.buf 4 (List.map stC (swr a1 u b1 v c1 i)))]⟩) (fun i=>i≤u.length) (fun i=>u.length - i) 0 ?_ ?_ ?_)))))))
 · exact Nat.zero_le _
 · exact cK ⟨rfl,rfl,rfl,rfl,rfl,trivial⟩ (by simp [swr])
 ·
  rintro i hC
  have hsl:=swr_len (A:=a1) (B:=b1) (C:=c1) (i:=i) huv
  refine aC (fun K2 hK2=>(aC (fun K3 hK3=>(aB (aE aA 3 rfl (aD (hK3 _ (aK rfl (fun hc1=>?_) (fun hc1=>?_)))))))))
  ·
   simp only[bs] at hc1
   refine aN (hK2 _ (aC (fun K4 hK4=>(aO (eS bI ?_)))))
   refine bK (listed':=#[true,false,false,false,false,false,false,false,false,false,false,false,false,false,false,false,false,false,false,false,false,false,false,false]) 0 rfl (by kernel_rfl) (by kernel_rfl) (by kernel_rfl) rfl (fun _ _ h=>h) (dJ rfl) ?_
   refine bK (listed':=#[true,true,false,false,false,false,false,false,false,false,false,false,false,false,false,false,false,false,false,false,false,false,false,false]) 1 rfl (by kernel_rfl) (by kernel_rfl) (by kernel_rfl) rfl (fun _ _ h=>h) (dJ rfl) ?_
   refine bK (listed':=#[true,true,true,false,false,false,false,false,false,false,false,false,false,false,false,false,false,false,false,false,false,false,false,false]) 2 rfl (by kernel_rfl) (by kernel_rfl) (by kernel_rfl) rfl (fun _ _ h=>h) (dJ rfl) ?_
   refine bK (listed':=#[true,true,true,true,false,false,false,false,false,false,false,false,false,false,false,false,false,false,false,false,false,false,false,false]) 3 rfl (by kernel_rfl) (by kernel_rfl) (by kernel_rfl) rfl (fun _ _ h=>h) (aBc rfl rfl (by omega) (by omega)) ?_
   refine bK (listed':=#[true,true,true,true,true,false,false,false,false,false,false,false,false,false,false,false,false,false,false,false,false,false,false,false]) 4 rfl (by kernel_rfl) (by kernel_rfl) (by kernel_rfl) rfl (fun _ _ h=>h) (dJ rfl) ?_
   refine bK (listed':=#[true,true,true,true,true,true,false,false,false,false,false,false,false,false,false,false,false,false,false,false,false,false,false,false]) 5 rfl (by kernel_rfl) (by kernel_rfl) (by kernel_rfl) rfl (fun _ _ h=>h) (dJ rfl) ?_
   refine bK (listed':=#[true,true,true,true,true,true,true,false,false,false,false,false,false,false,false,false,false,false,false,false,false,false,false,false]) 6 rfl (by kernel_rfl) (by kernel_rfl) (by kernel_rfl) rfl (fun _ _ h=>h) (dJ rfl) ?_
   refine bK (listed':=#[true,true,true,true,true,true,true,true,false,false,false,false,false,false,false,false,false,false,false,false,false,false,false,false]) 7 rfl (by kernel_rfl) (by kernel_rfl) (by kernel_rfl) rfl (fun _ _ h=>h) (aBc rfl rfl (by omega) (by omega)) ?_
   refine bK (listed':=#[true,true,true,true,true,true,true,true,true,false,false,false,false,false,false,false,false,false,false,false,false,false,false,false]) 8 rfl (by kernel_rfl) (by kernel_rfl) (by kernel_rfl) rfl (fun _ _ h=>h) (dJ rfl) ?_
   refine bK (listed':=#[true,true,true,true,true,true,true,true,true,true,false,false,false,false,false,false,false,false,false,false,false,false,false,false]) 9 rfl (by kernel_rfl) (by kernel_rfl) (by kernel_rfl) rfl (fun _ _ h=>h) (dJ rfl) ?_
   refine bK (listed':=#[true,true,true,true,true,true,true,true,true,true,true,false,false,false,false,false,false,false,false,false,false,false,false,false]) 10 rfl (by kernel_rfl) (by kernel_rfl) (by kernel_rfl) rfl (fun _ _ h=>h) (dJ rfl) ?_
   refine bK (listed':=#[true,true,true,true,true,true,true,true,true,true,true,true,false,false,false,false,false,false,false,false,false,false,false,false]) 11 rfl (by kernel_rfl) (by kernel_rfl) (by kernel_rfl) rfl (fun _ _ h=>h) (aBc rfl rfl (by omega) (by omega)) ?_
   refine bK (listed':=#[true,true,true,true,true,true,true,true,true,true,true,true,true,false,false,false,false,false,false,false,false,false,false,false]) 12 rfl (by kernel_rfl) (by kernel_rfl) (by kernel_rfl) rfl (fun _ _ h=>h) (jK rfl rfl bZ aS (by omega)) ?_
   refine bK (listed':=#[true,true,true,true,true,true,true,true,true,true,true,true,true,false,true,false,false,false,false,false,false,false,false,false]) 14 rfl (by kernel_rfl) (by kernel_rfl) (by kernel_rfl) rfl (fun _ _ h=>h) (dJ rfl) ?_
   refine bK (listed':=#[true,true,true,true,true,true,true,true,true,true,true,true,true,false,true,true,false,false,false,false,false,false,false,false]) 15 rfl (by kernel_rfl) (by kernel_rfl) (by kernel_rfl) rfl (fun _ _ h=>h) (dJ rfl) ?_
   refine bK (listed':=#[true,true,true,true,true,true,true,true,true,true,true,true,true,false,true,true,true,false,false,false,false,false,false,false]) 16 rfl (by kernel_rfl) (by kernel_rfl) (by kernel_rfl) rfl (fun _ _ h=>h) (dJ rfl) ?_
   refine bK (listed':=#[true,true,true,true,true,true,true,true,true,true,true,true,true,false,true,true,true,true,false,false,false,false,false,false]) 17 rfl (by kernel_rfl) (by kernel_rfl) (by kernel_rfl) rfl (fun _ _ h=>h) (aBc rfl rfl (by omega) (by omega)) ?_
   refine bK (listed':=#[true,true,true,true,true,true,true,true,true,true,true,true,true,false,true,true,true,true,true,false,false,false,false,false]) 18 rfl (by kernel_rfl) (by kernel_rfl) (by kernel_rfl) rfl (fun _ _ h=>h) (jK rfl rfl bZ aS (by omega)) ?_
   refine kZ (iX [0,1,2,3,10,16,19,20,23,28,34] rfl) (aI 13 [19] (by kernel_rfl) ⟨?_,?_,trivial⟩)
   ·
    refine⟨_,rfl,rfl,(ao rfl (aG rfl (bP rfl cV aS rfl (dH (k:=4) (enc:=stC) (z:=a1.length+u.length+b1.length+i) (by omega) (xE huv (by omega)) rfl) (cT (k:=4) (enc:=stC) (z:=a1.length+u.length+b1.length+i) (by omega) (xE huv (by omega)) rfl)) (aF (aI 19 [] (by kernel_rfl) ⟨?_,trivial⟩))))⟩
    ·
     refine⟨_,rfl,rfl,(ao rfl (aG rfl (bP rfl cV aS rfl (dH (k:=4) (enc:=stC) (z:=a1.length+i) (by omega) (xF huv (by omega)) rfl) (cT (k:=4) (enc:=stC) (z:=a1.length+i) (by omega) (xF huv (by omega)) rfl)) (aF (aI 20 [] (by kernel_rfl) ⟨?_,trivial⟩))))⟩
     ·
      refine⟨_,rfl,rfl,(ao rfl ?_)⟩
      refine aG rfl (bN rfl rfl bZ aS (by omega)) ?_
      refine aF (aI 21 [] (by kernel_rfl) ⟨?_,trivial⟩)
      ·
       refine⟨_,rfl,rfl,(ao rfl (aT hf rfl rfl aS rfl rfl (by simp [stC,AV.cells,AV.one,Value.oneCell']) (by simp [stC,AV.cells,AV.leaf,Value.oneCell']) (dU (k:=4) (enc:=stC) (z:=a1.length+i) (v:=v[i]) (by omega) (by rw[hsl]; omega) rfl rfl rfl) ?_))⟩
       refine aF (aI 22 [] (by kernel_rfl) ⟨?_,trivial⟩)
       ·
        refine⟨_,rfl,rfl,(ao rfl ?_)⟩
        refine aG rfl (bN rfl rfl bZ aS (by omega)) ?_
        refine aF (aI 23 [] (by kernel_rfl) ⟨?_,trivial⟩)
        ·
         refine⟨_,rfl,rfl,(ao rfl (aT hf rfl rfl aS rfl rfl (by simp [stC,AV.cells,AV.one,Value.oneCell']) (by simp [stC,AV.cells,AV.leaf,Value.oneCell']) (dU (k:=4) (enc:=stC) (z:=a1.length+u.length+b1.length+i) (v:=u[i]) (by omega) (by rw[List.length_set,hsl]; omega) rfl rfl rfl) ?_))⟩
         refine aF (dC (by kernel_rfl) ?_)
         refine hK4 _ (aB (aE aA 1 rfl ?_))
         refine aG rfl (bO rfl rfl (by omega) (by omega)) ?_
         refine aE aA 1 rfl (aD ?_)
         exact⟨i+1,by omega,by omega,cK ⟨rfl,rfl,rfl,rfl,rfl,trivial⟩ (by rw[← aDy huv (by omega)]; rfl)⟩
   ·
    refine⟨_,rfl,rfl,(ao rfl (aG rfl (bP rfl cV aS rfl (dH (k:=4) (enc:=stC) (z:=a1.length+i) (by omega) (xF huv (by omega)) rfl) (cT (k:=4) (enc:=stC) (z:=a1.length+i) (by omega) (xF huv (by omega)) rfl)) (aF (aI 13 [] (by kernel_rfl) ⟨?_,trivial⟩))))⟩
    ·
     refine⟨_,rfl,rfl,(ao rfl (aG rfl (bP rfl cV aS rfl (dH (k:=4) (enc:=stC) (z:=a1.length+u.length+b1.length+i) (by omega) (xE huv (by omega)) rfl) (cT (k:=4) (enc:=stC) (z:=a1.length+u.length+b1.length+i) (by omega) (xE huv (by omega)) rfl)) (aF (aI 20 [] (by kernel_rfl) ⟨?_,trivial⟩))))⟩
     ·
      refine⟨_,rfl,rfl,(ao rfl ?_)⟩
      refine aG rfl (bN rfl rfl bZ aS (by omega)) ?_
      refine aF (aI 21 [] (by kernel_rfl) ⟨?_,trivial⟩)
      ·
       refine⟨_,rfl,rfl,(ao rfl (aT hf rfl rfl aS rfl rfl (by simp [stC,AV.cells,AV.one,Value.oneCell']) (by simp [stC,AV.cells,AV.leaf,Value.oneCell']) (dU (k:=4) (enc:=stC) (z:=a1.length+i) (v:=v[i]) (by omega) (by rw[hsl]; omega) rfl rfl rfl) ?_))⟩
       refine aF (aI 22 [] (by kernel_rfl) ⟨?_,trivial⟩)
       ·
        refine⟨_,rfl,rfl,(ao rfl ?_)⟩
        refine aG rfl (bN rfl rfl bZ aS (by omega)) ?_
        refine aF (aI 23 [] (by kernel_rfl) ⟨?_,trivial⟩)
        ·
         refine⟨_,rfl,rfl,(ao rfl (aT hf rfl rfl aS rfl rfl (by simp [stC,AV.cells,AV.one,Value.oneCell']) (by simp [stC,AV.cells,AV.leaf,Value.oneCell']) (dU (k:=4) (enc:=stC) (z:=a1.length+u.length+b1.length+i) (v:=u[i]) (by omega) (by rw[List.length_set,hsl]; omega) rfl rfl rfl) ?_))⟩
         refine aF (dC (by kernel_rfl) ?_)
         refine hK4 _ (aB (aE aA 1 rfl ?_))
         refine aG rfl (bO rfl rfl (by omega) (by omega)) ?_
         refine aE aA 1 rfl (aD ?_)
         exact⟨i+1,by omega,by omega,cK ⟨rfl,rfl,rfl,rfl,rfl,trivial⟩ (by rw[← aDy huv (by omega)]; rfl)⟩
  ·
   simp only[bs] at hc1
   refine aW ?_
   refine⟨_,_,_,Le.refl _,rfl,rfl,?_⟩
   have hi:i=u.length:=by omega
   rw[hi,swr,← huv,List.take_length,List.drop_length,huv,List.take_length,List.drop_length,List.append_nil,List.append_nil]
theorem aH5 (g:Nat) (p s1 s2 q:List bD) (N:Nat) (za zm zb:Int) (hN:N=p.length+s1.length+s2.length+q.length) (hza:za=(p.length:Nat)) (hzm:zm=((p.length+s1.length:Nat):Int)) (hzb:zb=((p.length+s1.length+s2.length:Nat):Int)) (h01:0<s1.length) (h02:0<s2.length) (hM:N<4611686018427387904) :DenM Tryz.prog 262 [.own E0 4 0 N,.s (.int .i64 za),.s (.int .i64 zm),.s (.int .i64 zb),.fn g []] 4 ((List.map stC (p++(s1++(s2++q))))) (fun r ys=>ys=(List.map stC (p++(s2++(s1++q))))):=by
 subst hza
 subst hzm
 subst hzb
 refine fI Tryz.func262 rfl (Nat.le_of_ble_eq_true rfl) (fun w0 x0 A hf=>?_)
 refine aC (fun K1 hK1=>(aB (aE aA 2 rfl ?_)))
 refine aG rfl (eH rfl rfl (by omega) (by omega)) ?_
 refine aE aA 1 rfl (aD (hK1 _ (aC (fun K2 hK2=>(aB (aE aA 2 rfl ?_))))))
 refine aG rfl (eH rfl rfl (by omega) (by omega)) ?_
 refine aE aA 1 rfl (aD (hK2 _ (aC (fun K3 hK3=>(aO (bR (ι:=(List bD×List bD)×(List bD×List bD)) (fun(⟨⟨L,u⟩,⟨v,R⟩⟩:(List bD×List bD)×(List bD×List bD))=>⟨58,[(0,.own E0 4 0 N),(2,.s (.int .i64 ((p.length+s1.length:Nat):Int))),(4,.fn g []),(10,.s (.int .i64 (u.length:Nat))),(11,.s (.int .i64 (v.length:Nat)))],[(E0,.buf 4 (List.map stC (L++(u++(v++R)))))]⟩) (fun(⟨⟨L,u⟩,⟨v,R⟩⟩:(List bD×List bD)×(List bD×List bD))=>L.length+u.length=p.length+s1.length∧0<u.length∧0<v.length∧L++(v++(u++R))=p++(s2++(s1++q))) (fun(⟨⟨L,u⟩,⟨v,R⟩⟩:(List bD×List bD)×(List bD×List bD))=>u.length+v.length) ((p,s1),(s2,q)) ?_ ?_ ?_))))))
 · exact⟨rfl,h01,h02,rfl⟩
 · exact cK ⟨rfl,rfl,rfl,aL (by omega),aL (by omega),trivial⟩ rfl
 ·
  rintro ⟨⟨L,u⟩,⟨v,R⟩⟩ hC
  obtain ⟨hl,hu,hv,ht⟩:=hC
  have htl:=congrArg List.length ht
  simp only[List.length_append] at htl
  have hf1:=List.length_take (i:=v.length) (l:=u)
  have hf2:=List.length_drop (i:=v.length) (l:=u)
  have hf3:=List.length_take (i:=v.length - u.length) (l:=v)
  have hf4:=List.length_drop (i:=v.length - u.length) (l:=v)
  refine aC (fun K4 hK4=>(aC (fun K5 hK5=>(aB (aE aA 3 rfl (aD (hK5 _ (aK rfl (fun hc1=>?_) (fun hc1=>?_)))))))))
  ·
   simp only[bs] at hc1
   refine aN (hK4 _ (aO (aC (fun K6 hK6=>(aB (aE aA 3 rfl (aD (hK6 _ (aK rfl (fun hc2=>?_) (fun hc2=>?_))))))))))
   ·
    simp only[bs] at hc2
    refine aC (fun K7 hK7=>(aB ?_))
    rw[show L++(u++(v++R))=L++(u.take v.length++(u.drop v.length++(v++R))) from by rw[← List.append_assoc (u.take v.length),List.take_append_drop]]
    refine aE aA 3 rfl ?_
    refine aG rfl (eH rfl rfl (by omega) (by omega)) ?_
    refine aE aA 3 rfl (fK hf E0 rfl rfl rfl rfl rfl qV (qB g L (u.take v.length) (u.drop v.length) v R N _ _ _ (by omega) (by omega) (by omega) (by omega) (by omega) hM) ?_)
    rintro r zs rfl
    refine aD (hK7 _ (aB (aE aA 2 rfl ?_)))
    refine aG rfl (eH rfl rfl (by omega) (by omega)) ?_
    refine aE aA 1 rfl ?_
    refine bG ?_
    exact⟨((L++v,u.drop v.length),(u.take v.length,R)),⟨by rw[List.length_append]; omega,by omega,by omega,by rw[← ht]; simp [← List.append_assoc (u.take v.length)]⟩,by simp only; omega,cK ⟨rfl,rfl,rfl,aL (by omega),aL (by omega),trivial⟩ (by rw[List.append_assoc L v]; rfl)⟩
   ·
    simp only[bs] at hc2
    refine aC (fun K8 hK8=>(aB ?_))
    rw[show L++(u++(v++R))=L++(u++(v.take (v.length - u.length)++(v.drop (v.length - u.length)++R))) from by rw[← List.append_assoc (v.take (v.length - u.length)),List.take_append_drop]]
    refine aE aA 3 rfl ?_
    refine aG rfl (eH rfl rfl (by omega) (by omega)) ?_
    refine aE aA 2 rfl ?_
    refine aG rfl (bO rfl rfl (by omega) (by omega)) ?_
    refine aE aA 1 rfl ?_
    refine aG rfl (eH rfl rfl (by omega) (by omega)) ?_
    refine aE aA 2 rfl (fK hf E0 rfl rfl rfl rfl rfl qV (qB g L u (v.take (v.length - u.length)) (v.drop (v.length - u.length)) R N _ _ _ (by omega) (by omega) (by omega) (by omega) (by omega) hM) ?_)
    rintro r zs rfl
    refine aD (hK8 _ (aB (aE aA 2 rfl ?_)))
    refine aG rfl (eH rfl rfl (by omega) (by omega)) ?_
    refine aE aA 1 rfl ?_
    refine bG ?_
    exact⟨((L,v.drop (v.length - u.length)),(v.take (v.length - u.length),u++R)),⟨by omega,by omega,by omega,by rw[← ht]; simp [← List.append_assoc (v.take (v.length - u.length))]⟩,by simp only; omega,cK ⟨rfl,rfl,rfl,aL (by omega),aL (by omega),trivial⟩ rfl⟩
  ·
   simp only[bs] at hc1
   refine aW (hK3 _ (aB ?_))
   rw[show L++(u++(v++R))=L++(u++([]++(v++R))) from rfl]
   refine aE aA 3 rfl ?_
   refine aG rfl (eH rfl rfl (by omega) (by omega)) ?_
   refine aE aA 3 rfl (fK hf E0 rfl rfl rfl rfl rfl qV (qB g L u [] v R N _ _ _ (by simp only[List.length_nil]; omega) (by omega) (by omega) (by simp only[List.length_nil]; omega) (by omega) hM) ?_)
   rintro r zs rfl
   refine bG ?_
   refine⟨_,_,_,Le.refl _,rfl,rfl,?_⟩
   rw[← ht]; rfl
theorem yD {g:Nat} (hent:∀ args w,(callFunc g args).run Tryz.prog w=.ok (.enter g args) w) {c:bD→bD→Int} (hc:Tri c) (hcmp:∀ x y:bD,Den Tryz.prog g [.agg (stC x),.agg (stC y)] (·=.s (.int .i64 (c x y)))) (p s0 q:List bD) (N:Nat) (za zb:Int) (hN:N=p.length+s0.length+q.length) (hza:za=(p.length:Nat)) (hzb:zb=((p.length+s0.length:Nat):Int)) (hM:N<4611686018427387904) :DenM Tryz.prog 233 [.own E0 4 0 N,.s (.int .i64 za),.s (.int .i64 zb),.fn g []] 4 ((List.map stC (p++(s0++q)))) (fun r ys=>∃ t:List bD,t.Perm s0∧Srt c t∧ys=(List.map stC (p++(t++q)))):=by
 subst hza
 subst hzb
 refine fI Tryz.func233 rfl (Nat.le_of_ble_eq_true rfl) (fun w0 x0 A hf=>?_)
 refine aC (fun K1 hK1=>(aB (aE aA 1 rfl ?_)))
 refine aG rfl (bO rfl rfl (by omega) (by omega)) ?_
 refine aE aA 1 rfl (aD (hK1 _ (aO (bR (ι:=List bD×List bD) (fun(⟨s1,s2⟩:List bD×List bD)=>⟨53,[(0,.own E0 4 0 N),(1,.s (.int .i64 (p.length:Nat))),(2,.s (.int .i64 ((p.length+s0.length:Nat):Int))),(3,.fn g []),(8,.s (.int .i64 ((p.length+1+(s1.length - 1):Nat):Int)))],[(E0,.buf 4 (List.map stC (p++(s1++(s2++q)))))]⟩) (fun(⟨s1,s2⟩:List bD×List bD)=>Srt c s1∧(s1++s2).Perm s0∧(0<s1.length∨s0=[])) (fun(⟨s1,s2⟩:List bD×List bD)=>s2.length) (s0.take 1,s0.drop 1) ?_ ?_ ?_))))
 · exact⟨srt_one (by simp; omega),by rw[List.take_append_drop],by cases s0 <;> simp⟩
 · exact cK ⟨rfl,rfl,rfl,rfl,aL (by have:=List.length_take (i:=1) (l:=s0); omega),trivial⟩ (by rw[← List.append_assoc (s0.take 1),List.take_append_drop])
 ·
  rintro ⟨s1,s2⟩ hC
  obtain ⟨hs1,hp12,hne⟩:=hC
  have hpl:=hp12.length_eq
  rw[List.length_append] at hpl
  have hnl:s0=[]→s0.length=0:=fun h=>by rw[h]; rfl
  refine aC (fun K2 hK2=>(aC (fun K3 hK3=>(aB (aE aA 3 rfl (aD (hK3 _ (aK rfl (fun hc1=>?_) (fun hc1=>?_)))))))))
  ·
   simp only[bs] at hc1
   refine aN (hK2 _ (aC (fun K4 hK4=>(aO (aC (fun K5 hK5=>(aB ?_)))))))
   have h0:0<s1.length:=by rcases hne with h | h; exact h; exfalso; have:=hnl h; omega
   obtain ⟨e,s3,rfl⟩:∃ e s3,s2=e::s3:=by
    cases s2 with
    | nil=>exfalso; simp only[List.length_nil] at hpl; omega
    | cons e r=>exact⟨e,r,rfl⟩
   simp only[List.length_cons] at hpl
   refine aE aA 2 rfl (aD (hK5 _ (aO (bR (ι:=List bD×List bD) (fun(⟨u,v⟩:List bD×List bD)=>⟨53,[(0,.own E0 4 0 N),(1,.s (.int .i64 (p.length:Nat))),(2,.s (.int .i64 ((p.length+s0.length:Nat):Int))),(3,.fn g []),(8,.s (.int .i64 ((p.length+1+(s1.length - 1):Nat):Int))),(9,.s (.int .i64 ((p.length+u.length:Nat):Int)))],[(E0,.buf 4 (List.map stC (p++(u++(e::(v++(s3++q)))))))]⟩) (fun(⟨u,v⟩:List bD×List bD)=>u++v=s1∧∀ y∈v,c e y≤0) (fun(⟨u,v⟩:List bD×List bD)=>u.length) (s1,[]) ?_ ?_ ?_))))
   · exact⟨List.append_nil _,by simp⟩
   · exact cK ⟨rfl,rfl,rfl,rfl,rfl,aL (by omega),trivial⟩ rfl
   ·
    rintro ⟨u,v⟩ hC
    obtain ⟨huv,hv⟩:=hC
    have hul:=congrArg List.length huv
    rw[List.length_append] at hul
    refine aC (fun K6 hK6=>(aC (fun K7 hK7=>(eB hf bI (by kernel_rfl) rfl (aX aA 4 rfl (gA 21 true rfl (fun hg2=>?_) (fun hg2=>?_)))))))
    ·
     simp only[bs] at hg2
     obtain ⟨u1,z,hu1⟩:=last_of (u:=u) (by omega)
     have hu2:=congrArg List.length hu1
     simp only[List.length_append,List.length_cons,List.length_nil] at hu2
     refine aX aA 3 rfl ?_
     refine bL [(23,_),(24,_)] rfl rfl ⟨⟨rfl,rfl⟩,⟨rfl,rfl⟩,trivial⟩ rfl (bN rfl rfl bZ aS (by omega)) ?_
     refine bL [(25,_)] rfl rfl ⟨⟨rfl,rfl⟩,trivial⟩ rfl (bP rfl cV aS rfl (dH (k:=4) (enc:=stC) (z:=p.length+u.length) (by omega) (atQ (p:=p++u) (q:=v++(s3++q)) (x:=e) (by simp) (by simp)) rfl) (cT (k:=4) (enc:=stC) (z:=p.length+u.length) (by omega) (atQ (p:=p++u) (q:=v++(s3++q)) (x:=e) (by simp) (by simp)) rfl)) ?_
     refine aX aA 2 rfl ?_
     refine bL [(28,_)] rfl rfl ⟨⟨rfl,rfl⟩,trivial⟩ rfl (eH rfl rfl (by omega) (by omega)) ?_
     refine bL [(27,_),(29,_)] rfl rfl ⟨⟨rfl,rfl⟩,⟨rfl,rfl⟩,trivial⟩ rfl (bN rfl rfl bZ aS (by omega)) ?_
     refine bL [(30,_)] rfl rfl ⟨⟨rfl,rfl⟩,trivial⟩ rfl (bP rfl cV aS rfl (dH (k:=4) (enc:=stC) (z:=p.length+u1.length) (by omega) (atQ (p:=p++u1) (q:=e::(v++(s3++q))) (x:=z) (by rw[hu1]; simp) (by simp)) rfl) (cT (k:=4) (enc:=stC) (z:=p.length+u1.length) (by omega) (atQ (p:=p++u1) (q:=e::(v++(s3++q))) (x:=z) (by rw[hu1]; simp) (by simp)) rfl)) ?_
     refine bT [(22,_),(26,_),(31,_)] rfl rfl ⟨⟨rfl,rfl⟩,⟨rfl,rfl⟩,⟨rfl,rfl⟩,trivial⟩ rfl (aQ rfl rfl hent rfl (hcmp e z)) (aX aA 2 rfl (eE [0,1,2,3,8,9,34] rfl rfl rfl (hK7 _ (aK rfl (fun hc3=>?_) (fun hc3=>?_)))))
     ·
      simp only[bs] at hc3
      refine aN (hK6 _ (aC (fun K8 hK8=>(aO (eS bI ?_)))))
      refine bK (listed':=#[true,false,false,false,false,false,false,false,false,false,false,false,false,false,false,false,false,false]) 0 rfl (by kernel_rfl) (by kernel_rfl) (by kernel_rfl) rfl (fun _ _ h=>h) (dJ rfl) ?_
      refine bK (listed':=#[true,true,false,false,false,false,false,false,false,false,false,false,false,false,false,false,false,false]) 1 rfl (by kernel_rfl) (by kernel_rfl) (by kernel_rfl) rfl (fun _ _ h=>h) (dJ rfl) ?_
      refine bK (listed':=#[true,true,true,false,false,false,false,false,false,false,false,false,false,false,false,false,false,false]) 2 rfl (by kernel_rfl) (by kernel_rfl) (by kernel_rfl) rfl (fun _ _ h=>h) (dJ rfl) ?_
      refine bK (listed':=#[true,true,true,true,false,false,false,false,false,false,false,false,false,false,false,false,false,false]) 3 rfl (by kernel_rfl) (by kernel_rfl) (by kernel_rfl) rfl (fun _ _ h=>h) (dJ rfl) ?_
      refine bK (listed':=#[true,true,true,true,true,false,false,false,false,false,false,false,false,false,false,false,false,false]) 4 rfl (by kernel_rfl) (by kernel_rfl) (by kernel_rfl) rfl (fun _ _ h=>h) (aJj rfl rfl (by omega) (by omega)) ?_
      refine bK (listed':=#[true,true,true,true,true,true,false,false,false,false,false,false,false,false,false,false,false,false]) 5 rfl (by kernel_rfl) (by kernel_rfl) (by kernel_rfl) rfl (fun _ _ h=>h) (dJ rfl) ?_
      refine bK (listed':=#[true,true,true,true,true,true,true,false,false,false,false,false,false,false,false,false,false,false]) 6 rfl (by kernel_rfl) (by kernel_rfl) (by kernel_rfl) rfl (fun _ _ h=>h) (dJ rfl) ?_
      refine bK (listed':=#[true,true,true,true,true,true,true,true,false,false,false,false,false,false,false,false,false,false]) 7 rfl (by kernel_rfl) (by kernel_rfl) (by kernel_rfl) rfl (fun _ _ h=>h) (aJj rfl rfl (by omega) (by omega)) ?_
      refine bK (listed':=#[true,true,true,true,true,true,true,true,true,false,false,false,false,false,false,false,false,false]) 8 rfl (by kernel_rfl) (by kernel_rfl) (by kernel_rfl) rfl (fun _ _ h=>h) (jK rfl rfl bZ aS (by omega)) ?_
      refine bK (listed':=#[true,true,true,true,true,true,true,true,true,false,true,false,false,false,false,false,false,false]) 10 rfl (by kernel_rfl) (by kernel_rfl) (by kernel_rfl) rfl (fun _ _ h=>h) (dJ rfl) ?_
      refine bK (listed':=#[true,true,true,true,true,true,true,true,true,false,true,true,false,false,false,false,false,false]) 11 rfl (by kernel_rfl) (by kernel_rfl) (by kernel_rfl) rfl (fun _ _ h=>h) (dJ rfl) ?_
      refine bK (listed':=#[true,true,true,true,true,true,true,true,true,false,true,true,true,false,false,false,false,false]) 12 rfl (by kernel_rfl) (by kernel_rfl) (by kernel_rfl) rfl (fun _ _ h=>h) (jK rfl rfl bZ aS (by omega)) ?_
      refine kZ (iX [0,1,2,3,8,9,37,38,39,41,45,49] rfl) (aI 9 [13] (by kernel_rfl) ⟨?_,?_,trivial⟩)
      ·
       refine⟨_,rfl,rfl,(ao rfl (aG rfl (bP rfl cV aS rfl (dH (k:=4) (enc:=stC) (z:=p.length+u1.length) (by omega) (atQ (p:=p++u1) (q:=e::(v++(s3++q))) (x:=z) (by rw[hu1]; simp) (by simp)) rfl) (cT (k:=4) (enc:=stC) (z:=p.length+u1.length) (by omega) (atQ (p:=p++u1) (q:=e::(v++(s3++q))) (x:=z) (by rw[hu1]; simp) (by simp)) rfl)) ?_))⟩
       refine aF (aI 13 [] (by kernel_rfl) ⟨?_,trivial⟩)
       ·
        refine⟨_,rfl,rfl,(ao rfl (aG rfl (bP rfl cV aS rfl (dH (k:=4) (enc:=stC) (z:=p.length+u.length) (by omega) (atQ (p:=p++u) (q:=v++(s3++q)) (x:=e) (by simp) (by simp)) rfl) (cT (k:=4) (enc:=stC) (z:=p.length+u.length) (by omega) (atQ (p:=p++u) (q:=v++(s3++q)) (x:=e) (by simp) (by simp)) rfl)) ?_))⟩
        refine aF (aI 14 [] (by kernel_rfl) ⟨?_,trivial⟩)
        ·
         refine⟨_,rfl,rfl,(ao rfl ?_)⟩
         refine aG rfl (bN rfl rfl bZ aS (by omega)) ?_
         refine aF (aI 15 [] (by kernel_rfl) ⟨?_,trivial⟩)
         ·
          refine⟨_,rfl,rfl,(ao rfl (aT hf rfl rfl aS rfl rfl (by simp [stC,AV.cells,AV.one,Value.oneCell']) (by simp [stC,AV.cells,AV.leaf,Value.oneCell']) (dU (k:=4) (enc:=stC) (z:=p.length+u.length) (v:=z) (by omega) (by simp only[List.length_append,List.length_cons,List.length_set]; omega) rfl rfl rfl) ?_))⟩
          refine aF (aI 16 [] (by kernel_rfl) ⟨?_,trivial⟩)
          ·
           refine⟨_,rfl,rfl,(ao rfl ?_)⟩
           refine aG rfl (bN rfl rfl bZ aS (by omega)) ?_
           refine aF (aI 17 [] (by kernel_rfl) ⟨?_,trivial⟩)
           ·
            refine⟨_,rfl,rfl,(ao rfl (aT hf rfl rfl aS rfl rfl (by simp [stC,AV.cells,AV.one,Value.oneCell']) (by simp [stC,AV.cells,AV.leaf,Value.oneCell']) (dU (k:=4) (enc:=stC) (z:=p.length+u1.length) (v:=e) (by omega) (by simp only[List.length_append,List.length_cons,List.length_set]; omega) rfl rfl rfl) ?_))⟩
            refine aF (dC (by kernel_rfl) ?_)
            refine hK8 _ (aB (aE aA 1 rfl ?_))
            refine aG rfl (eH rfl rfl (by omega) (by omega)) ?_
            refine aE aA 1 rfl (aD ?_)
            exact⟨(u1,z::v),⟨by rw[← huv,hu1]; simp,fun y hy=>by
             rcases List.mem_cons.1 hy with rfl | hy
             · omega
             · exact hv y hy⟩,by simp only; omega,cK ⟨rfl,rfl,rfl,rfl,rfl,aL (by omega),trivial⟩ (congrArg (fun l=>[(E0,AM.buf 4 (List.map stC l))]) ((rF (p:=p++u1) (x:=z) (y:=e) (q:=v++(s3++q)) (by rw[hu1]; simp) (by simp; omega) (by simp)).trans (by simp)))⟩
      ·
       refine⟨_,rfl,rfl,(ao rfl (aG rfl (bP rfl cV aS rfl (dH (k:=4) (enc:=stC) (z:=p.length+u.length) (by omega) (atQ (p:=p++u) (q:=v++(s3++q)) (x:=e) (by simp) (by simp)) rfl) (cT (k:=4) (enc:=stC) (z:=p.length+u.length) (by omega) (atQ (p:=p++u) (q:=v++(s3++q)) (x:=e) (by simp) (by simp)) rfl)) ?_))⟩
       refine aF (aI 9 [] (by kernel_rfl) ⟨?_,trivial⟩)
       ·
        refine⟨_,rfl,rfl,(ao rfl (aG rfl (bP rfl cV aS rfl (dH (k:=4) (enc:=stC) (z:=p.length+u1.length) (by omega) (atQ (p:=p++u1) (q:=e::(v++(s3++q))) (x:=z) (by rw[hu1]; simp) (by simp)) rfl) (cT (k:=4) (enc:=stC) (z:=p.length+u1.length) (by omega) (atQ (p:=p++u1) (q:=e::(v++(s3++q))) (x:=z) (by rw[hu1]; simp) (by simp)) rfl)) ?_))⟩
        refine aF (aI 14 [] (by kernel_rfl) ⟨?_,trivial⟩)
        ·
         refine⟨_,rfl,rfl,(ao rfl ?_)⟩
         refine aG rfl (bN rfl rfl bZ aS (by omega)) ?_
         refine aF (aI 15 [] (by kernel_rfl) ⟨?_,trivial⟩)
         ·
          refine⟨_,rfl,rfl,(ao rfl (aT hf rfl rfl aS rfl rfl (by simp [stC,AV.cells,AV.one,Value.oneCell']) (by simp [stC,AV.cells,AV.leaf,Value.oneCell']) (dU (k:=4) (enc:=stC) (z:=p.length+u.length) (v:=z) (by omega) (by simp only[List.length_append,List.length_cons,List.length_set]; omega) rfl rfl rfl) ?_))⟩
          refine aF (aI 16 [] (by kernel_rfl) ⟨?_,trivial⟩)
          ·
           refine⟨_,rfl,rfl,(ao rfl ?_)⟩
           refine aG rfl (bN rfl rfl bZ aS (by omega)) ?_
           refine aF (aI 17 [] (by kernel_rfl) ⟨?_,trivial⟩)
           ·
            refine⟨_,rfl,rfl,(ao rfl (aT hf rfl rfl aS rfl rfl (by simp [stC,AV.cells,AV.one,Value.oneCell']) (by simp [stC,AV.cells,AV.leaf,Value.oneCell']) (dU (k:=4) (enc:=stC) (z:=p.length+u1.length) (v:=e) (by omega) (by simp only[List.length_append,List.length_cons,List.length_set]; omega) rfl rfl rfl) ?_))⟩
            refine aF (dC (by kernel_rfl) ?_)
            refine hK8 _ (aB (aE aA 1 rfl ?_))
            refine aG rfl (eH rfl rfl (by omega) (by omega)) ?_
            refine aE aA 1 rfl (aD ?_)
            exact⟨(u1,z::v),⟨by rw[← huv,hu1]; simp,fun y hy=>by
             rcases List.mem_cons.1 hy with rfl | hy
             · omega
             · exact hv y hy⟩,by simp only; omega,cK ⟨rfl,rfl,rfl,rfl,rfl,aL (by omega),trivial⟩ (congrArg (fun l=>[(E0,AM.buf 4 (List.map stC l))]) ((rF (p:=p++u1) (x:=z) (y:=e) (q:=v++(s3++q)) (by rw[hu1]; simp) (by simp; omega) (by simp)).trans (by simp)))⟩
     ·
      simp only[bs] at hc3
      refine aW (hK4 _ (aB (aE aA 1 rfl ?_)))
      refine aG rfl (bO rfl rfl (by omega) (by omega)) ?_
      refine aE aA 1 rfl (aD ?_)
      exact⟨(u++e::v,s3),⟨zK hc (by rw[huv]; exact hs1) hv (fun z' hz'=>by rw[hu1] at hz'; simp at hz'; subst hz'; have:=hc.swap e z; omega),aE4 huv hp12,.inl (by simp only[List.length_append,List.length_cons]; omega)⟩,by simp,cK ⟨rfl,rfl,rfl,rfl,aL (by simp only[List.length_append,List.length_cons]; omega),trivial⟩ (by simp)⟩
    ·
     simp only[bs] at hg2
     refine aX aA 13 rfl (eE [0,1,2,3,8,9,34] rfl rfl rfl (hK7 _ (bW rfl (aW (hK4 _ (aB (aE aA 1 rfl ?_)))))))
     refine aG rfl (bO rfl rfl (by omega) (by omega)) ?_
     refine aE aA 1 rfl (aD ?_)
     exact⟨(u++e::v,s3),⟨zK hc (by rw[huv]; exact hs1) hv (fun z' hz'=>by rw[List.eq_nil_of_length_eq_zero (show u.length=0 by omega)] at hz'; simp at hz'),aE4 huv hp12,.inl (by simp only[List.length_append,List.length_cons]; omega)⟩,by simp,cK ⟨rfl,rfl,rfl,rfl,aL (by simp only[List.length_append,List.length_cons]; omega),trivial⟩ (by simp)⟩
  ·
   simp only[bs] at hc1
   refine aW ?_
   have hs2:s2=[]:=List.eq_nil_of_length_eq_zero (by rcases hne with h | h; omega; have:=hnl h; omega)
   subst hs2
   exact⟨_,_,_,Le.refl _,rfl,rfl,s1,by simpa using hp12,hs1,rfl⟩
theorem yC {g:Nat} (hent:∀ args w,(callFunc g args).run Tryz.prog w=.ok (.enter g args) w) {c:bD→bD→Int} (hc:Tri c) (hcmp:∀ x y:bD,Den Tryz.prog g [.agg (stC x),.agg (stC y)] (·=.s (.int .i64 (c x y)))) (NN:Nat) (ih:∀ (p s1 s2 q:List bD) (N:Nat) (za zm zb:Int),s1.length+s2.length≤NN→N=p.length+s1.length+s2.length+q.length→za=(p.length:Nat)→zm=((p.length+s1.length:Nat):Int)→zb=((p.length+s1.length+s2.length:Nat):Int)→0<s1.length→0<s2.length→Srt c s1→Srt c s2→N<4611686018427387904→DenM Tryz.prog 234 [.own E0 4 0 N,.s (.int .i64 za),.s (.int .i64 zm),.s (.int .i64 zb),.fn g []] 4 (List.map stC (p++(s1++(s2++q)))) (fun r ys=>∃ t:List bD,t.Perm (s1++s2)∧Srt c t∧ys=(List.map stC (p++(t++q))))) (p s1 s2 q:List bD) (N:Nat) (za zm zb:Int) (hle:s1.length+s2.length≤NN+1) (hN:N=p.length+s1.length+s2.length+q.length) (hza:za=(p.length:Nat)) (hzm:zm=((p.length+s1.length:Nat):Int)) (hzb:zb=((p.length+s1.length+s2.length:Nat):Int)) (h01:0<s1.length) (h02:0<s2.length) (hs1:Srt c s1) (hs2:Srt c s2) (hM:N<4611686018427387904) :DenM Tryz.prog 234 [.own E0 4 0 N,.s (.int .i64 za),.s (.int .i64 zm),.s (.int .i64 zb),.fn g []] 4 ((List.map stC (p++(s1++(s2++q))))) (fun r ys=>∃ t:List bD,t.Perm (s1++s2)∧Srt c t∧ys=(List.map stC (p++(t++q)))):=by
 subst hza
 subst hzm
 subst hzb
 refine fI Tryz.func234 rfl (Nat.le_of_ble_eq_true rfl) (fun w0 x0 A hf=>?_)
 refine aC (fun K1 hK1=>(aC (fun K2 hK2=>(aB (aE aA 2 rfl ?_)))))
 refine aG rfl (eH rfl rfl (by omega) (by omega)) ?_
 refine aE aA 1 rfl (aD (hK2 _ (aK rfl (fun hc1=>?_) (fun hc1=>?_))))
 ·
  simp only[bs] at hc1
  obtain ⟨x,hx1⟩:∃ x,s1=[x]:=List.length_eq_one_iff.1 (by omega)
  have hl1:s1.length=1:=by rw[hx1]; rfl
  refine aC (fun K3 hK3=>(aB (aE aA 2 rfl (aD (hK3 _ (aC (fun K4 hK4=>(aB (aE aA 2 rfl (aD (hK4 _ (aC (fun K5 hK5=>(aO (bR (ι:=Nat×Nat) (fun(⟨i,j⟩:Nat×Nat)=>⟨220,[(0,.own E0 4 0 N),(1,.s (.int .i64 (p.length:Nat))),(4,.fn g []),(10,.s (.int .i64 ((p.length+s1.length+i:Nat):Int))),(11,.s (.int .i64 ((p.length+s1.length+j:Nat):Int)))],[(E0,.buf 4 (List.map stC (p++(s1++(s2++q)))))]⟩) (fun(⟨i,j⟩:Nat×Nat)=>i≤j∧j≤s2.length∧(∀ z,s2[i - 1]?=some z→0<i→c z x≤0)∧(∀ z,s2[j]?=some z→c x z≤0)) (fun(⟨i,j⟩:Nat×Nat)=>j - i) (0,s2.length) ?_ ?_ ?_)))))))))))))))
  · exact⟨Nat.zero_le _,Nat.le_refl _,fun _ _ h=>absurd h (by omega),fun z hz=>by rw[List.getElem?_eq_none (Nat.le_refl _)] at hz; cases hz⟩
  · exact cK ⟨(by first | rfl | exact aL (by omega)),(by first | rfl | exact aL (by omega)),(by first | rfl | exact aL (by omega)),(by first | rfl | exact aL (by omega)),(by first | rfl | exact aL (by omega)),trivial⟩ rfl
  ·
   rintro ⟨i,j⟩ hC
   obtain ⟨q1,q2,q3,q4⟩:=hC
   refine aC (fun K6 hK6=>(aC (fun K7 hK7=>(aB (aE aA 3 rfl (aD (hK7 _ (aK rfl (fun hc2=>?_) (fun hc2=>?_)))))))))
   ·
    simp only[bs] at hc2
    refine aN (hK6 _ (aO (aC (fun K8 hK8=>(aB ?_)))))
    obtain ⟨h,eh⟩:∃ h,h=(i+j) / 2:=⟨_,rfl⟩
    have hz:=vF (a:=((p.length+s1.length+i:Nat):Int)+((p.length+s1.length+j:Nat):Int)) (b:=((p.length+s1.length+h:Nat):Int)) (by omega) (by omega) (by omega)
    refine aE aA 2 rfl ?_
    refine aG rfl (bO rfl rfl (by omega) (by omega)) ?_
    refine aG rfl (lR rfl Tryz.underlying3 Tryz.underlying268 hz.1) (aG rfl (uX rfl hz.2.1 (by decide)) (aG rfl (lR rfl Tryz.underlying268 Tryz.underlying3 hz.2.2) (aE aA 1 rfl (aD (hK8 _ (aC (fun K9 hK9=>(eB hf bI (by kernel_rfl) rfl ?_))))))))
    have hh2:h<s2.length:=by omega
    refine aX aA 3 rfl ?_
    refine bL [(41,_),(42,_)] rfl rfl ⟨⟨rfl,rfl⟩,⟨rfl,rfl⟩,trivial⟩ rfl (bN rfl rfl bZ aS (by omega)) ?_
    refine bL [(43,_)] rfl rfl ⟨⟨rfl,rfl⟩,trivial⟩ rfl (bP rfl cV aS rfl (dH (k:=4) (enc:=stC) (z:=p.length+s1.length+h) (by omega) (atM hh2) rfl) (cT (k:=4) (enc:=stC) (z:=p.length+s1.length+h) (by omega) (atM hh2) rfl)) (aX aA 2 rfl ?_)
    refine bL [(45,_),(46,_)] rfl rfl ⟨⟨rfl,rfl⟩,⟨rfl,rfl⟩,trivial⟩ rfl (bN rfl rfl bZ aS (by omega)) ?_
    refine bL [(47,_)] rfl rfl ⟨⟨rfl,rfl⟩,trivial⟩ rfl (bP rfl cV aS rfl (dH (k:=4) (enc:=stC) (z:=p.length) (by omega) (atQ (p:=p) (q:=s2++q) (by rw[hx1]; rfl) rfl) rfl) (cT (k:=4) (enc:=stC) (z:=p.length) (by omega) (atQ (p:=p) (q:=s2++q) (by rw[hx1]; rfl) rfl) rfl)) ?_
    refine bT [(40,_),(44,_),(48,_)] rfl rfl ⟨⟨rfl,rfl⟩,⟨rfl,rfl⟩,⟨rfl,rfl⟩,trivial⟩ rfl (aQ rfl rfl hent rfl (hcmp s2[h] x)) (aX aA 1 rfl (eE [0,1,4,10,11,12,50] rfl rfl rfl (hK9 _ (aK rfl (fun hc3=>?_) (fun hc3=>?_)))))
    ·
     simp only[bs] at hc3
     refine aB (aE aA 1 rfl ?_)
     refine aG rfl (bO rfl rfl (by omega) (by omega)) ?_
     refine aE aA 1 rfl ?_
     refine bG ?_
     exact⟨(h+1,j),⟨by omega,by omega,fun z hz _=>by rw[Nat.add_sub_cancel,List.getElem?_eq_getElem hh2] at hz; cases hz; omega,q4⟩,by simp only; omega,cK ⟨(by first | rfl | exact aL (by omega)),(by first | rfl | exact aL (by omega)),(by first | rfl | exact aL (by omega)),(by first | rfl | exact aL (by omega)),(by first | rfl | exact aL (by omega)),trivial⟩ rfl⟩
    ·
     simp only[bs] at hc3
     refine aB (aE aA 2 rfl ?_)
     refine bG ?_
     exact⟨(i,h),⟨by omega,by omega,q3,fun z hz=>by rw[List.getElem?_eq_getElem hh2] at hz; cases hz; have:=hc.swap s2[h] x; omega⟩,by simp only; omega,cK ⟨(by first | rfl | exact aL (by omega)),(by first | rfl | exact aL (by omega)),(by first | rfl | exact aL (by omega)),(by first | rfl | exact aL (by omega)),(by first | rfl | exact aL (by omega)),trivial⟩ rfl⟩
   ·
    simp only[bs] at hc2
    refine aW (hK5 _ (aC (fun K10 hK10=>(aC (fun K11 hK11=>(aB (aE aA 2 rfl (aD (hK11 _ (aO (bR (ι:=Nat) (fun t=>⟨220,[(0,.own E0 4 0 N),(10,.s (.int .i64 ((p.length+s1.length+i:Nat):Int))),(13,.s (.int .i64 ((p.length+t:Nat):Int)))],[(E0,.buf 4 (List.map stC (p++(s2.take t++(x::(s2.drop t++q))))))]⟩) (fun t=>t≤i) (fun t=>i - t) 0 ?_ ?_ ?_)))))))))))
    · exact Nat.zero_le _
    · exact cK ⟨(by first | rfl | exact aL (by omega)),(by first | rfl | exact aL (by omega)),(by first | rfl | exact aL (by omega)),trivial⟩ (by rw[hx1]; rfl)
    ·
     rintro t hC
     have hq:=hC
     refine aC (fun K12 hK12=>(aC (fun K13 hK13=>(aB (aE aA 2 rfl ?_)))))
     refine aG rfl (eH rfl rfl (by omega) (by omega)) ?_
     refine aE aA 1 rfl (aD (hK13 _ (aK rfl (fun hc4=>?_) (fun hc4=>?_))))
     ·
      simp only[bs] at hc4
      refine aN (hK12 _ (aC (fun K14 hK14=>(aO (eS bI ?_)))))
      refine bK (listed':=#[true,false,false,false,false,false,false,false,false,false,false,false,false,false,false,false,false,false]) 0 rfl (by kernel_rfl) (by kernel_rfl) (by kernel_rfl) rfl (fun _ _ h=>h) (dJ rfl) ?_
      refine bK (listed':=#[true,true,false,false,false,false,false,false,false,false,false,false,false,false,false,false,false,false]) 1 rfl (by kernel_rfl) (by kernel_rfl) (by kernel_rfl) rfl (fun _ _ h=>h) (dJ rfl) ?_
      refine bK (listed':=#[true,true,true,false,false,false,false,false,false,false,false,false,false,false,false,false,false,false]) 2 rfl (by kernel_rfl) (by kernel_rfl) (by kernel_rfl) rfl (fun _ _ h=>h) (dJ rfl) ?_
      refine bK (listed':=#[true,true,true,true,false,false,false,false,false,false,false,false,false,false,false,false,false,false]) 3 rfl (by kernel_rfl) (by kernel_rfl) (by kernel_rfl) rfl (fun _ _ h=>h) (dJ rfl) ?_
      refine bK (listed':=#[true,true,true,true,true,false,false,false,false,false,false,false,false,false,false,false,false,false]) 4 rfl (by kernel_rfl) (by kernel_rfl) (by kernel_rfl) rfl (fun _ _ h=>h) (aBc rfl rfl (by omega) (by omega)) ?_
      refine bK (listed':=#[true,true,true,true,true,true,false,false,false,false,false,false,false,false,false,false,false,false]) 5 rfl (by kernel_rfl) (by kernel_rfl) (by kernel_rfl) rfl (fun _ _ h=>h) (dJ rfl) ?_
      refine bK (listed':=#[true,true,true,true,true,true,true,false,false,false,false,false,false,false,false,false,false,false]) 6 rfl (by kernel_rfl) (by kernel_rfl) (by kernel_rfl) rfl (fun _ _ h=>h) (dJ rfl) ?_
      refine bK (listed':=#[true,true,true,true,true,true,true,true,false,false,false,false,false,false,false,false,false,false]) 7 rfl (by kernel_rfl) (by kernel_rfl) (by kernel_rfl) rfl (fun _ _ h=>h) (aBc rfl rfl (by omega) (by omega)) ?_
      refine bK (listed':=#[true,true,true,true,true,true,true,true,true,false,false,false,false,false,false,false,false,false]) 8 rfl (by kernel_rfl) (by kernel_rfl) (by kernel_rfl) rfl (fun _ _ h=>h) (jK rfl rfl bZ aS (by omega)) ?_
      refine bK (listed':=#[true,true,true,true,true,true,true,true,true,false,true,false,false,false,false,false,false,false]) 10 rfl (by kernel_rfl) (by kernel_rfl) (by kernel_rfl) rfl (fun _ _ h=>h) (dJ rfl) ?_
      refine bK (listed':=#[true,true,true,true,true,true,true,true,true,false,true,true,false,false,false,false,false,false]) 11 rfl (by kernel_rfl) (by kernel_rfl) (by kernel_rfl) rfl (fun _ _ h=>h) (dJ rfl) ?_
      refine bK (listed':=#[true,true,true,true,true,true,true,true,true,false,true,true,true,false,false,false,false,false]) 12 rfl (by kernel_rfl) (by kernel_rfl) (by kernel_rfl) rfl (fun _ _ h=>h) (jK rfl rfl bZ aS (by omega)) ?_
      refine kZ (iX [0,10,13,61,62,63,65,69,73] rfl) (aI 9 [13] (by kernel_rfl) ⟨?_,?_,trivial⟩)
      ·
       refine⟨_,rfl,rfl,(ao rfl (aG rfl (bP rfl cV aS rfl (dH (k:=4) (enc:=stC) (z:=p.length+t+1) (by omega) (atQ (p:=p++(s2.take t++[x])) (q:=s2.drop (t+1)++q) (x:=s2[t]) (by rw[List.drop_eq_getElem_cons (show t<s2.length by omega)]; simp only[List.append_assoc,List.cons_append,List.nil_append]) (by simp only[List.length_append,List.length_take,List.length_cons,List.length_nil]; omega)) rfl) (cT (k:=4) (enc:=stC) (z:=p.length+t+1) (by omega) (atQ (p:=p++(s2.take t++[x])) (q:=s2.drop (t+1)++q) (x:=s2[t]) (by rw[List.drop_eq_getElem_cons (show t<s2.length by omega)]; simp only[List.append_assoc,List.cons_append,List.nil_append]) (by simp only[List.length_append,List.length_take,List.length_cons,List.length_nil]; omega)) rfl)) ?_))⟩
       refine aF (aI 13 [] (by kernel_rfl) ⟨?_,trivial⟩)
       ·
        refine⟨_,rfl,rfl,(ao rfl (aG rfl (bP rfl cV aS rfl (dH (k:=4) (enc:=stC) (z:=p.length+t) (by omega) (atQ (p:=p++s2.take t) (q:=s2.drop t++q) (x:=x) (by simp only[List.append_assoc]) (by(try simp only[List.length_take,List.length_drop,List.length_append]); omega)) rfl) (cT (k:=4) (enc:=stC) (z:=p.length+t) (by omega) (atQ (p:=p++s2.take t) (q:=s2.drop t++q) (x:=x) (by simp only[List.append_assoc]) (by(try simp only[List.length_take,List.length_drop,List.length_append]); omega)) rfl)) ?_))⟩
        refine aF (aI 14 [] (by kernel_rfl) ⟨?_,trivial⟩)
        ·
         refine⟨_,rfl,rfl,(ao rfl ?_)⟩
         refine aG rfl (bN rfl rfl bZ aS (by omega)) ?_
         refine aF (aI 15 [] (by kernel_rfl) ⟨?_,trivial⟩)
         ·
          refine⟨_,rfl,rfl,(ao rfl (aT hf rfl rfl aS rfl rfl (by simp [stC,AV.cells,AV.one,Value.oneCell']) (by simp [stC,AV.cells,AV.leaf,Value.oneCell']) (dU (k:=4) (enc:=stC) (z:=p.length+t) (v:=s2[t]) (by omega) (by simp only[List.length_append,List.length_cons,List.length_set,List.length_take,List.length_drop]; omega) rfl rfl rfl) ?_))⟩
          refine aF (aI 16 [] (by kernel_rfl) ⟨?_,trivial⟩)
          ·
           refine⟨_,rfl,rfl,(ao rfl ?_)⟩
           refine aG rfl (bN rfl rfl bZ aS (by omega)) ?_
           refine aF (aI 17 [] (by kernel_rfl) ⟨?_,trivial⟩)
           ·
            refine⟨_,rfl,rfl,(ao rfl (aT hf rfl rfl aS rfl rfl (by simp [stC,AV.cells,AV.one,Value.oneCell']) (by simp [stC,AV.cells,AV.leaf,Value.oneCell']) (dU (k:=4) (enc:=stC) (z:=p.length+t+1) (v:=x) (by omega) (by simp only[List.length_append,List.length_cons,List.length_set,List.length_take,List.length_drop]; omega) rfl rfl rfl) ?_))⟩
            refine aF (dC (by kernel_rfl) ?_)
            refine hK14 _ (aB (aE aA 1 rfl ?_))
            refine aG rfl (bO rfl rfl (by omega) (by omega)) ?_
            refine aE aA 1 rfl (aD ?_)
            exact⟨t+1,by omega,by omega,cK ⟨(by first | rfl | exact aL (by omega)),(by first | rfl | exact aL (by omega)),(by first | rfl | exact aL (by omega)),trivial⟩ (congrArg (fun l=>[(E0,AM.buf 4 (List.map stC l))]) ((aJl (p:=p++s2.take t) (x:=x) (y:=s2[t]) (q:=s2.drop (t+1)++q) (by rw[List.drop_eq_getElem_cons (show t<s2.length by omega)]; simp only[List.append_assoc,List.cons_append]) (by(try simp only[List.length_take,List.length_drop,List.length_append]); omega) (by(try simp only[List.length_take,List.length_drop,List.length_append]); omega)).trans (by rw[← List.take_append_getElem (show t<s2.length by omega)]; simp only[List.append_assoc,List.cons_append,List.nil_append])))⟩
      ·
       refine⟨_,rfl,rfl,(ao rfl (aG rfl (bP rfl cV aS rfl (dH (k:=4) (enc:=stC) (z:=p.length+t) (by omega) (atQ (p:=p++s2.take t) (q:=s2.drop t++q) (x:=x) (by simp only[List.append_assoc]) (by(try simp only[List.length_take,List.length_drop,List.length_append]); omega)) rfl) (cT (k:=4) (enc:=stC) (z:=p.length+t) (by omega) (atQ (p:=p++s2.take t) (q:=s2.drop t++q) (x:=x) (by simp only[List.append_assoc]) (by(try simp only[List.length_take,List.length_drop,List.length_append]); omega)) rfl)) ?_))⟩
       refine aF (aI 9 [] (by kernel_rfl) ⟨?_,trivial⟩)
       ·
        refine⟨_,rfl,rfl,(ao rfl (aG rfl (bP rfl cV aS rfl (dH (k:=4) (enc:=stC) (z:=p.length+t+1) (by omega) (atQ (p:=p++(s2.take t++[x])) (q:=s2.drop (t+1)++q) (x:=s2[t]) (by rw[List.drop_eq_getElem_cons (show t<s2.length by omega)]; simp only[List.append_assoc,List.cons_append,List.nil_append]) (by simp only[List.length_append,List.length_take,List.length_cons,List.length_nil]; omega)) rfl) (cT (k:=4) (enc:=stC) (z:=p.length+t+1) (by omega) (atQ (p:=p++(s2.take t++[x])) (q:=s2.drop (t+1)++q) (x:=s2[t]) (by rw[List.drop_eq_getElem_cons (show t<s2.length by omega)]; simp only[List.append_assoc,List.cons_append,List.nil_append]) (by simp only[List.length_append,List.length_take,List.length_cons,List.length_nil]; omega)) rfl)) ?_))⟩
        refine aF (aI 14 [] (by kernel_rfl) ⟨?_,trivial⟩)
        ·
         refine⟨_,rfl,rfl,(ao rfl ?_)⟩
         refine aG rfl (bN rfl rfl bZ aS (by omega)) ?_
         refine aF (aI 15 [] (by kernel_rfl) ⟨?_,trivial⟩)
         ·
          refine⟨_,rfl,rfl,(ao rfl (aT hf rfl rfl aS rfl rfl (by simp [stC,AV.cells,AV.one,Value.oneCell']) (by simp [stC,AV.cells,AV.leaf,Value.oneCell']) (dU (k:=4) (enc:=stC) (z:=p.length+t) (v:=s2[t]) (by omega) (by simp only[List.length_append,List.length_cons,List.length_set,List.length_take,List.length_drop]; omega) rfl rfl rfl) ?_))⟩
          refine aF (aI 16 [] (by kernel_rfl) ⟨?_,trivial⟩)
          ·
           refine⟨_,rfl,rfl,(ao rfl ?_)⟩
           refine aG rfl (bN rfl rfl bZ aS (by omega)) ?_
           refine aF (aI 17 [] (by kernel_rfl) ⟨?_,trivial⟩)
           ·
            refine⟨_,rfl,rfl,(ao rfl (aT hf rfl rfl aS rfl rfl (by simp [stC,AV.cells,AV.one,Value.oneCell']) (by simp [stC,AV.cells,AV.leaf,Value.oneCell']) (dU (k:=4) (enc:=stC) (z:=p.length+t+1) (v:=x) (by omega) (by simp only[List.length_append,List.length_cons,List.length_set,List.length_take,List.length_drop]; omega) rfl rfl rfl) ?_))⟩
            refine aF (dC (by kernel_rfl) ?_)
            refine hK14 _ (aB (aE aA 1 rfl ?_))
            refine aG rfl (bO rfl rfl (by omega) (by omega)) ?_
            refine aE aA 1 rfl (aD ?_)
            exact⟨t+1,by omega,by omega,cK ⟨(by first | rfl | exact aL (by omega)),(by first | rfl | exact aL (by omega)),(by first | rfl | exact aL (by omega)),trivial⟩ (congrArg (fun l=>[(E0,AM.buf 4 (List.map stC l))]) ((aJl (p:=p++s2.take t) (x:=x) (y:=s2[t]) (q:=s2.drop (t+1)++q) (by rw[List.drop_eq_getElem_cons (show t<s2.length by omega)]; simp only[List.append_assoc,List.cons_append]) (by(try simp only[List.length_take,List.length_drop,List.length_append]); omega) (by(try simp only[List.length_take,List.length_drop,List.length_append]); omega)).trans (by rw[← List.take_append_getElem (show t<s2.length by omega)]; simp only[List.append_assoc,List.cons_append,List.nil_append])))⟩
     ·
      simp only[bs] at hc4
      refine aW (hK10 _ (aJ ?_))
      have hti:t=i:=by omega
      subst hti
      have hij:t=j:=by omega
      subst hij
      exact⟨_,_,_,Le.refl _,rfl,rfl,s2.take t++x::s2.drop t,by rw[hx1]; exact put_perm,aEh hc hs2 (by omega) q3 q4,by simp only[List.append_assoc,List.cons_append]⟩
 ·
  simp only[bs] at hc1
  refine aN (hK1 _ (aC (fun K15 hK15=>(aC (fun K16 hK16=>(aB (aE aA 2 rfl ?_)))))))
  refine aG rfl (eH rfl rfl (by omega) (by omega)) ?_
  refine aE aA 1 rfl (aD (hK16 _ (aK rfl (fun hc5=>?_) (fun hc5=>?_))))
  ·
   simp only[bs] at hc5
   obtain ⟨x,hx2⟩:∃ x,s2=[x]:=List.length_eq_one_iff.1 (by omega)
   have hl2:s2.length=1:=by rw[hx2]; rfl
   refine aC (fun K17 hK17=>(aB (aE aA 2 rfl (aD (hK17 _ (aC (fun K18 hK18=>(aB (aE aA 2 rfl (aD (hK18 _ (aC (fun K19 hK19=>(aO (bR (ι:=Nat×Nat) (fun(⟨i,j⟩:Nat×Nat)=>⟨220,[(0,.own E0 4 0 N),(2,.s (.int .i64 ((p.length+s1.length:Nat):Int))),(4,.fn g []),(14,.s (.int .i64 ((p.length+i:Nat):Int))),(15,.s (.int .i64 ((p.length+j:Nat):Int)))],[(E0,.buf 4 (List.map stC (p++(s1++(s2++q)))))]⟩) (fun(⟨i,j⟩:Nat×Nat)=>i≤j∧j≤s1.length∧(∀ z,s1[i - 1]?=some z→0<i→c z x≤0)∧(∀ z,s1[j]?=some z→c x z≤0)) (fun(⟨i,j⟩:Nat×Nat)=>j - i) (0,s1.length) ?_ ?_ ?_)))))))))))))))
   · exact⟨Nat.zero_le _,Nat.le_refl _,fun _ _ h=>absurd h (by omega),fun z hz=>by rw[List.getElem?_eq_none (Nat.le_refl _)] at hz; cases hz⟩
   · exact cK ⟨(by first | rfl | exact aL (by omega)),(by first | rfl | exact aL (by omega)),(by first | rfl | exact aL (by omega)),(by first | rfl | exact aL (by omega)),(by first | rfl | exact aL (by omega)),trivial⟩ rfl
   ·
    rintro ⟨i,j⟩ hC
    obtain ⟨q1,q2,q3,q4⟩:=hC
    refine aC (fun K20 hK20=>(aC (fun K21 hK21=>(aB (aE aA 3 rfl (aD (hK21 _ (aK rfl (fun hc6=>?_) (fun hc6=>?_)))))))))
    ·
     simp only[bs] at hc6
     refine aN (hK20 _ (aO (aC (fun K22 hK22=>(aB ?_)))))
     obtain ⟨h,eh⟩:∃ h,h=(i+j) / 2:=⟨_,rfl⟩
     have hz:=vF (a:=((p.length+i:Nat):Int)+((p.length+j:Nat):Int)) (b:=((p.length+h:Nat):Int)) (by omega) (by omega) (by omega)
     refine aE aA 2 rfl ?_
     refine aG rfl (bO rfl rfl (by omega) (by omega)) ?_
     refine aG rfl (lR rfl Tryz.underlying3 Tryz.underlying268 hz.1) (aG rfl (uX rfl hz.2.1 (by decide)) (aG rfl (lR rfl Tryz.underlying268 Tryz.underlying3 hz.2.2) (aE aA 1 rfl (aD (hK22 _ (aC (fun K23 hK23=>(eB hf bI (by kernel_rfl) rfl ?_))))))))
     have hh2:h<s1.length:=by omega
     refine aX aA 3 rfl ?_
     refine bL [(93,_),(94,_)] rfl rfl ⟨⟨rfl,rfl⟩,⟨rfl,rfl⟩,trivial⟩ rfl (bN rfl rfl bZ aS (by omega)) ?_
     refine bL [(95,_)] rfl rfl ⟨⟨rfl,rfl⟩,trivial⟩ rfl (bP rfl cV aS rfl (dH (k:=4) (enc:=stC) (z:=p.length+s1.length) (by omega) (atQ (p:=p++s1) (q:=q) (x:=x) (by rw[hx2]; simp) (by simp)) rfl) (cT (k:=4) (enc:=stC) (z:=p.length+s1.length) (by omega) (atQ (p:=p++s1) (q:=q) (x:=x) (by rw[hx2]; simp) (by simp)) rfl)) ?_
     refine aX aA 2 rfl ?_
     refine bL [(97,_),(98,_)] rfl rfl ⟨⟨rfl,rfl⟩,⟨rfl,rfl⟩,trivial⟩ rfl (bN rfl rfl bZ aS (by omega)) ?_
     refine bL [(99,_)] rfl rfl ⟨⟨rfl,rfl⟩,trivial⟩ rfl (bP rfl cV aS rfl (dH (k:=4) (enc:=stC) (z:=p.length+h) (by omega) (atL hh2) rfl) (cT (k:=4) (enc:=stC) (z:=p.length+h) (by omega) (atL hh2) rfl)) (bT [(92,_),(96,_),(100,_)] rfl rfl ⟨⟨rfl,rfl⟩,⟨rfl,rfl⟩,⟨rfl,rfl⟩,trivial⟩ rfl (aQ rfl rfl hent rfl (hcmp x s1[h])) (aX aA 2 rfl (eE [0,2,4,14,15,16,103] rfl rfl rfl (hK23 _ (aK rfl (fun hc7=>?_) (fun hc7=>?_))))))
     ·
      simp only[bs] at hc7
      refine aB (aE aA 1 rfl ?_)
      refine aG rfl (bO rfl rfl (by omega) (by omega)) ?_
      refine aE aA 1 rfl ?_
      refine bG ?_
      exact⟨(h+1,j),⟨by omega,by omega,fun z hz _=>by rw[Nat.add_sub_cancel,List.getElem?_eq_getElem hh2] at hz; cases hz; have:=hc.swap x s1[h]; omega,q4⟩,by simp only; omega,cK ⟨(by first | rfl | exact aL (by omega)),(by first | rfl | exact aL (by omega)),(by first | rfl | exact aL (by omega)),(by first | rfl | exact aL (by omega)),(by first | rfl | exact aL (by omega)),trivial⟩ rfl⟩
     ·
      simp only[bs] at hc7
      refine aB (aE aA 2 rfl ?_)
      refine bG ?_
      exact⟨(i,h),⟨by omega,by omega,q3,fun z hz=>by rw[List.getElem?_eq_getElem hh2] at hz; cases hz; omega⟩,by simp only; omega,cK ⟨(by first | rfl | exact aL (by omega)),(by first | rfl | exact aL (by omega)),(by first | rfl | exact aL (by omega)),(by first | rfl | exact aL (by omega)),(by first | rfl | exact aL (by omega)),trivial⟩ rfl⟩
    ·
     simp only[bs] at hc6
     refine aW (hK19 _ (aC (fun K24 hK24=>(aC (fun K25 hK25=>(aB (aE aA 2 rfl (aD (hK25 _ (aO (bR (ι:=Nat) (fun t=>⟨220,[(0,.own E0 4 0 N),(14,.s (.int .i64 ((p.length+i:Nat):Int))),(17,.s (.int .i64 ((p.length+t:Nat):Int)))],[(E0,.buf 4 (List.map stC (p++(s1.take t++(x::(s1.drop t++q))))))]⟩) (fun t=>i≤t∧t≤s1.length) (fun t=>t) s1.length ?_ ?_ ?_)))))))))))
     · exact⟨by omega,Nat.le_refl _⟩
     · exact cK ⟨(by first | rfl | exact aL (by omega)),(by first | rfl | exact aL (by omega)),(by first | rfl | exact aL (by omega)),trivial⟩ (by rw[hx2,List.take_length,List.drop_length]; rfl)
     ·
      rintro t hC
      obtain ⟨hq,hq2⟩:=hC
      refine aC (fun K26 hK26=>(aC (fun K27 hK27=>(aB (aE aA 3 rfl (aD (hK27 _ (aK rfl (fun hc8=>?_) (fun hc8=>?_)))))))))
      ·
       simp only[bs] at hc8
       refine aN (hK26 _ (aC (fun K28 hK28=>(aO (eS bI ?_)))))
       have hsp:p++(s1.take t++(x::(s1.drop t++q)))=(p++s1.take (t - 1))++s1[t - 1]::x::(s1.drop t++q):=by
        rw[show s1.take t=s1.take (t - 1)++[s1[t - 1]] from by rw[List.take_append_getElem (show t - 1<s1.length by omega),show t - 1+1=t by omega]]
        simp only[List.append_assoc,List.cons_append,List.nil_append]
       refine bK (listed':=#[true,false,false,false,false,false,false,false,false,false,false,false,false,false,false,false,false,false]) 0 rfl (by kernel_rfl) (by kernel_rfl) (by kernel_rfl) rfl (fun _ _ h=>h) (dJ rfl) ?_
       refine bK (listed':=#[true,true,false,false,false,false,false,false,false,false,false,false,false,false,false,false,false,false]) 1 rfl (by kernel_rfl) (by kernel_rfl) (by kernel_rfl) rfl (fun _ _ h=>h) (dJ rfl) ?_
       refine bK (listed':=#[true,true,true,false,false,false,false,false,false,false,false,false,false,false,false,false,false,false]) 2 rfl (by kernel_rfl) (by kernel_rfl) (by kernel_rfl) rfl (fun _ _ h=>h) (dJ rfl) ?_
       refine bK (listed':=#[true,true,true,true,false,false,false,false,false,false,false,false,false,false,false,false,false,false]) 3 rfl (by kernel_rfl) (by kernel_rfl) (by kernel_rfl) rfl (fun _ _ h=>h) (dJ rfl) ?_
       refine bK (listed':=#[true,true,true,true,true,false,false,false,false,false,false,false,false,false,false,false,false,false]) 4 rfl (by kernel_rfl) (by kernel_rfl) (by kernel_rfl) rfl (fun _ _ h=>h) (aJj rfl rfl (by omega) (by omega)) ?_
       refine bK (listed':=#[true,true,true,true,true,true,false,false,false,false,false,false,false,false,false,false,false,false]) 5 rfl (by kernel_rfl) (by kernel_rfl) (by kernel_rfl) rfl (fun _ _ h=>h) (dJ rfl) ?_
       refine bK (listed':=#[true,true,true,true,true,true,true,false,false,false,false,false,false,false,false,false,false,false]) 6 rfl (by kernel_rfl) (by kernel_rfl) (by kernel_rfl) rfl (fun _ _ h=>h) (dJ rfl) ?_
       refine bK (listed':=#[true,true,true,true,true,true,true,true,false,false,false,false,false,false,false,false,false,false]) 7 rfl (by kernel_rfl) (by kernel_rfl) (by kernel_rfl) rfl (fun _ _ h=>h) (aJj rfl rfl (by omega) (by omega)) ?_
       refine bK (listed':=#[true,true,true,true,true,true,true,true,true,false,false,false,false,false,false,false,false,false]) 8 rfl (by kernel_rfl) (by kernel_rfl) (by kernel_rfl) rfl (fun _ _ h=>h) (jK rfl rfl bZ aS (by omega)) ?_
       refine bK (listed':=#[true,true,true,true,true,true,true,true,true,false,true,false,false,false,false,false,false,false]) 10 rfl (by kernel_rfl) (by kernel_rfl) (by kernel_rfl) rfl (fun _ _ h=>h) (dJ rfl) ?_
       refine bK (listed':=#[true,true,true,true,true,true,true,true,true,false,true,true,false,false,false,false,false,false]) 11 rfl (by kernel_rfl) (by kernel_rfl) (by kernel_rfl) rfl (fun _ _ h=>h) (dJ rfl) ?_
       refine bK (listed':=#[true,true,true,true,true,true,true,true,true,false,true,true,true,false,false,false,false,false]) 12 rfl (by kernel_rfl) (by kernel_rfl) (by kernel_rfl) rfl (fun _ _ h=>h) (jK rfl rfl bZ aS (by omega)) ?_
       refine kZ (iX [0,14,17,113,114,115,117,121,125] rfl) (aI 9 [13] (by kernel_rfl) ⟨?_,?_,trivial⟩)
       ·
        refine⟨_,rfl,rfl,(ao rfl (aG rfl (bP rfl cV aS rfl (dH (k:=4) (enc:=stC) (z:=p.length+(t - 1)) (by omega) (atQ (p:=p++s1.take (t - 1)) (q:=x::(s1.drop t++q)) (x:=s1[t - 1]) hsp (by(try simp only[List.length_take,List.length_drop,List.length_append]); omega)) rfl) (cT (k:=4) (enc:=stC) (z:=p.length+(t - 1)) (by omega) (atQ (p:=p++s1.take (t - 1)) (q:=x::(s1.drop t++q)) (x:=s1[t - 1]) hsp (by(try simp only[List.length_take,List.length_drop,List.length_append]); omega)) rfl)) ?_))⟩
        refine aF (aI 13 [] (by kernel_rfl) ⟨?_,trivial⟩)
        ·
         refine⟨_,rfl,rfl,(ao rfl (aG rfl (bP rfl cV aS rfl (dH (k:=4) (enc:=stC) (z:=p.length+t) (by omega) (atQ (p:=p++s1.take t) (q:=s1.drop t++q) (x:=x) (by simp only[List.append_assoc]) (by(try simp only[List.length_take,List.length_drop,List.length_append]); omega)) rfl) (cT (k:=4) (enc:=stC) (z:=p.length+t) (by omega) (atQ (p:=p++s1.take t) (q:=s1.drop t++q) (x:=x) (by simp only[List.append_assoc]) (by(try simp only[List.length_take,List.length_drop,List.length_append]); omega)) rfl)) ?_))⟩
         refine aF (aI 14 [] (by kernel_rfl) ⟨?_,trivial⟩)
         ·
          refine⟨_,rfl,rfl,(ao rfl ?_)⟩
          refine aG rfl (bN rfl rfl bZ aS (by omega)) ?_
          refine aF (aI 15 [] (by kernel_rfl) ⟨?_,trivial⟩)
          ·
           refine⟨_,rfl,rfl,(ao rfl (aT hf rfl rfl aS rfl rfl (by simp [stC,AV.cells,AV.one,Value.oneCell']) (by simp [stC,AV.cells,AV.leaf,Value.oneCell']) (dU (k:=4) (enc:=stC) (z:=p.length+t) (v:=s1[t - 1]) (by omega) (by simp only[List.length_append,List.length_cons,List.length_set,List.length_take,List.length_drop]; omega) rfl rfl rfl) ?_))⟩
           refine aF (aI 16 [] (by kernel_rfl) ⟨?_,trivial⟩)
           ·
            refine⟨_,rfl,rfl,(ao rfl ?_)⟩
            refine aG rfl (bN rfl rfl bZ aS (by omega)) ?_
            refine aF (aI 17 [] (by kernel_rfl) ⟨?_,trivial⟩)
            ·
             refine⟨_,rfl,rfl,(ao rfl (aT hf rfl rfl aS rfl rfl (by simp [stC,AV.cells,AV.one,Value.oneCell']) (by simp [stC,AV.cells,AV.leaf,Value.oneCell']) (dU (k:=4) (enc:=stC) (z:=p.length+(t - 1)) (v:=x) (by omega) (by simp only[List.length_append,List.length_cons,List.length_set,List.length_take,List.length_drop]; omega) rfl rfl rfl) ?_))⟩
             refine aF (dC (by kernel_rfl) ?_)
             refine hK28 _ (aB (aE aA 1 rfl ?_))
             refine aG rfl (eH rfl rfl (by omega) (by omega)) ?_
             refine aE aA 1 rfl (aD ?_)
             exact⟨t - 1,⟨by omega,by omega⟩,by omega,cK ⟨(by first | rfl | exact aL (by omega)),(by first | rfl | exact aL (by omega)),(by first | rfl | exact aL (by omega)),trivial⟩ (congrArg (fun l=>[(E0,AM.buf 4 (List.map stC l))]) ((rF (p:=p++s1.take (t - 1)) (x:=s1[t - 1]) (y:=x) (q:=s1.drop t++q) hsp (by(try simp only[List.length_take,List.length_drop,List.length_append]); omega) (by(try simp only[List.length_take,List.length_drop,List.length_append]); omega)).trans (by rw[List.drop_eq_getElem_cons (show t - 1<s1.length by omega),show t - 1+1=t by omega]; simp only[List.append_assoc,List.cons_append])))⟩
       ·
        refine⟨_,rfl,rfl,(ao rfl (aG rfl (bP rfl cV aS rfl (dH (k:=4) (enc:=stC) (z:=p.length+t) (by omega) (atQ (p:=p++s1.take t) (q:=s1.drop t++q) (x:=x) (by simp only[List.append_assoc]) (by(try simp only[List.length_take,List.length_drop,List.length_append]); omega)) rfl) (cT (k:=4) (enc:=stC) (z:=p.length+t) (by omega) (atQ (p:=p++s1.take t) (q:=s1.drop t++q) (x:=x) (by simp only[List.append_assoc]) (by(try simp only[List.length_take,List.length_drop,List.length_append]); omega)) rfl)) ?_))⟩
        refine aF (aI 9 [] (by kernel_rfl) ⟨?_,trivial⟩)
        ·
         refine⟨_,rfl,rfl,(ao rfl (aG rfl (bP rfl cV aS rfl (dH (k:=4) (enc:=stC) (z:=p.length+(t - 1)) (by omega) (atQ (p:=p++s1.take (t - 1)) (q:=x::(s1.drop t++q)) (x:=s1[t - 1]) hsp (by(try simp only[List.length_take,List.length_drop,List.length_append]); omega)) rfl) (cT (k:=4) (enc:=stC) (z:=p.length+(t - 1)) (by omega) (atQ (p:=p++s1.take (t - 1)) (q:=x::(s1.drop t++q)) (x:=s1[t - 1]) hsp (by(try simp only[List.length_take,List.length_drop,List.length_append]); omega)) rfl)) ?_))⟩
         refine aF (aI 14 [] (by kernel_rfl) ⟨?_,trivial⟩)
         ·
          refine⟨_,rfl,rfl,(ao rfl ?_)⟩
          refine aG rfl (bN rfl rfl bZ aS (by omega)) ?_
          refine aF (aI 15 [] (by kernel_rfl) ⟨?_,trivial⟩)
          ·
           refine⟨_,rfl,rfl,(ao rfl (aT hf rfl rfl aS rfl rfl (by simp [stC,AV.cells,AV.one,Value.oneCell']) (by simp [stC,AV.cells,AV.leaf,Value.oneCell']) (dU (k:=4) (enc:=stC) (z:=p.length+t) (v:=s1[t - 1]) (by omega) (by simp only[List.length_append,List.length_cons,List.length_set,List.length_take,List.length_drop]; omega) rfl rfl rfl) ?_))⟩
           refine aF (aI 16 [] (by kernel_rfl) ⟨?_,trivial⟩)
           ·
            refine⟨_,rfl,rfl,(ao rfl ?_)⟩
            refine aG rfl (bN rfl rfl bZ aS (by omega)) ?_
            refine aF (aI 17 [] (by kernel_rfl) ⟨?_,trivial⟩)
            ·
             refine⟨_,rfl,rfl,(ao rfl (aT hf rfl rfl aS rfl rfl (by simp [stC,AV.cells,AV.one,Value.oneCell']) (by simp [stC,AV.cells,AV.leaf,Value.oneCell']) (dU (k:=4) (enc:=stC) (z:=p.length+(t - 1)) (v:=x) (by omega) (by simp only[List.length_append,List.length_cons,List.length_set,List.length_take,List.length_drop]; omega) rfl rfl rfl) ?_))⟩
             refine aF (dC (by kernel_rfl) ?_)
             refine hK28 _ (aB (aE aA 1 rfl ?_))
             refine aG rfl (eH rfl rfl (by omega) (by omega)) ?_
             refine aE aA 1 rfl (aD ?_)
             exact⟨t - 1,⟨by omega,by omega⟩,by omega,cK ⟨(by first | rfl | exact aL (by omega)),(by first | rfl | exact aL (by omega)),(by first | rfl | exact aL (by omega)),trivial⟩ (congrArg (fun l=>[(E0,AM.buf 4 (List.map stC l))]) ((rF (p:=p++s1.take (t - 1)) (x:=s1[t - 1]) (y:=x) (q:=s1.drop t++q) hsp (by(try simp only[List.length_take,List.length_drop,List.length_append]); omega) (by(try simp only[List.length_take,List.length_drop,List.length_append]); omega)).trans (by rw[List.drop_eq_getElem_cons (show t - 1<s1.length by omega),show t - 1+1=t by omega]; simp only[List.append_assoc,List.cons_append])))⟩
      ·
       simp only[bs] at hc8
       refine aW (hK24 _ (aJ ?_))
       have hti:t=i:=by omega
       subst hti
       have hij:t=j:=by omega
       subst hij
       exact⟨_,_,_,Le.refl _,rfl,rfl,s1.take t++x::s1.drop t,by rw[hx2]; exact put_perm.trans (List.perm_append_comm (l₁:=[x])),aEh hc hs1 (by omega) q3 q4,by simp only[List.append_assoc,List.cons_append]⟩
  ·
   simp only[bs] at hc5
   refine aN (hK15 _ (aC (fun K29 hK29=>(aB ?_))))
   obtain ⟨M,eM⟩:∃ M,M=(s1.length+s2.length) / 2:=⟨_,rfl⟩
   have hz:=vF (a:=((p.length:Nat):Int)+((p.length+s1.length+s2.length:Nat):Int)) (b:=((p.length+M:Nat):Int)) (by omega) (by omega) (by omega)
   refine aE aA 2 rfl ?_
   refine aG rfl (bO rfl rfl (by omega) (by omega)) ?_
   refine aG rfl (lR rfl Tryz.underlying3 Tryz.underlying268 hz.1) (aG rfl (uX rfl hz.2.1 (by decide)) (aG rfl (lR rfl Tryz.underlying268 Tryz.underlying3 hz.2.2) (aE aA 1 rfl (aD (hK29 _ (aC (fun K30 hK30=>(aB (aE aA 2 rfl ?_)))))))))
   refine aG rfl (bO rfl rfl (by omega) (by omega)) ?_
   refine aE aA 1 rfl (aD (hK30 _ (aC (fun K31 hK31=>(aB (aE aA 2 rfl (aD (hK31 _ (aDa (ι:=Nat×Nat) (fun w=>⟨220,[(0,.own E0 4 0 N),(1,.s (.int .i64 (p.length:Nat))),(2,.s (.int .i64 ((p.length+s1.length:Nat):Int))),(3,.s (.int .i64 ((p.length+s1.length+s2.length:Nat):Int))),(4,.fn g []),(18,.s (.int .i64 ((p.length+M:Nat):Int))),(19,.s (.int .i64 ((p.length+M:Nat)+(p.length+s1.length:Nat)))),(20,.s (.int .i64 ((p.length+w.1:Nat):Int))),(21,.s (.int .i64 ((p.length+w.2:Nat):Int)))],[(E0,.buf 4 (List.map stC (p++(s1++(s2++q)))))]⟩) (fun w=>(w.1=0∨M - w.1=s2.length)∧(w.2=s1.length∨w.2=M)∧w.1≤w.2∧w.2≤s1.length∧w.2≤M∧M - w.1≤s2.length) ?_ ?_)))))))))
   ·
    refine aC (fun K33 hK33=>(aB (aE aA 3 rfl (aD (hK33 _ (aK rfl (fun hc9=>?_) (fun hc9=>?_)))))))
    ·
     simp only[bs] at hc9
     refine aC (fun K34 hK34=>(aB (aE aA 2 rfl ?_)))
     refine aG rfl (eH rfl rfl (by omega) (by omega)) ?_
     refine aE aA 1 rfl (aD (hK34 _ (aB (aE aA 2 rfl ?_))))
     refine aD ?_
     exact⟨(M - s2.length,M),⟨.inr (by simp only; omega),.inr rfl,by simp only; omega,by simp only; omega,Nat.le_refl _,by simp only; omega⟩,cK ⟨(by first | rfl | exact aL (by omega)),(by first | rfl | exact aL (by omega)),(by first | rfl | exact aL (by omega)),(by first | rfl | exact aL (by omega)),(by first | rfl | exact aL (by omega)),(by first | rfl | exact aL (by omega)),(by first | rfl | exact aL (by omega)),(by first | rfl | exact aL (by omega)),(by first | rfl | exact aL (by omega)),trivial⟩ rfl⟩
    ·
     simp only[bs] at hc9
     refine aC (fun K35 hK35=>(aB (aE aA 2 rfl (aD (hK35 _ (aB (aE aA 2 rfl ?_)))))))
     refine aD ?_
     exact⟨(0,s1.length),⟨.inl rfl,.inl rfl,Nat.zero_le _,Nat.le_refl _,by simp only; omega,by simp only; omega⟩,cK ⟨(by first | rfl | exact aL (by omega)),(by first | rfl | exact aL (by omega)),(by first | rfl | exact aL (by omega)),(by first | rfl | exact aL (by omega)),(by first | rfl | exact aL (by omega)),(by first | rfl | exact aL (by omega)),(by first | rfl | exact aL (by omega)),(by first | rfl | exact aL (by omega)),(by first | rfl | exact aL (by omega)),trivial⟩ rfl⟩
   ·
    intro w hj
    obtain ⟨S0,R0⟩:=w
    obtain ⟨j1,j2,j3,j4,j5,j6⟩:=hj
    simp only at j1 j2 j3 j4 j5 j6
    refine aC (fun K36 hK36=>(aB (aE aA 1 rfl ?_)))
    refine aG rfl (eH rfl rfl (by omega) (by omega)) ?_
    refine aE aA 1 rfl (aD (hK36 _ (aC (fun K37 hK37=>(aO (bR (ι:=Nat×Nat) (fun(⟨S,R⟩:Nat×Nat)=>⟨220,[(0,.own E0 4 0 N),(1,.s (.int .i64 (p.length:Nat))),(2,.s (.int .i64 ((p.length+s1.length:Nat):Int))),(3,.s (.int .i64 ((p.length+s1.length+s2.length:Nat):Int))),(4,.fn g []),(18,.s (.int .i64 ((p.length+M:Nat):Int))),(19,.s (.int .i64 ((p.length+M:Nat)+(p.length+s1.length:Nat)))),(20,.s (.int .i64 ((p.length+S:Nat):Int))),(21,.s (.int .i64 ((p.length+R:Nat):Int))),(22,.s (.int .i64 ((p.length+M:Nat)+(p.length+s1.length:Nat) - 1)))],[(E0,.buf 4 (List.map stC (p++(s1++(s2++q)))))]⟩) (fun(⟨S,R⟩:Nat×Nat)=>S0≤S∧S≤R∧R≤R0∧(S=S0∨∀ z w,s1[S - 1]?=some z→s2[M - S]?=some w→c z w≤0)∧(R=R0∨∀ z w,s2[M - 1 - R]?=some z→s1[R]?=some w→c z w≤0)) (fun(⟨S,R⟩:Nat×Nat)=>R - S) (S0,R0) ?_ ?_ ?_))))))
    · exact⟨Nat.le_refl _,j3,Nat.le_refl _,.inl rfl,.inl rfl⟩
    · exact cK ⟨(by first | rfl | exact aL (by omega)),(by first | rfl | exact aL (by omega)),(by first | rfl | exact aL (by omega)),(by first | rfl | exact aL (by omega)),(by first | rfl | exact aL (by omega)),(by first | rfl | exact aL (by omega)),(by first | rfl | exact aL (by omega)),(by first | rfl | exact aL (by omega)),(by first | rfl | exact aL (by omega)),(by first | rfl | exact aL (by omega)),trivial⟩ rfl
    ·
     rintro ⟨S,R⟩ hC
     obtain ⟨q1,q2,q3,q4,q5⟩:=hC
     refine aC (fun K38 hK38=>(aC (fun K39 hK39=>(aB (aE aA 3 rfl (aD (hK39 _ (aK rfl (fun hc10=>?_) (fun hc10=>?_)))))))))
     ·
      simp only[bs] at hc10
      refine aN (hK38 _ (aO (aC (fun K40 hK40=>(aB ?_)))))
      obtain ⟨h,eh⟩:∃ h,h=(S+R) / 2:=⟨_,rfl⟩
      have hz:=vF (a:=((p.length+S:Nat):Int)+((p.length+R:Nat):Int)) (b:=((p.length+h:Nat):Int)) (by omega) (by omega) (by omega)
      refine aE aA 2 rfl ?_
      refine aG rfl (bO rfl rfl (by omega) (by omega)) ?_
      refine aG rfl (lR rfl Tryz.underlying3 Tryz.underlying268 hz.1) (aG rfl (uX rfl hz.2.1 (by decide)) (aG rfl (lR rfl Tryz.underlying268 Tryz.underlying3 hz.2.2) (aE aA 1 rfl (aD (hK40 _ (aC (fun K41 hK41=>(eB hf bI (by kernel_rfl) rfl ?_))))))))
      have hh1:h<s1.length:=by omega
      have hh2:M - 1 - h<s2.length:=by omega
      refine aX aA 4 rfl ?_
      refine bL [(160,_),(161,_)] rfl rfl ⟨⟨rfl,rfl⟩,⟨rfl,rfl⟩,trivial⟩ rfl (eH rfl rfl (by omega) (by omega)) ?_
      refine bL [(159,_),(162,_)] rfl rfl ⟨⟨rfl,rfl⟩,⟨rfl,rfl⟩,trivial⟩ rfl (bN rfl rfl bZ aS (by omega)) ?_
      refine bL [(163,_)] rfl rfl ⟨⟨rfl,rfl⟩,trivial⟩ rfl (bP rfl cV aS rfl (dH (k:=4) (enc:=stC) (z:=p.length+s1.length+(M - 1 - h)) (by omega) (atM hh2) rfl) (cT (k:=4) (enc:=stC) (z:=p.length+s1.length+(M - 1 - h)) (by omega) (atM hh2) rfl)) (aX aA 2 rfl ?_)
      refine bL [(165,_),(166,_)] rfl rfl ⟨⟨rfl,rfl⟩,⟨rfl,rfl⟩,trivial⟩ rfl (bN rfl rfl bZ aS (by omega)) ?_
      refine bL [(167,_)] rfl rfl ⟨⟨rfl,rfl⟩,trivial⟩ rfl (bP rfl cV aS rfl (dH (k:=4) (enc:=stC) (z:=p.length+h) (by omega) (atL hh1) rfl) (cT (k:=4) (enc:=stC) (z:=p.length+h) (by omega) (atL hh1) rfl)) (bT [(158,_),(164,_),(168,_)] rfl rfl ⟨⟨rfl,rfl⟩,⟨rfl,rfl⟩,⟨rfl,rfl⟩,trivial⟩ rfl (aQ rfl rfl hent rfl (hcmp s2[M - 1 - h] s1[h])) (aX aA 2 rfl (eE [0,1,2,3,4,18,19,20,21,22,23,171] rfl rfl rfl (hK41 _ (aK rfl (fun hc11=>?_) (fun hc11=>?_))))))
      ·
       simp only[bs] at hc11
       refine aB (aE aA 1 rfl ?_)
       refine aG rfl (bO rfl rfl (by omega) (by omega)) ?_
       refine aE aA 1 rfl ?_
       refine bG ?_
       exact⟨(h+1,R),⟨by omega,by omega,q3,.inr (fun z w hz hw=>by rw[Nat.add_sub_cancel,List.getElem?_eq_getElem hh1] at hz; rw[show M - (h+1)=M - 1 - h by omega,List.getElem?_eq_getElem hh2] at hw; cases hz; cases hw; have:=hc.swap s1[h] s2[M - 1 - h]; omega),q5⟩,by simp only; omega,cK ⟨(by first | rfl | exact aL (by omega)),(by first | rfl | exact aL (by omega)),(by first | rfl | exact aL (by omega)),(by first | rfl | exact aL (by omega)),(by first | rfl | exact aL (by omega)),(by first | rfl | exact aL (by omega)),(by first | rfl | exact aL (by omega)),(by first | rfl | exact aL (by omega)),(by first | rfl | exact aL (by omega)),(by first | rfl | exact aL (by omega)),trivial⟩ rfl⟩
      ·
       simp only[bs] at hc11
       refine aB (aE aA 2 rfl ?_)
       refine bG ?_
       exact⟨(S,h),⟨q1,by omega,by omega,q4,.inr (fun z w hz hw=>by rw[List.getElem?_eq_getElem hh2] at hz; rw[List.getElem?_eq_getElem hh1] at hw; cases hz; cases hw; omega)⟩,by simp only; omega,cK ⟨(by first | rfl | exact aL (by omega)),(by first | rfl | exact aL (by omega)),(by first | rfl | exact aL (by omega)),(by first | rfl | exact aL (by omega)),(by first | rfl | exact aL (by omega)),(by first | rfl | exact aL (by omega)),(by first | rfl | exact aL (by omega)),(by first | rfl | exact aL (by omega)),(by first | rfl | exact aL (by omega)),(by first | rfl | exact aL (by omega)),trivial⟩ rfl⟩
     ·
      simp only[bs] at hc10
      refine aW (hK37 _ (aC (fun K42 hK42=>(aB ?_))))
      obtain ⟨K,hK⟩:∃ K,K=M - S:=⟨_,rfl⟩
      have hA:∀ (h0:0<S) (h3:K<s2.length),c (s1[S - 1]'(by omega)) s2[K]≤0:=fun h0 h3=>by
       rcases q4 with e | e
       · exfalso; omega
       · exact e _ _ (List.getElem?_eq_getElem (by omega)) (by rw[← hK]; exact List.getElem?_eq_getElem h3)
      have hB:∀ (h0:0<K) (h3:S<s1.length),c (s2[K - 1]'(by omega)) s1[S]≤0:=fun h0 h3=>by
       have hSR:S=R:=by omega
       rw[← hSR] at q5
       rcases q5 with e | e
       · exfalso; omega
       · exact e _ _ (by rw[show M - 1 - S=K - 1 by omega]; exact List.getElem?_eq_getElem (by omega)) (List.getElem?_eq_getElem h3)
      have hsep:=sym_sep hc hs1 hs2 (show S≤s1.length by omega) (show K≤s2.length by omega) hA hB
      refine aE aA 2 rfl ?_
      refine aG rfl (eH rfl rfl (by omega) (by omega)) ?_
      rw[show (((p.length+M:Nat):Int)+((p.length+s1.length:Nat):Int)) - ((p.length+S:Nat):Int)=((p.length+s1.length+K:Nat):Int) from by omega]
      refine aE aA 1 rfl (aD (hK42 _ (aDa (ι:=Unit) (fun w=>⟨220,[(0,.own E0 4 0 N),(1,.s (.int .i64 (p.length:Nat))),(3,.s (.int .i64 ((p.length+s1.length+s2.length:Nat):Int))),(4,.fn g []),(18,.s (.int .i64 ((p.length+M:Nat):Int))),(20,.s (.int .i64 ((p.length+S:Nat):Int))),(24,.s (.int .i64 ((p.length+s1.length+K:Nat):Int)))],[(E0,.buf 4 (List.map stC (p++((s1.take S++s2.take K)++((s1.drop S++s2.drop K)++q)))))]⟩) (fun w=>True) ?_ ?_)))
      ·
       refine aC (fun K44 hK44=>(aB (aE aA 4 rfl (aV rfl rfl rfl (fun hg12=>?_) (fun hg12=>?_)))))
       ·
        simp only[bs] at hg12
        refine aG rfl (gD rfl) (aE aA 3 rfl (aD (hK44 _ (aK rfl (fun hc13=>?_) (fun hc13=>?_)))))
        ·
         simp only[bs] at hc13
         refine aB ?_
         rw[aLz (p:=p) (s1:=s1) (s2:=s2) (q:=q) S K]
         refine aE aA 5 rfl (fK hf E0 rfl rfl rfl rfl rfl aGf (aH5 g (p++s1.take S) (s1.drop S) (s2.take K) (s2.drop K++q) N _ _ _ (by(try simp only[List.length_take,List.length_drop,List.length_append]); omega) (by(try simp only[List.length_take,List.length_drop,List.length_append]); omega) (by(try simp only[List.length_take,List.length_drop,List.length_append]); omega) (by(try simp only[List.length_take,List.length_drop,List.length_append]); omega) (by(try simp only[List.length_take,List.length_drop,List.length_append]); omega) (by(try simp only[List.length_take,List.length_drop,List.length_append]); omega) hM) ?_)
         rintro r zs rfl
         refine aD ?_
         exact⟨(),trivial,cK ⟨(by first | rfl | exact aL (by omega)),(by first | rfl | exact aL (by omega)),(by first | rfl | exact aL (by omega)),(by first | rfl | exact aL (by omega)),(by first | rfl | exact aL (by omega)),(by first | rfl | exact aL (by omega)),(by first | rfl | exact aL (by omega)),trivial⟩ (congrArg (fun l=>[(E0,AM.buf 4 (List.map stC l))]) (by simp only[List.append_assoc]))⟩
        ·
         simp only[bs] at hc13
         refine aN ?_
         exact⟨(),trivial,cK ⟨(by first | rfl | exact aL (by omega)),(by first | rfl | exact aL (by omega)),(by first | rfl | exact aL (by omega)),(by first | rfl | exact aL (by omega)),(by first | rfl | exact aL (by omega)),(by first | rfl | exact aL (by omega)),(by first | rfl | exact aL (by omega)),trivial⟩ (by rw[aDx (p:=p) (s1:=s1) (s2:=s2) (q:=q) (S:=S) (K:=K) (by omega)])⟩
       ·
        simp only[bs] at hg12
        refine aE aA 3 rfl (aD (hK44 _ (bW rfl (aN ?_))))
        exact⟨(),trivial,cK ⟨(by first | rfl | exact aL (by omega)),(by first | rfl | exact aL (by omega)),(by first | rfl | exact aL (by omega)),(by first | rfl | exact aL (by omega)),(by first | rfl | exact aL (by omega)),(by first | rfl | exact aL (by omega)),(by first | rfl | exact aL (by omega)),trivial⟩ (by rw[aDx (p:=p) (s1:=s1) (s2:=s2) (q:=q) (S:=S) (K:=K) (by omega)])⟩
      ·
       intro w hj
       refine aDa (ι:=List bD) (fun l=>⟨220,[(0,.own E0 4 0 N),(3,.s (.int .i64 ((p.length+s1.length+s2.length:Nat):Int))),(4,.fn g []),(18,.s (.int .i64 ((p.length+M:Nat):Int))),(24,.s (.int .i64 ((p.length+s1.length+K:Nat):Int)))],[(E0,.buf 4 (List.map stC (p++(l++((s1.drop S++s2.drop K)++q)))))]⟩) (fun l=>l.Perm (s1.take S++s2.take K)∧Srt c l) ?_ ?_
       ·
        refine aC (fun K46 hK46=>(aB (aE aA 4 rfl (aV rfl rfl rfl (fun hg15=>?_) (fun hg15=>?_)))))
        ·
         simp only[bs] at hg15
         refine aG rfl (gD rfl) (aE aA 3 rfl (aD (hK46 _ (aK rfl (fun hc16=>?_) (fun hc16=>?_)))))
         ·
          simp only[bs] at hc16
          refine aB ?_
          rw[List.append_assoc (s1.take S)]
          refine aE aA 5 rfl (fK hf E0 rfl rfl rfl rfl rfl oB (ih p (s1.take S) (s2.take K) ((s1.drop S++s2.drop K)++q) N _ _ _ (by(try simp only[List.length_take,List.length_drop,List.length_append]); omega) (by(try simp only[List.length_take,List.length_drop,List.length_append]); omega) rfl (by(try simp only[List.length_take,List.length_drop,List.length_append]); omega) (by(try simp only[List.length_take,List.length_drop,List.length_append]); omega) (by(try simp only[List.length_take,List.length_drop,List.length_append]); omega) (by(try simp only[List.length_take,List.length_drop,List.length_append]); omega) (hs1.take S) (hs2.take K) hM) ?_)
          rintro r zs ⟨lq,hl1,hl2,rfl⟩
          refine aD ?_
          exact⟨lq,⟨hl1,hl2⟩,cK ⟨(by first | rfl | exact aL (by omega)),(by first | rfl | exact aL (by omega)),(by first | rfl | exact aL (by omega)),(by first | rfl | exact aL (by omega)),(by first | rfl | exact aL (by omega)),trivial⟩ rfl⟩
         ·
          simp only[bs] at hc16
          refine aN ?_
          exact⟨s1.take S++s2.take K,⟨.refl _,aD1 hs1 hs2 (by omega)⟩,cK ⟨(by first | rfl | exact aL (by omega)),(by first | rfl | exact aL (by omega)),(by first | rfl | exact aL (by omega)),(by first | rfl | exact aL (by omega)),(by first | rfl | exact aL (by omega)),trivial⟩ rfl⟩
        ·
         simp only[bs] at hg15
         refine aE aA 3 rfl (aD (hK46 _ (bW rfl (aN ?_))))
         exact⟨s1.take S++s2.take K,⟨.refl _,aD1 hs1 hs2 (by omega)⟩,cK ⟨(by first | rfl | exact aL (by omega)),(by first | rfl | exact aL (by omega)),(by first | rfl | exact aL (by omega)),(by first | rfl | exact aL (by omega)),(by first | rfl | exact aL (by omega)),trivial⟩ rfl⟩
       ·
        intro l hj
        obtain ⟨hl1,hl2⟩:=hj
        have hll:=hl1.length_eq
        rw[List.length_append,List.length_take,List.length_take] at hll
        refine aC (fun K47 hK47=>(aB (aE aA 4 rfl (aV rfl rfl rfl (fun hg18=>?_) (fun hg18=>?_)))))
        ·
         simp only[bs] at hg18
         refine aG rfl (gD rfl) (aE aA 3 rfl (aD (hK47 _ (aK rfl (fun hc19=>?_) (fun hc19=>?_)))))
         ·
          simp only[bs] at hc19
          refine aB ?_
          rw[show p++(l++((s1.drop S++s2.drop K)++q))=(p++l)++(s1.drop S++(s2.drop K++q)) from by simp only[List.append_assoc]]
          refine aE aA 5 rfl (fK hf E0 rfl rfl rfl rfl rfl oB (ih (p++l) (s1.drop S) (s2.drop K) q N _ _ _ (by(try simp only[List.length_take,List.length_drop,List.length_append]); omega) (by(try simp only[List.length_take,List.length_drop,List.length_append]); omega) (by(try simp only[List.length_take,List.length_drop,List.length_append]); omega) (by(try simp only[List.length_take,List.length_drop,List.length_append]); omega) (by(try simp only[List.length_take,List.length_drop,List.length_append]); omega) (by(try simp only[List.length_take,List.length_drop,List.length_append]); omega) (by(try simp only[List.length_take,List.length_drop,List.length_append]); omega) (hs1.drop S) (hs2.drop K) hM) ?_)
          rintro r zs ⟨rq,hr1,hr2,rfl⟩
          refine bG ?_
          exact⟨_,_,_,Le.refl _,rfl,rfl,l++rq,qR hl1 hr1,Srt.append hl2 hr2 (yG hl1 hr1 hsep),by simp only[List.append_assoc]⟩
         ·
          simp only[bs] at hc19
          refine aN ?_
          exact⟨_,_,_,Le.refl _,rfl,rfl,l++(s1.drop S++s2.drop K),qR hl1 (.refl _),Srt.append hl2 (aBg hs1 hs2 (by omega)) (yG hl1 (.refl _) hsep),by simp only[List.append_assoc]⟩
        ·
         simp only[bs] at hg18
         refine aE aA 3 rfl (aD (hK47 _ (bW rfl (aN ?_))))
         exact⟨_,_,_,Le.refl _,rfl,rfl,l++(s1.drop S++s2.drop K),qR hl1 (.refl _),Srt.append hl2 (aBg hs1 hs2 (by omega)) (yG hl1 (.refl _) hsep),by simp only[List.append_assoc]⟩
theorem sI {g:Nat} (hent:∀ args w,(callFunc g args).run Tryz.prog w=.ok (.enter g args) w) {c:bD→bD→Int} (hc:Tri c) (hcmp:∀ x y:bD,Den Tryz.prog g [.agg (stC x),.agg (stC y)] (·=.s (.int .i64 (c x y)))):∀ (NN:Nat) (p s1 s2 q:List bD) (N:Nat) (za zm zb:Int),s1.length+s2.length≤NN→N=p.length+s1.length+s2.length+q.length→za=(p.length:Nat)→zm=((p.length+s1.length:Nat):Int)→zb=((p.length+s1.length+s2.length:Nat):Int)→0<s1.length→0<s2.length→Srt c s1→Srt c s2→N<4611686018427387904→DenM Tryz.prog 234 [.own E0 4 0 N,.s (.int .i64 za),.s (.int .i64 zm),.s (.int .i64 zb),.fn g []] 4 (List.map stC (p++(s1++(s2++q)))) (fun r ys=>∃ t:List bD,t.Perm (s1++s2)∧Srt c t∧ys=(List.map stC (p++(t++q))))
 | 0,p,s1,s2,q,N,za,zm,zb,hle,_,_,_,_,h01,_,_,_,_=>by exfalso; omega
 | NN+1,p,s1,s2,q,N,za,zm,zb,hle,hN,hza,hzm,hzb,h01,h02,hs1,hs2,hM=>yC hent hc hcmp NN (sI hent hc hcmp NN) p s1 s2 q N za zm zb hle hN hza hzm hzb h01 h02 hs1 hs2 hM
theorem aAy {g:Nat} (hent:∀ args w,(callFunc g args).run Tryz.prog w=.ok (.enter g args) w) {c:bD→bD→Int} (hc:Tri c) (hcmp:∀ x y:bD,Den Tryz.prog g [.agg (stC x),.agg (stC y)] (·=.s (.int .i64 (c x y)))) (s0:List bD) (N:Nat) (hN:N=s0.length) (hM:N<4611686018427387904) :DenM Tryz.prog 188 [.own E0 4 0 N,.s (.int .i64 (N:Nat)),.fn g []] 4 ((List.map stC (s0))) (fun r ys=>∃ t:List bD,t.Perm s0∧Srt c t∧ys=(List.map stC (t))):=by
 refine fI Tryz.func188 rfl (Nat.le_of_ble_eq_true rfl) (fun w0 x0 A hf=>?_)
 refine aC (fun K1 hK1=>(aB (aE aA 1 rfl (aD (hK1 _ (aC (fun K2 hK2=>(aB (aE aA 3 rfl (aD (hK2 _ (aC (fun K3 hK3=>(aO (bR (ι:=List bD×List bD) (fun(⟨x,y⟩:List bD×List bD)=>⟨63,[(0,.own E0 4 0 N),(1,.s (.int .i64 (N:Nat))),(2,.fn g []),(6,.s (.int .i64 20)),(7,.s (.int .i64 (x.length:Nat))),(8,.s (.int .i64 ((x.length+20:Nat):Int)))],[(E0,.buf 4 (List.map stC (x++y)))]⟩) (fun(⟨x,y⟩:List bD×List bD)=>Fu c 20 x∧(x++y).Perm s0) (fun(⟨x,y⟩:List bD×List bD)=>y.length) ([],s0) ?_ ?_ ?_)))))))))))))))
 · exact⟨.nil,.refl _⟩
 · exact cX rfl
 ·
  rintro ⟨x,y⟩ hC
  obtain ⟨hd,hp⟩:=hC
  have hpl:=hp.length_eq
  rw[List.length_append] at hpl
  refine aC (fun K4 hK4=>(aC (fun K5 hK5=>(aB (aE aA 3 rfl (aD (hK5 _ (aK rfl (fun hc1=>?_) (fun hc1=>?_)))))))))
  ·
   simp only[bs] at hc1
   refine aN (hK4 _ (aO (aC (fun K6 hK6=>(aB ?_)))))
   have htk:=List.length_take (i:=20) (l:=y)
   have hdk:=List.length_drop (i:=20) (l:=y)
   rw[show x++y=x++(y.take 20++y.drop 20) from by rw[List.take_append_drop]]
   refine aE aA 4 rfl (fK hf E0 rfl rfl rfl rfl rfl wH (yD hent hc hcmp x (y.take 20) (y.drop 20) N _ _ (by omega) (by omega) (by omega) hM) ?_)
   rintro r zs ⟨t,ht1,ht2,rfl⟩
   have htl:=ht1.length_eq
   refine aD (hK6 _ (aC (fun K7 hK7=>(aB (aE aA 2 rfl (aD (hK7 _ (aB (aE aA 2 rfl ?_)))))))))
   refine aG rfl (bO rfl rfl (by omega) (by omega)) ?_
   refine aE aA 1 rfl ?_
   refine bG ?_
   exact⟨(x++t,y.drop 20),⟨.cons hd ht2 (by have:=ht1.length_eq; rw[List.length_take] at this; omega),(show ((x++t)++y.drop 20).Perm s0 from (by rw[List.append_assoc]; exact(List.Perm.append_left x ((List.Perm.append_right _ ht1).trans (by rw[List.take_append_drop]))).trans hp))⟩,by simp only[List.length_drop]; omega,cK ⟨(by first | rfl | exact aL (by simp only[List.length_append]; omega)),(by first | rfl | exact aL (by simp only[List.length_append]; omega)),(by first | rfl | exact aL (by simp only[List.length_append]; omega)),(by first | rfl | exact aL (by simp only[List.length_append]; omega)),(by first | rfl | exact aL (by simp only[List.length_append]; omega)),(by first | rfl | exact aL (by simp only[List.length_append]; omega)),trivial⟩ (by rw[List.append_assoc]; rfl)⟩
  ·
   simp only[bs] at hc1
   refine aW (hK3 _ (aC (fun K8 hK8=>(aB ?_))))
   rw[show x++y=x++(y++[]) from by rw[List.append_nil]]
   refine aE aA 4 rfl (fK hf E0 rfl rfl rfl rfl rfl wH (yD hent hc hcmp x y [] N _ _ (by simp only[List.length_nil]; omega) (by omega) (by omega) hM) ?_)
   rintro r zs ⟨t0,ht01,ht02,rfl⟩
   refine aD (hK8 _ (aO (bR (ι:=Nat×List bD) (fun(⟨bz,l⟩:Nat×List bD)=>⟨63,[(0,.own E0 4 0 N),(1,.s (.int .i64 (N:Nat))),(2,.fn g []),(6,.s (.int .i64 (bz:Nat)))],[(E0,.buf 4 (List.map stC (l)))]⟩) (fun(⟨bz,l⟩:Nat×List bD)=>0<bz∧bz<9223372036854775808∧Ch c bz l∧l.Perm s0) (fun(⟨bz,l⟩:Nat×List bD)=>N - bz) (20,x++t0) ?_ ?_ ?_)))
   · exact⟨by decide,by decide,hd.ch (.last ht02 (by have:=ht01.length_eq; omega)),(List.Perm.append_left x ht01).trans hp⟩
   · exact cK ⟨rfl,rfl,rfl,rfl,trivial⟩ (by rw[List.append_nil]; rfl)
   ·
    rintro ⟨bz,l⟩ hC
    obtain ⟨hb0,hb1,hch,hlp⟩:=hC
    have hll:=hlp.length_eq
    refine aC (fun K9 hK9=>(aC (fun K10 hK10=>(aB (aE aA 3 rfl (aD (hK10 _ (aK rfl (fun hc2=>?_) (fun hc2=>?_)))))))))
    ·
     simp only[bs] at hc2
     refine aN (hK9 _ (aO (aC (fun K11 hK11=>(aB (aE aA 1 rfl (aG rfl (aJs rfl rfl rfl (by omega) (by omega)) (aE aA 2 rfl (aD (hK11 _ (aC (fun K12 hK12=>(aO (bR (ι:=List bD×List bD) (fun(⟨x,y⟩:List bD×List bD)=>⟨63,[(0,.own E0 4 0 N),(1,.s (.int .i64 (N:Nat))),(2,.fn g []),(6,.s (.int .i64 (bz:Nat))),(7,.s (.int .i64 (x.length:Nat))),(8,.s (.int .i64 ((x.length+2*bz:Nat):Int)))],[(E0,.buf 4 (List.map stC (x++y)))]⟩) (fun(⟨x,y⟩:List bD×List bD)=>Fu c (2*bz) x∧Ch c bz y∧(x++y).Perm s0) (fun(⟨x,y⟩:List bD×List bD)=>y.length) ([],l) ?_ ?_ ?_))))))))))))))
     · exact⟨.nil,hch,hlp⟩
     · exact cK ⟨rfl,rfl,rfl,rfl,rfl,aL (by simp only[List.length_nil]; omega),trivial⟩ rfl
     ·
      rintro ⟨x,y⟩ hC
      obtain ⟨hd2,hr2,hp2⟩:=hC
      have hpl2:=hp2.length_eq
      rw[List.length_append] at hpl2
      refine aC (fun K13 hK13=>(aC (fun K14 hK14=>(aB (aE aA 3 rfl (aD (hK14 _ (aK rfl (fun hc3=>?_) (fun hc3=>?_)))))))))
      ·
       simp only[bs] at hc3
       refine aN (hK13 _ (aO (aC (fun K15 hK15=>(aB ?_)))))
       obtain ⟨sa,sb,r3,hy,hsa1,hsa2,hsb1,hsb2,hr3⟩:=hr2.pair hb0 (by omega)
       subst hy
       simp only[List.length_append] at hpl2
       refine aE aA 4 rfl ?_
       refine aG rfl (bO rfl rfl (by omega) (by omega)) ?_
       refine aE aA 2 rfl (fK hf E0 rfl rfl rfl rfl rfl oB (sI hent hc hcmp (sa.length+sb.length) x sa sb r3 N _ _ _ (Nat.le_refl _) (by omega) (by omega) (by omega) (by omega) (by omega) (by omega) hsa1 hsb1 hM) ?_)
       rintro r zs ⟨tt,htt1,htt2,rfl⟩
       have httl:=htt1.length_eq
       rw[List.length_append] at httl
       refine aD (hK15 _ (aC (fun K16 hK16=>(aB (aE aA 2 rfl (aD (hK16 _ (aB (aE aA 2 rfl (aG rfl (aJs rfl rfl rfl (by omega) (by omega)) ?_))))))))))
       refine aG rfl (bO rfl rfl (by omega) (by omega)) ?_
       refine aE aA 1 rfl ?_
       refine bG ?_
       exact⟨(x++tt,r3),⟨.cons hd2 htt2 (by have:=htt1.length_eq; rw[List.length_append] at this; omega),hr3,(show ((x++tt)++r3).Perm s0 from (by rw[List.append_assoc]; exact(List.Perm.append_left x ((List.Perm.append_right r3 htt1).trans (by rw[List.append_assoc]))).trans hp2))⟩,by simp only[List.length_append]; omega,cK ⟨(by first | rfl | exact aL (by simp only[List.length_append]; omega)),(by first | rfl | exact aL (by simp only[List.length_append]; omega)),(by first | rfl | exact aL (by simp only[List.length_append]; omega)),(by first | rfl | exact aL (by simp only[List.length_append]; omega)),(by first | rfl | exact aL (by simp only[List.length_append]; omega)),(by first | rfl | exact aL (by simp only[List.length_append]; omega)),trivial⟩ (by rw[List.append_assoc]; rfl)⟩
      ·
       simp only[bs] at hc3
       refine aW (hK12 _ (aC (fun K17 hK17=>(aC (fun K18 hK18=>(aB (aE aA 2 rfl ?_)))))))
       refine aG rfl (bO rfl rfl (by omega) (by omega)) ?_
       refine aE aA 1 rfl (aD (hK18 _ (aC (fun K19 hK19=>(aB (aE aA 3 rfl (aD (hK19 _ (aK rfl (fun hc4=>?_) (fun hc4=>?_))))))))))
       ·
        simp only[bs] at hc4
        refine aB ?_
        obtain ⟨sa,sb,hy,hsa1,hsa2,hsb1,hsb2⟩:=hr2.rest (by omega) (by omega)
        subst hy
        simp only[List.length_append] at hpl2
        rw[show x++(sa++sb)=x++(sa++(sb++[])) from by rw[List.append_nil]]
        refine aE aA 5 rfl (fK hf E0 rfl rfl rfl rfl rfl oB (sI hent hc hcmp (sa.length+sb.length) x sa sb [] N _ _ _ (Nat.le_refl _) (by simp only[List.length_nil]; omega) (by omega) (by omega) (by omega) (by omega) (by omega) hsa1 hsb1 hM) ?_)
        rintro r zs ⟨tq,htq1,htq2,rfl⟩
        refine aD (hK17 _ (aB (aE aA 1 rfl (aG rfl (aJs rfl rfl rfl (by omega) (by omega)) (aE aA 1 rfl ?_)))))
        refine bG ?_
        exact⟨(2*bz,x++tq),⟨by omega,by omega,hd2.ch (.last htq2 (by have:=htq1.length_eq; rw[List.length_append] at this; omega)),(List.Perm.append_left x htq1).trans hp2⟩,by simp only; omega,cK ⟨(by first | rfl | exact aL (by omega)),(by first | rfl | exact aL (by omega)),(by first | rfl | exact aL (by omega)),(by first | rfl | exact aL (by omega)),trivial⟩ (by rw[List.append_nil]; rfl)⟩
       ·
        simp only[bs] at hc4
        refine aN (hK17 _ (aB (aE aA 1 rfl (aG rfl (aJs rfl rfl rfl (by omega) (by omega)) (aE aA 1 rfl ?_)))))
        refine bG ?_
        exact⟨(2*bz,x++y),⟨by omega,by omega,hd2.ch (.last (hr2.short (by omega)) (by omega)),hp2⟩,by simp only; omega,cK ⟨(by first | rfl | exact aL (by omega)),(by first | rfl | exact aL (by omega)),(by first | rfl | exact aL (by omega)),(by first | rfl | exact aL (by omega)),trivial⟩ rfl⟩
    ·
     simp only[bs] at hc2
     refine aW ?_
     exact⟨_,_,_,Le.refl _,rfl,rfl,l,hlp,hch.short (by omega),rfl⟩
theorem tH {g:Nat} (hent:∀ args w,(callFunc g args).run Tryz.prog w=.ok (.enter g args) w) {c:bD→bD→Int} (hc:Tri c) (hcmp:∀ x y:bD,Den Tryz.prog g [.agg (stC x),.agg (stC y)] (·=.s (.int .i64 (c x y)))) (s0:List bD) (N:Nat) (hN:N=s0.length) (hM:N<4611686018427387904) :DenM Tryz.prog 116 [.own E0 4 0 N,.fn g []] 4 ((List.map stC (s0))) (fun r ys=>∃ t:List bD,t.Perm s0∧Srt c t∧ys=(List.map stC (t))):=by
 refine fI Tryz.func116 rfl (Nat.le_of_ble_eq_true rfl) (fun w0 x0 A hf=>?_)
 refine aB (aE aA 4 rfl (fK hf E0 rfl rfl rfl rfl rfl aHe (aAy hent hc hcmp s0 N hN hM) ?_))
 rintro r zs ⟨t,ht1,ht2,rfl⟩
 refine bG ?_
 exact⟨_,_,_,Le.refl _,rfl,rfl,t,ht1,ht2,rfl⟩
end Go.Proofs.YthapfogcaklbbaaGreat
set_option linter.unusedVariables false
set_option linter.unusedSimpArgs false
namespace Go.Proofs.YthapfogcaklbbaaGreat
open Go Go.Abs
end Go.Proofs.YthapfogcaklbbaaGreat
set_option linter.unusedVariables false
set_option linter.unusedSimpArgs false
namespace Go.Proofs.YthapfogcaklbbaaGreat
open Go Go.Abs
theorem oX (a:Int) :Den Tryz.prog 156 [.s (.int .i64 a)]  (·=.s (.bool false)):=by
 refine aU Tryz.func156 rfl (Nat.le_of_ble_eq_true rfl) (fun w0 A hf=>(aC (fun K1 hK1=>(aB (aE aA 1 rfl (aD (hK1 _ (aC (fun K2 hK2=>(aB (aE aA 4 rfl (aD (hK2 _ (aJ ?_))))))))))))))
 refine⟨_,rfl,?_⟩
 refine aP ?_
 simp
theorem gL (a b:Int) :Den Tryz.prog 77 [.s (.int .i64 a),.s (.int .i64 b)]  (·=.s (.int .i64 (iQ a b))):=by
 refine aU Tryz.func77 rfl (Nat.le_of_ble_eq_true rfl) (fun w0 A hf=>(aC (fun K1 hK1=>(aB (aE aA 1 rfl (aD (hK1 _ (aC (fun K2 hK2=>(aB (aE aA 1 rfl (aM hf rfl (aQ rfl rfl wL rfl (oX _)) (aE aA 1 rfl (aD (hK2 _ ?_)))))))))))))))
 refine aC (fun K3 hK3=>(aB (aE aA 1 rfl (aM hf rfl (aQ rfl rfl wL rfl (oX _)) (aE aA 1 rfl (aD (hK3 _ (aC (fun K4 hK4=>(aC (fun K5 hK5=>(aB (aE aA 1 rfl (aD (hK5 _ ?_)))))))))))))))
 refine bW rfl (aN (hK4 _ (aC (fun K6 hK6=>(aC (fun K7 hK7=>(aB (aE aA 1 rfl (aD (hK7 _ (bW rfl (aN (hK6 _ (aC (fun K8 hK8=>?_)))))))))))))))
 refine aC (fun K9 hK9=>(aB (aE aA 3 rfl (aD (hK9 _ (aK rfl (fun hc3=>?_) (fun hc3=>?_)))))))
 ·
  simp only[bs] at hc3
  refine aC (fun K10 hK10=>(aB (aE aA 1 rfl (aD (hK10 _ (aJ ?_))))))
  refine⟨_,rfl,?_⟩
  refine dZ ?_
  unfold iQ
  (repeat' split) <;> first | rfl | omega
 ·
  simp only[bs] at hc3
  refine aN (hK8 _ (aC (fun K11 hK11=>(aC (fun K12 hK12=>(aB (aE aA 3 rfl (aD (hK12 _ (aK rfl (fun hc4=>?_) (fun hc4=>?_)))))))))))
  ·
   simp only[bs] at hc4
   refine aC (fun K13 hK13=>(aB (aE aA 1 rfl (aD (hK13 _ (aJ ?_))))))
   refine⟨_,rfl,?_⟩
   refine dZ ?_
   unfold iQ
   (repeat' split) <;> first | rfl | omega
  ·
   simp only[bs] at hc4
   refine aN (hK11 _ (aC (fun K14 hK14=>(aB (aE aA 1 rfl (aD (hK14 _ (aJ ?_))))))))
   refine⟨_,rfl,?_⟩
   refine dZ ?_
   unfold iQ
   (repeat' split) <;> first | rfl | omega
theorem tR (s:Sp) :Den Tryz.prog 115 [.agg (spC s)]  (·=.s (.bool (decide (s.2≤s.1)))):=by
 refine aU Tryz.func115 rfl (Nat.le_of_ble_eq_true rfl) (fun w0 A hf=>(aC (fun K1 hK1=>(aB (aM hf rfl (cP rfl rfl (lf rfl)) (aE aA 1 rfl (aD (hK1 _ (aC (fun K2 hK2=>(aB (aE aA 6 rfl (aD (hK2 _ (aJ ?_)))))))))))))))
 refine⟨_,rfl,?_⟩
 rfl
end Go.Proofs.YthapfogcaklbbaaGreat
namespace Go.Proofs
open Go.Shelf
end Go.Proofs
set_option linter.unusedVariables false
set_option linter.unusedSimpArgs false
namespace Go.Proofs.YthapfogcaklbbaaGreat
open Go Go.Abs
end Go.Proofs.YthapfogcaklbbaaGreat
set_option linter.unusedVariables false
set_option linter.unusedSimpArgs false
namespace Go.Proofs.YthapfogcaklbbaaGreat
open Go Go.Abs
theorem sL (l:List bD) (hl:l.length*32≤140737488355328) :DenO Tryz.prog 89 [.sl 4 (l.map stC)] 4 (·=(l.map stC)):=by
 refine eK Tryz.func89 rfl (Nat.le_of_ble_eq_true rfl) (fun w0 A hf=>?_)
 refine aC (fun K1 hK1=>(aB (aG rfl (bH) (aD (hK1 _ (aC (fun K2 hK2=>(aC (fun K3 hK3=>(aB (aE aA 1 rfl ?_)))))))))))
 refine kL rfl rfl rfl bZ (fun b hb1=>?_)
 refine aD (hK3 _ (aK rfl (fun hc2=>?_) (fun hc2=>?_)))
 ·
  have hl0:l=[]:=by simpa using hb1 (by assumption)
  refine aC (fun K4 hK4=>(aB (oJ hf 4 rfl rfl rfl (aD (hK4 _ (aJ ?_))))))
  exact⟨2,[],by decide,rfl,rfl,by rw[hl0]; rfl⟩
 ·
  refine aN (hK2 _ (aC (fun K5 hK5=>(aB (gO hf rfl rfl rfl gI rfl rfl rfl rfl (l2 rfl) ?_)))))
  refine aE aA 1 rfl (eF hf rfl gI rfl rfl rfl (.inl rfl) rfl rfl (by first | rfl | simp [kA,bF]) (by first | (simp only[maxLen,List.length_map,List.length_append,List.length_cons,List.length_nil]; omega) | (simp [maxLen] <;> omega)) (by first | (simp only[List.length_map,List.length_append,List.length_cons,List.length_nil]; omega) | (simp <;> omega)) ?_)
  refine cD (iX [7] rfl) (aE aA 1 rfl (aD (hK5 _ (aJ ?_))))
  refine⟨5,(l.map stC),by decide,rfl,?_,rfl⟩
  show some (AV.own 5 4 0 (0+(l.map stC).length))=_
  rw[Nat.zero_add]
theorem aKh (n:Nat) (hn:n*32≤140737488355328) :DenO Tryz.prog 194 [.s (.slice none 0 0),.s (.int .i64 (n:Nat))] 4 (·=[]):=by
 refine eK Tryz.func194 rfl (Nat.le_of_ble_eq_true rfl) (fun w0 A hf=>?_)
 refine aC (fun K1 hK1=>(aB (aG rfl (bH) (aD (hK1 _ (aC (fun K2 hK2=>(aC (fun K3 hK3=>(aB (aE aA 2 rfl (aD (hK3 _ (aK rfl (fun hc1=>?_) (fun hc1=>?_)))))))))))))))
 ·
  simp only[bs] at hc1
  omega
 ·
  simp only[bs] at hc1
  refine aN (hK2 _ (aC (fun K4 hK4=>(aC (fun K5 hK5=>(aB (aE aA 2 rfl (aG rfl (jO rfl bZ) (aE aA 2 rfl ?_)))))))))
  refine aG rfl (eH rfl rfl (by omega) (by omega)) ?_
  refine aG rfl (eH rfl rfl (by omega) (by omega)) ?_
  refine aE aA 1 rfl (aD (hK5 _ (aC (fun K6 hK6=>(aB (aE aA 2 rfl (aD (hK6 _ (aK rfl (fun hc2=>?_) (fun hc2=>?_))))))))))
  ·
   simp only[bs] at hc2
   refine aB (aE aA 2 rfl (aG rfl (jO rfl bZ) ?_))
   refine aG rfl (nV rfl bZ aS rfl) ?_
   refine aE aA 1 rfl (rC hf rfl rfl rfl gI Tryz.underlying3 rfl rfl (by omega) (by omega) (by simp only[maxLen]; omega) ?_)
   refine aE aA 2 rfl ?_
   refine aG rfl (eA rfl bZ aS rfl rfl (by omega) (by omega)) ?_
   refine aE aA 1 rfl (aD (hK4 _ (aC (fun K7 hK7=>(aB (aE aA 1 rfl ?_))))))
   refine aG rfl (qK rfl) ?_
   refine aD (hK7 _ (aJ ?_))
   exact⟨22,[],by decide,rfl,rfl,rfl⟩
  ·
   simp only[bs] at hc2
   refine aN (hK4 _ (aC (fun K8 hK8=>(aB (aE aA 1 rfl ?_)))))
   refine aCc hf 4 rfl rfl rfl rfl ?_
   refine aD (hK8 _ (aJ ?_))
   exact⟨4,[],by decide,rfl,rfl,rfl⟩
theorem vP (rows:List (List bD)) (hl:rows.length≤9223372036854775807) (hb:rows.flatten.length*32≤140737488355328) :DenO Tryz.prog 121 [.sl 1 (rows.map fun r=>[AV.sl 4 (r.map stC)])] 4 (·=(rows.flatten.map stC)):=by
 refine eK Tryz.func121 rfl (Nat.le_of_ble_eq_true rfl) (fun w0 A hf=>?_)
 refine aC (fun K1 hK1=>(aB (aG rfl (bH) (aD (hK1 _ (aC (fun K2 hK2=>(aB (aE aA 1 rfl (aD (hK2 _ (aC (fun K3 hK3=>(aC (fun K4 hK4=>(aB ?_))))))))))))))))
 refine aE aA 3 rfl (aD (hK4 _ (aO (bR (ι:=Nat) (fun k=>⟨36,[(0,.sl 1 (rows.map fun r=>[AV.sl 4 (r.map stC)])),(3,.s (.int .i64 ((rows.take k).flatten.length:Nat))),(9,.sl 1 (rows.map fun r=>[AV.sl 4 (r.map stC)])),(10,.s (.int .i64 ((rows.map fun r=>[AV.sl 4 (r.map stC)]).length:Nat))),(11,.s (.int .i64 (k:Nat)))],[]⟩) (fun k=>k≤rows.length) (fun k=>rows.length - k) 0 ?_ ?_ ?_))))
 · exact Nat.zero_le _
 · exact cX rfl
 ·
  rintro k hC
  refine aC (fun K5 hK5=>(aB (aE aA 1 rfl (aD (hK5 _ (aC (fun K6 hK6=>(aK rfl (fun hc1=>?_) (fun hc1=>?_)))))))))
  ·
   simp only[bs] at hc1
   refine aN (hK6 _ (aC (fun K7 hK7=>(aO (aC (fun K8 hK8=>(aB ?_)))))))
   refine aG rfl (bB rfl rfl aCa uO (by first | exact ixm (by omega) | assumption | exact⟨by decide,rfl⟩)) ?_
   refine aE aA 2 rfl (aD (hK8 _ (aC (fun K9 hK9=>(aB ?_)))))
   have hk:k<rows.length:=by omega
   have e1:=congrArg List.length (fN rows k hk)
   rw[List.length_append] at e1
   have e2:=nX rows (k+1)
   have e3:(rows[k].map stC).length=rows[k].length:=List.length_map _
   refine aE aA 3 rfl ?_
   refine aG rfl (bO rfl rfl (by omega) (by omega)) ?_
   rw[show ((((rows.take k).flatten.length:Nat):Int)+(((rows[k].map stC).length:Nat):Int))=(((rows.take (k+1)).flatten.length:Nat):Int) from by omega]
   refine aE aA 1 rfl (aD (hK9 _ (aC (fun K10 hK10=>(aB (aE aA 2 rfl (aD (hK10 _ (aK rfl (fun hc2=>?_) (fun hc2=>?_))))))))))
   ·
    simp only[bs] at hc2
    omega
   ·
    simp only[bs] at hc2
    refine aN (hK7 _ (aB ?_))
    refine aG rfl (bO rfl rfl (by omega) (by omega)) ?_
    refine aE aA 1 rfl (aD ?_)
    exact⟨k+1,(by omega),by omega,cX rfl⟩
  ·
   simp only[bs] at hc1
   refine aW (hK3 _ (aC (fun K11 hK11=>(aB ?_))))
   rw[List.take_of_length_le (show rows.length≤k by omega)]
   refine aE aA 1 rfl (fR hf rfl rfl rfl rfl rfl aHc rfl (aKh rows.flatten.length (by omega)) ?_)
   rintro _ rfl
   refine aE aA 1 rfl (aD (hK11 _ (aC (fun K12 hK12=>(aC (fun K13 hK13=>(aB (aE aA 3 rfl (aD (hK13 _ (aO (bR (ι:=Nat) (fun j=>⟨36,[(6,.own 24 4 0 (rows.take j).flatten.length),(25,.sl 1 (rows.map fun r=>[AV.sl 4 (r.map stC)])),(26,.s (.int .i64 ((rows.map fun r=>[AV.sl 4 (r.map stC)]).length:Nat))),(27,.s (.int .i64 (j:Nat)))],[(24,.buf 4 ((rows.take j).flatten.map stC))]⟩) (fun j=>j≤rows.length) (fun j=>rows.length - j) 0 ?_ ?_ ?_))))))))))))
   · exact Nat.zero_le _
   · exact cX rfl
   ·
    rintro j hC
    refine aC (fun K14 hK14=>(aB (aE aA 1 rfl (aD (hK14 _ (aC (fun K15 hK15=>(aK rfl (fun hc3=>?_) (fun hc3=>?_)))))))))
    ·
     simp only[bs] at hc3
     refine aN (hK15 _ (aC (fun K16 hK16=>(aO (aC (fun K17 hK17=>(aB ?_)))))))
     refine aG rfl (bB rfl rfl aCa uO (by first | exact ixm (by omega) | assumption | exact⟨by decide,rfl⟩)) ?_
     refine aE aA 2 rfl (aD (hK17 _ (aB ?_)))
     have hj:j<rows.length:=by omega
     have e1:=congrArg List.length (fN rows j hj)
     rw[List.length_append] at e1
     have e2:=nX rows (j+1)
     have e3:(rows[j].map stC).length=rows[j].length:=List.length_map _
     refine aE aA 2 rfl (eF hf rfl gI rfl rfl rfl (.inl rfl) (by simp only[List.length_map]) rfl (by first | rfl | simp [kA,bF]) (by first | (simp only[maxLen,List.length_map,List.length_append,List.length_cons,List.length_nil]; omega) | (simp [maxLen] <;> omega)) (by first | (simp only[List.length_map,List.length_append,List.length_cons,List.length_nil]; omega) | (simp <;> omega)) ?_)
     refine cD (iX [25,26,27,33] rfl) ?_
     rw[show (rows.take j).flatten.length+(rows[j].map stC).length=(rows.take (j+1)).flatten.length from by omega,← List.map_append,← fN rows j hj]
     refine aE aA 1 rfl ?_
     refine bG ?_
     refine hK16 _ (aB ?_)
     refine aG rfl (bO rfl rfl (by omega) (by omega)) ?_
     refine aE aA 1 rfl (aD ?_)
     exact⟨j+1,(by omega),by omega,cX rfl⟩
    ·
     simp only[bs] at hc3
     refine aW (hK12 _ (aC (fun K18 hK18=>(aB (aE aA 2 rfl (aD (hK18 _ (aJ ?_))))))))
     refine⟨24,(rows.flatten.map stC),by decide,?_,?_,rfl⟩
     · rw[List.take_of_length_le (show rows.length≤j by omega)]; rfl
     · rw[List.take_of_length_le (show rows.length≤j by omega)]
       show some (AV.own 24 4 0 rows.flatten.length)=_
       rw[List.length_map]
theorem aMd (a b c d:Int) :Den Tryz.prog 122 [.s (.int .i64 a),.s (.int .i64 b),.s (.int .i64 c),.s (.int .i64 d)]  (·=.agg (stC ((a,b),(c,d)))):=by
 refine aU Tryz.func122 rfl (Nat.le_of_ble_eq_true rfl) (fun w0 A hf=>(aC (fun K1 hK1=>(aB (bJ hf rfl rfl rfl dP (aD (hK1 _ (aC (fun K2 hK2=>(aB (aE aA 2 rfl (aG rfl (cS rfl uG rQ (l3 rfl) rfl) (aE aA 2 rfl (aG rfl (cS rfl dP pT (l3 rfl) rfl) (aT hf rfl rfl aS rfl rfl (l1 rfl) (l4 rfl) rfl ?_)))))))))))))))
 refine aD (hK2 _ (aJ ?_))
 refine⟨_,rfl,?_⟩
 rfl
theorem aMi (s:bD) :Den Tryz.prog 63 [.agg (stC s)]  (·=.agg (stC s)):=by
 refine aU Tryz.func63 rfl (Nat.le_of_ble_eq_true rfl) (fun w0 A hf=>(aC (fun K1 hK1=>(aB (aM hf rfl (cP rfl rfl (lf rfl)) (bJ hf rfl rfl rfl dP (aD (hK1 _ (aC (fun K2 hK2=>(aB (aE aA 8 rfl (aM hf rfl (aQ rfl rfl aHt rfl (aMd _ _ _ _)) (aT hf rfl rfl aS rfl rfl (l1 rfl) (l4 rfl) rfl (aD ?_)))))))))))))))
 refine hK2 _ (aJ ?_)
 refine⟨_,rfl,?_⟩
 rfl
theorem aO6 (s:bD) :Den Tryz.prog 86 [.agg (stC s)]  (·=.agg (stC s)):=by
 refine aU Tryz.func86 rfl (Nat.le_of_ble_eq_true rfl) (fun w0 A hf=>(aC (fun K1 hK1=>(aB (aM hf rfl (cP rfl rfl (lf rfl)) (bJ hf rfl rfl rfl aB6 (aD (hK1 _ (aC (fun K2 hK2=>(aB (aE aA 10 rfl (aG rfl (cS rfl aB6 aN0 (l3 rfl) rfl) (aT hf rfl rfl jW rfl rfl (l1 rfl) (l4 rfl) rfl (aD ?_)))))))))))))))
 refine hK2 _ (aJ ?_)
 refine⟨_,rfl,?_⟩
 rfl
theorem aFu (a b:bD) :Den Tryz.prog 117 [.agg (stC a),.agg (stC b)]  (·=.s (.int .i64 (gK a b))):=by
 refine aU Tryz.func117 rfl (Nat.le_of_ble_eq_true rfl) (fun w0 A hf=>(aC (fun K1 hK1=>(aB (aM hf rfl (cP rfl rfl (lf rfl)) (aM hf rfl (cP rfl rfl (lf rfl)) (aE aA 1 rfl (aD (hK1 _ (aC (fun K2 hK2=>(eB hf bI (by kernel_rfl) rfl (aX aA 6 rfl (bT [(7,_),(10,_)] rfl rfl ⟨⟨rfl,rfl⟩,⟨rfl,rfl⟩,trivial⟩ rfl (aQ rfl rfl kT rfl (gL _ _)) (aX aA 6 rfl ?_)))))))))))))))
 refine bT [(14,_),(17,_)] rfl rfl ⟨⟨rfl,rfl⟩,⟨rfl,rfl⟩,trivial⟩ rfl (aQ rfl rfl kT rfl (gL _ _)) (aX aA 4 rfl (bT [(20,_),(22,_)] rfl rfl ⟨⟨rfl,rfl⟩,⟨rfl,rfl⟩,trivial⟩ rfl (aQ rfl rfl kT rfl (gL _ _)) (aX aA 4 rfl (bT [(25,_),(27,_)] rfl rfl ⟨⟨rfl,rfl⟩,⟨rfl,rfl⟩,trivial⟩ rfl (aQ rfl rfl kT rfl (gL _ _)) (bT [(11,_),(18,_),(23,_),(28,_)] rfl rfl ⟨⟨rfl,rfl⟩,⟨rfl,rfl⟩,⟨rfl,rfl⟩,⟨rfl,rfl⟩,trivial⟩ rfl (bE tC rfl rfl rfl rfl (l2 rfl)) (bT [(29,_)] rfl rfl ⟨⟨rfl,rfl⟩,trivial⟩ rfl (aQ rfl rfl qZ rfl (Nm.or_den [_,_,_,_] (by simp))) ?_))))))
 refine aX aA 1 rfl (eE [4] rfl rfl rfl (hK2 _ (aJ ?_)))
 refine⟨_,rfl,?_⟩
 rfl
theorem aIt (a b:bD) :Den Tryz.prog 162 [.agg (stC a),.agg (stC b)]  (·=.s (.bool (decide (gK a b<0)))):=by
 refine aU Tryz.func162 rfl (Nat.le_of_ble_eq_true rfl) (fun w0 A hf=>(aC (fun K1 hK1=>(aB (aM hf rfl (cP rfl rfl (lf rfl)) (aM hf rfl (cP rfl rfl (lf rfl)) (aE aA 1 rfl (aD (hK1 _ (aC (fun K2 hK2=>(aC (fun K3 hK3=>(aB (aE aA 5 rfl (aD ?_))))))))))))))))
 refine hK3 _ (aK rfl (fun hc1=>?_) (fun hc1=>?_))
 ·
  simp only[bs] at hc1
  refine aC (fun K4 hK4=>(aB (aE aA 6 rfl (aD (hK4 _ (aJ ?_))))))
  refine⟨_,rfl,?_⟩
  exact aP (ah1 (by assumption))
 ·
  simp only[bs] at hc1
  refine aN (hK2 _ (aC (fun K5 hK5=>(aC (fun K6 hK6=>(aB (aE aA 5 rfl (aD (hK6 _ (aK rfl (fun hc2=>?_) (fun hc2=>?_)))))))))))
  ·
   simp only[bs] at hc2
   refine aC (fun K7 hK7=>(aB (aE aA 6 rfl (aD (hK7 _ (aJ ?_))))))
   refine⟨_,rfl,?_⟩
   exact aP (ah2 (by assumption) (by assumption))
  ·
   simp only[bs] at hc2
   refine aN (hK5 _ (aC (fun K8 hK8=>(aC (fun K9 hK9=>(aB (aE aA 5 rfl (aD (hK9 _ (aK rfl (fun hc3=>?_) (fun hc3=>?_)))))))))))
   ·
    simp only[bs] at hc3
    refine aC (fun K10 hK10=>(aB (aE aA 6 rfl (aD (hK10 _ (aJ ?_))))))
    refine⟨_,rfl,?_⟩
    exact aP (ah3 (by assumption) (by assumption) (by assumption))
   ·
    simp only[bs] at hc3
    refine aN (hK8 _ (aC (fun K11 hK11=>(aB (aE aA 6 rfl (aD (hK11 _ (aJ ?_))))))))
    refine⟨_,rfl,?_⟩
    exact aP (ah4 (by assumption) (by assumption) (by assumption))
end Go.Proofs.YthapfogcaklbbaaGreat
namespace Go.Abs
open Go
theorem aLw {c:AV} (h:Ty (.int .i64) [c]):∃ n:Int,c=.s (.int .i64 n)∧-9223372036854775808≤n∧n≤9223372036854775807:=by
  simp only[Ty] at h
  obtain ⟨n,hx,hw⟩:=h
  simp only[List.cons.injEq,and_true] at hx
  exact⟨n,hx,wf_i64 hw⟩
theorem aO5 {c:AV} (h:Ty .str [c]):∃ s:ByteArray,c=.s (.string s)∧s.size≤140737488351232:=by
  simp only[Ty] at h
  obtain ⟨s,hx,hw⟩:=h
  simp only[List.cons.injEq,and_true] at hx
  exact⟨s,hx,hw⟩
end Go.Abs
set_option linter.unusedVariables false
set_option linter.unusedSimpArgs false
namespace Go.Abs
theorem aW1 (x y:Pr):(x.1.toList == y.1.toList&&(x.2.toList == y.2.toList&&true))=decide (x=y):=by
  rw[Bool.eq_iff_iff]
  simp only[Bool.and_eq_true,beq_iff_eq,toList_inj,and_true,decide_eq_true_eq,Prod.ext_iff]
def RevI (l:List En) (n:Nat) (t:Int) (k:Nat) (out:List En):Prop :=
  k≤l.length∧∃ hn:n<l.length,(k≤n∧out=l.take k)∨(n<k∧out=l.take n++(qH l[n] t++(l.take k).drop (n+1)))
theorem RevI.start {l:List En} {n:Nat} (t:Int) (hn:n<l.length):RevI l n t 0 []:=⟨Nat.zero_le _,hn,.inl ⟨Nat.zero_le _,rfl⟩⟩
theorem RevI.len {l:List En} {n:Nat} {t:Int} {k:Nat} {out:List En} (h:RevI l n t k out):out.length≤k:=by
  obtain ⟨hk,hn,⟨h1,rfl⟩ | ⟨h1,rfl⟩⟩:=h
  · simp; omega
  · simp only[List.length_append,List.length_take,List.length_drop,qH]
    split <;> simp <;> omega
theorem aRi {α:Type} {l:List α} {k:Nat} (h:k<l.length):l.take (k+1)=l.take k++[l[k]]:=(List.take_append_getElem h).symm
theorem RevI.ne {l:List En} {n:Nat} {t:Int} {k:Nat} {out:List En} (h:RevI l n t k out) (hk:k<l.length) (hne:k≠n):RevI l n t (k+1) (out++[l[k]]):=by
  obtain ⟨_,hn,⟨h1,rfl⟩ | ⟨h1,rfl⟩⟩:=h
  · exact⟨hk,hn,.inl ⟨by omega,(aRi hk).symm⟩⟩
  · refine⟨hk,hn,.inr ⟨by omega,?_⟩⟩
    rw[aRi hk,List.drop_append_of_le_length (by simp; omega)]
    simp [List.append_assoc]
theorem RevI.keep {l:List En} {n:Nat} {t:Int} {k:Nat} {out:List En} (h:RevI l n t k out) (hk:k<l.length) (he:k=n) (ht:l[k].2.1<t):RevI l n t (k+1) (out++[(l[k].1,(l[k].2.1,t))]):=by
  subst he
  obtain ⟨_,hn,⟨h1,rfl⟩ | ⟨h1,rfl⟩⟩:=h
  · refine⟨hk,hn,.inr ⟨by omega,?_⟩⟩
    rw[qH,if_neg (by omega),List.drop_eq_nil_of_le (by simp; omega),List.append_nil]
  · omega
theorem RevI.gone {l:List En} {n:Nat} {t:Int} {k:Nat} {out:List En} (h:RevI l n t k out) (hk:k<l.length) (he:k=n) (ht:t≤l[k].2.1):RevI l n t (k+1) out:=by
  subst he
  obtain ⟨_,hn,⟨h1,rfl⟩ | ⟨h1,rfl⟩⟩:=h
  · refine⟨hk,hn,.inr ⟨by omega,?_⟩⟩
    rw[qH,if_pos ht,List.drop_eq_nil_of_le (by simp; omega),List.append_nil,List.append_nil]
  · omega
theorem RevI.fin {l:List En} {p:Pr} {n:Nat} {t:Int} {k:Nat} {out:List En} (h:RevI l n t k out) (hk:l.length≤k) (h1:∀ (j:Nat) (hj:j<l.length),j<n→eX p l[j]=false) (h2:∀ hn:n<l.length,eX p l[n]=true):out=iZ l p t:=by
  obtain ⟨_,hn,⟨h3,rfl⟩ | ⟨h3,rfl⟩⟩:=h
  · omega
  · rw[xH p t l n hn h1 (h2 hn),List.take_of_length_le hk]
theorem rev_set {l:List En} {p:Pr} {t:Int} {k:Nat} (hk:k<l.length) (h1:∀ (j:Nat) (hj:j<l.length),j<k→eX p l[j]=false) (h2:eX p l[k]=true) (ht:l[k].2.1<t):l.set k (l[k].1,(l[k].2.1,t))=iZ l p t:=by
  rw[xH p t l k hk h1 h2,qH,if_neg (by omega),List.set_eq_take_append_cons_drop,if_pos hk]; rfl
theorem rev_del {l:List En} {p:Pr} {t:Int} {k:Nat} {v:En} (hk:k<l.length) (h1:∀ (j:Nat) (hj:j<l.length),j<k→eX p l[j]=false) (h2:eX p l[k]=true) (ht:t≤l[k].2.1):(l.set k v).take k++(l.set k v).drop (k+1)=iZ l p t:=by
  rw[xH p t l k hk h1 h2,qH,if_pos ht,List.take_set_of_le (Nat.le_refl _),List.drop_set_of_lt (by omega)]; rfl
theorem aSq {l:List En} {p:Pr} (h:nA (eX p) l<0):onB l p=false:=by
  rw[onB,← aE9]; simp; omega
theorem onB_t {l:List En} {p:Pr} (h:0≤nA (eX p) l):onB l p=true:=by
  rw[onB,← aE9]; simp; omega
theorem aMe {l:List En} {p:Pr} {k:Nat} (hk:k<l.length) (h:eX p l[k]=true):onB l p=true:=List.any_eq_true.2 ⟨_,List.getElem_mem hk,h⟩
theorem aMh {e:En} (h:e.2.2≤e.2.1∨cH e.1.1=false∨cH e.1.2=false∨(cH e.1.1&&cH e.1.2)=false):okE e=false:=by
  rcases h with h | h | h | h
  · have:decide (e.2.1<e.2.2)=false:=by simp; omega
    rw[okE,this]; rfl
  · rw[okE,h]; simp
  · rw[okE,h]; simp
  · rw[okE,h]; simp
theorem aJu {e:En} (h:e.2.1<e.2.2) (h1:cH e.1.1=true) (h2:cH e.1.2=true):okE e=true:=by simp [okE,h,h1,h2]
theorem rM {a b:En}:aEr a b=true↔kE a b<0∧(a.1=b.1→a.2.2≤b.2.1):=by
  simp only[aEr,Bool.and_eq_true,decide_eq_true_eq,Bool.not_eq_true',Bool.and_eq_false_iff,decide_eq_false_iff_not]
  refine and_congr_right fun _=>?_
  by_cases e:a.1=b.1
  · simp only[e,not_true_eq_false,false_or,forall_const]; omega
  · simp [e]
theorem aJw {a b:En} (h:¬ kE a b<0∨(a.1=b.1∧b.2.1<a.2.2)):aEr a b=false:=by
  rw[Bool.eq_false_iff]; intro h0
  obtain ⟨h1,h2⟩:=rM.1 h0
  rcases h with h | ⟨h,h3⟩
  · omega
  · have:=h2 h; omega
theorem aL9 {a b:Pr} (h1:a.1.toList=b.1.toList) (h2:a.2.toList=b.2.toList):a=b:=Prod.ext (toList_inj.1 h1) (toList_inj.1 h2)
theorem aCr {a b:Pr} (h:¬ a.1.toList=b.1.toList):a≠b:=fun e=>h (by rw[e])
theorem aCq {a b:Pr} (h:¬ a.2.toList=b.2.toList):a≠b:=fun e=>h (by rw[e])
theorem aS4 {u:ByteArray} {e:En} (h:e.1.1.toList=u.toList∨e.1.2.toList=u.toList):(!zO u e)=false:=by
  simp only[toList_inj] at h
  rcases h with h | h <;> simp [zO,tQ,h]
theorem hasU_f {u:ByteArray} {e:En} (h1:¬ e.1.1.toList=u.toList) (h2:¬ e.1.2.toList=u.toList):(!zO u e)=true:=by
  simp only[toList_inj] at h1 h2
  simp [zO,tQ,h1,h2]
end Go.Abs
set_option linter.unusedVariables false
set_option linter.unusedSimpArgs false
namespace Go.Abs
open Go Go.RowKit
variable {P:Program}
theorem aC3 {f:Nat} {args:List AV} {x y:AV} (h:Den P f args (·=x)) (e:x=y):Den P f args (·=y):=e ▸ h
def RisR (a b:En):Prop:=kE a b<0∧(a.1=b.1→a.2.2≤b.2.1)
theorem RisR.trans {a b c:En} (hb:okE b=true) (h1:RisR a b) (h2:RisR b c):RisR a c:=by
  refine⟨ordE_tri.lt_tr h1.1 h2.1,fun e=>?_⟩
  have hab:oR a.1 b.1≤0:=by
    have:=h1.1; rw[qL] at this; unfold qP at this; split at this <;> simp only[] at*<;> omega
  have hbc:oR b.1 c.1≤0:=by
    have:=h2.1; rw[qL] at this; unfold qP at this; split at this <;> simp only[] at*<;> omega
  have hba:oR b.1 a.1≤0:=by rw[e]; exact hbc
  have h0:oR a.1 b.1=0:=by have:=pairC_tri.swap a.1 b.1; omega
  have e1:=yY.1 h0
  have g1:=h1.2 e1
  have g2:=h2.2 (e1 ▸ e)
  have g3:b.2.1<b.2.2:=by
    simp only[okE,Bool.and_eq_true,decide_eq_true_eq] at hb; exact hb.1
  omega
theorem qG (l:List En):aA0 l=true↔(∀ x∈l,okE x=true)∧l.Pairwise RisR:=by
  rw[aA0,oP RisR (fun x y=>rM) (fun x y z hy h1 h2=>RisR.trans hy h1 h2)]
  simp
theorem aD9 {l:List En} (q:En→Bool) (h:aA0 l=true):aA0 (l.filter q)=true:=by
  rw[qG] at *
  exact⟨fun x hx=>h.1 x (List.mem_filter.1 hx).1,h.2.filter q⟩
end Go.Abs
set_option linter.unusedVariables false
set_option linter.unusedSimpArgs false
namespace Go.Abs
abbrev Se:=(Int×ByteArray)×(Int×Int)
def seC (e:Se):List AV:=[.s (.int .i64 e.1.1),.s (.string e.1.2),.s (.int .i64 e.2.1),.s (.int .i64 e.2.2)]
abbrev se0:Se:=((0,⟨#[]⟩),(0,0))
abbrev st0:bD:=((0,0),(0,0))
def zN {α:Type} (q:α→Bool) (e:α):List α→List α
  | []=>[e]
  | x::l=>if q x=true then e::x::l else x::zN q e l
theorem aCx {α:Type} (q:α→Bool) (e:α):∀ (l:List α) (k:Nat),k≤l.length→(∀ (j:Nat) (hj:j<l.length),j<k→q l[j]=false)→(∀ (h:k<l.length),q l[k]=true)→zN q e l=l.take k++e::l.drop k
  | [],k,hk,_,_=>by
                          have:k=0:=by simpa using hk
                          subst this; rfl
  | x::l,0,_,_,h=>by have:=h (by simp); simp only[List.getElem_cons_zero] at this; simp [zN,this]
  | x::l,k+1,hk,h1,h2=>by
    have hx:=h1 0 (by simp) (by omega)
    simp only[List.getElem_cons_zero] at hx
    rw[zN,if_neg (by simp [hx]),aCx q e l k (by simpa using hk) (fun j hj hjk=>by have:=h1 (j+1) (by simpa using hj) (by omega); simpa using this) (fun h=>by have:=h2 (by simpa using h); simpa using this)]
    rfl
theorem zM {α:Type} (q:α→Bool) (e:α):∀ l:List α,(zN q e l).length=l.length+1
  | []=>rfl
  | x::l=>by rw[zN]; split <;> simp [zM q e l]
theorem tV {α:Type} {q:α→Bool} {e x:α}:∀ {l:List α},x∈zN q e l↔x=e∨x∈l
  | []=>by simp [zN]
  | y::l=>by
    rw[zN]; split
    · simp
    · simp only[List.mem_cons,tV (l:=l)]
      constructor
      · rintro (h | h | h) <;> simp [h]
      · rintro (h | h | h) <;> simp [h]
def isN (n:Int) (e:Se):Bool:=decide (e.1.1=n)
def aFa (l:List Se) (n:Int):Bool:=l.any (isN n)
def aIl:List Se→Int→Se
  | [],_=>se0
  | e::l,n=>if isN n e=true then e else aIl l n
def gH:List Se→Int→ByteArray→Int
  | [],_,_=>101
  | e::l,n,u=>if isN n e=true then (if e.1.2=u then 0 else 102) else gH l n u
def aF1:List Se→Int→Int→Int→List Se
  | [],_,_,_=>[]
  | e::l,n,st,t=>if isN n e=true then (e.1,(st,t))::l else e::aF1 l n st t
def aFx:List Se→Int→List Se
  | [],_=>[]
  | e::l,n=>if isN n e=true then l else e::aFx l n
def atK (l:List Se) (n:Int):Nat:=l.findIdx (isN n)
theorem mC (n:Int) (u:ByteArray) (st t:Int):∀ (l:List Se) (k:Nat) (hk:k<l.length),(∀ (j:Nat) (hj:j<l.length),j<k→isN n l[j]=false)→isN n l[k]=true →
    atK l n=k∧aIl l n=l[k]∧gH l n u=(if l[k].1.2=u then 0 else 102)∧aF1 l n st t=l.set k (l[k].1,(st,t))∧aFx l n=l.take k++l.drop (k+1)
  | [],k,hk,_,_=>by simp at hk
  | x::l,0,_,_,h=>by
    simp only[List.getElem_cons_zero] at h
    simp [atK,aIl,gH,aF1,aFx,h,List.findIdx_cons]
  | x::l,k+1,hk,h1,h2=>by
    have hx:=h1 0 (by simp) (by omega)
    simp only[List.getElem_cons_zero] at hx
    obtain ⟨e1,e2,e3,e4,e5⟩:=mC n u st t l k (by simpa using hk) (fun j hj hjk=>by have:=h1 (j+1) (by simpa using hj) (by omega); simpa using this) (by simpa using h2)
    have hx':¬ isN n x=true:=by simp [hx]
    refine⟨?_,?_,?_,?_,?_⟩
    · rw[atK] at *; rw[List.findIdx_cons,hx,e1]; rfl
    · rw[aIl,if_neg hx',e2]; rfl
    · rw[gH,if_neg hx',e3]; rfl
    · rw[aF1,if_neg hx',e4]; rfl
    · rw[aFx,if_neg hx',e5]; rfl
theorem aDc (n:Int) (u:ByteArray):∀ (l:List Se),(∀ (j:Nat) (hj:j<l.length),isN n l[j]=false)→atK l n=l.length∧gH l n u=101∧aFa l n=false
  | [],_=>⟨rfl,rfl,rfl⟩
  | x::l,h=>by
    have hx:=h 0 (by simp)
    simp only[List.getElem_cons_zero] at hx
    obtain ⟨e1,e2,e3⟩:=aDc n u l (fun j hj=>by have:=h (j+1) (by simpa using hj); simpa using this)
    refine⟨?_,?_,?_⟩
    · rw[atK] at *; rw[List.findIdx_cons,hx,e1]; rfl
    · rw[gH,if_neg (by simp [hx]),e2]
    · rw[aFa] at *; rw[List.any_cons,hx,e3]; rfl
theorem aAa (l:List Se) (n:Int) (u:ByteArray):(gH l n u=101∧aFa l n=false∧atK l n=l.length)∨(aFa l n=true∧gH l n u≠101∧∃ k,∃ hk:k<l.length,isN n l[k]=true∧(∀ (j:Nat) (hj:j<l.length),j<k→isN n l[j]=false)∧atK l n=k∧gH l n u=(if l[k].1.2=u then 0 else 102)):=by
  rcases dM (isN n) l with ⟨_,h⟩ | ⟨k,hk,_,h1,h2⟩
  · obtain ⟨e1,e2,e3⟩:=aDc n u l (fun j hj=>h _ (List.getElem_mem hj))
    exact .inl ⟨e2,e3,e1⟩
  · obtain ⟨e1,_,e3,_⟩:=mC n u 0 0 l k hk h2 h1
    exact .inr ⟨List.any_eq_true.2 ⟨_,List.getElem_mem hk,h1⟩,by rw[e3]; split <;> decide,k,hk,h1,h2,e1,e3⟩
theorem aC6 {l:List Se} {n:Int} {u:ByteArray} (h:gH l n u=0):∃ k,∃ hk:k<l.length,atK l n=k∧isN n l[k]=true∧l[k].1.2=u∧∀ (j:Nat) (hj:j<l.length),j<k→isN n l[j]=false:=by
  rcases aAa l n u with ⟨e,_⟩ | ⟨_,_,k,hk,h1,h2,h3,h4⟩
  · omega
  · refine⟨k,hk,h3,h1,?_,h2⟩
    rw[h4] at h
    split at h
    · assumption
    · omega
theorem aFs {l:List Se} {n:Int} {u:ByteArray}:gH l n u=101↔aFa l n=false:=by
  rcases aAa l n u with ⟨e,h,_⟩ | ⟨e,h,_⟩
  · simp [e,h]
  · simp [e,h]
def sP (l:List Se) (e:Se):Int:=if aFa l e.1.1=true then 100 else if 16≤l.length then 103 else 0
def kR (n:Int) (x:Se):Bool:=decide (n<x.1.1)
def aCo (l:List Se) (e:Se):List Se:=zN (kR e.1.1) e l
def eW (e:Se) (t:Int):bD:=((e.2.2,t),(e.1.1,e.2.1))
def gF (e:Se):Bool:=cH e.1.2&&(decide (1≤e.1.1)&&decide (e.1.1≤999)&&(decide (1≤e.2.1)&&decide (e.2.1≤4))&&(decide (0≤e.2.2)&&decide (e.2.2≤1099511627775)))
def iW (a b:Se):Bool:=decide (a.1.1<b.1.1)
def iC (l:List Se):Bool:=lW gF iW none l&&decide (l.length≤16)
theorem iB (l:List Se):iC l=true↔((∀ x∈l,gF x=true)∧l.Pairwise fun a b=>a.1.1<b.1.1)∧l.length≤16:=by
  rw[iC,Bool.and_eq_true,decide_eq_true_eq,oP (fun a b:Se=>a.1.1<b.1.1) (fun x y=>by simp [iW]) (fun x y z _ h1 h2=>Int.lt_trans h1 h2)]
  simp
theorem opn_ris {l:List Se} {e:Se} (h:iC l=true) (he:iC [e]=true) (ho:sP l e=0):iC (aCo l e)=true:=by
  obtain ⟨⟨h1,h2⟩,h3⟩:=(iB l).1 h
  have h4:=((iB [e]).1 he).1.1 e (by simp)
  unfold sP at ho
  split at ho
  · omega
  · rename_i hn
    split at ho
    · omega
    · rename_i h16
      refine(iB _).2 ⟨⟨fun x hx=>?_,?_⟩,by rw[aCo,zM]; omega⟩
      · rcases tV.1 hx with rfl | hx
        · exact h4
        · exact h1 x hx
      · have hne:∀ x∈l,x.1.1≠e.1.1:=fun x hx hh=>hn (List.any_eq_true.2 ⟨x,hx,by simp [isN,hh]⟩)
        clear h1 h h3 h16 ho hn
        revert h2 hne
        induction l with
        | nil=>intro _ _; exact List.pairwise_singleton _ _
        | cons x l ih =>
          intro h2 hne
          obtain ⟨q1,q2⟩:=List.pairwise_cons.1 h2
          have hx:=hne x (by simp)
          rw[aCo,zN]
          split
          · rename_i hq
            simp only[kR,decide_eq_true_eq] at hq
            refine List.pairwise_cons.2 ⟨fun y hy=>?_,h2⟩
            rcases List.mem_cons.1 hy with rfl | hy
            · exact hq
            · have:=q1 y hy; omega
          · rename_i hq
            simp only[kR,decide_eq_true_eq] at hq
            refine List.pairwise_cons.2 ⟨fun y hy=>?_,ih q2 (fun y hy=>hne y (by simp [hy]))⟩
            rcases tV.1 hy with rfl | hy
            · omega
            · exact q1 y hy
def rW (u:ByteArray) (e:Se):Bool:=decide (e.1.2=u)
def iY (l:List Se) (u:ByteArray) (t:Int):List bD:=l.flatMap fun e=>if rW u e=true∧¬ t≤e.2.2 then [eW e t] else []
def fG (l:List Se) (u:ByteArray) (t:Int):List bD:=aD2 (iY l u t)
def aNn (u:ByteArray) (t:Int) (out:List bD) (e:Se):List bD:=if rW u e=true then gX out (eW e t) else out
theorem aN4 (u:ByteArray) (t:Int):∀ (l:List Se) (out:List bD),Srt gK out→Srt gK (l.foldl (aNn u t) out)∧(l.foldl (aNn u t) out).Perm (out++iY l u t)
  | [],out,h=>⟨h,by simp [iY]⟩
  | e::l,out,h=>by
    rw[List.foldl_cons]
    have hstep:Srt gK (aNn u t out e)∧(aNn u t out e).Perm (out++(if rW u e=true∧¬ t≤e.2.2 then [eW e t] else [])):=by
      unfold aNn
      by_cases hu:rW u e=true
      · rw[if_pos hu]
        by_cases ht:t≤e.2.2
        · rw[gX,if_pos (show (eW e t).1.2≤(eW e t).1.1 from ht),if_neg (by simp [ht])]
          exact⟨h,by simp⟩
        · rw[gX,if_neg (show ¬ (eW e t).1.2≤(eW e t).1.1 from ht),if_pos ⟨hu,ht⟩]
          exact⟨mY h,(fP _ _).trans (List.perm_append_comm (l₁:=[eW e t]))⟩
      · rw[if_neg hu,if_neg (by simp [hu])]
        exact⟨h,by simp⟩
    obtain ⟨h1,h2⟩:=aN4 u t l _ hstep.1
    refine⟨h1,h2.trans ((hstep.2.append_right _).trans (List.Perm.of_eq ?_))⟩
    simp [iY,List.append_assoc]
theorem aOe (l:List Se) (u:ByteArray) (t:Int):l.foldl (aNn u t) []=fG l u t:=by
  obtain ⟨h1,h2⟩:=aN4 u t l [] List.Pairwise.nil
  exact aL2 (by simpa using h2) h1
theorem aKc (l:List Se) (u:ByteArray) (t:Int):(fG l u t).length≤l.length:=by
  rw[fG,aKe]
  induction l with
  | nil=>simp [iY]
  | cons e l ih =>
    have:(if rW u e=true∧¬ t≤e.2.2 then [eW e t] else []).length≤1:=by split <;> simp
    simp only[iY,List.flatMap_cons,List.length_append,List.length_cons] at *
    omega
end Go.Abs
set_option linter.unusedVariables false
set_option linter.unusedSimpArgs false
namespace Go.Abs
open Go
theorem ty_st {cs:List AV} (h:Ty (.agg [.int .i64,.int .i64,.int .i64,.int .i64]) cs):∃ s:bD,cs=stC s∧True:=by
  simp only[Ty,TyL] at h
  obtain ⟨a,b,rfl,⟨w,rfl,_⟩,a',b',rfl,⟨u,rfl,_⟩,a2,b2,rfl,⟨n,rfl,_⟩,a3,b3,rfl,⟨m,rfl,_⟩,rfl⟩:=h
  exact⟨((w,u),(n,m)),rfl,trivial⟩
theorem ty_sts {c:AV} (h:Ty (.sl 32 (.agg [.int .i64,.int .i64,.int .i64,.int .i64])) [c]):∃ l:List bD,c=.sl 4 (l.map stC)∧l.length*32≤140737488351232:=by
  simp only[Ty] at h
  obtain ⟨xs,hx,_,hl,hxs⟩:=h
  obtain ⟨l,rfl,hr⟩:=pH stC (fun _=>True) (d:=.agg [.int .i64,.int .i64,.int .i64,.int .i64]) (fun cs h=>ty_st h) (xs:=xs) (fun x hx=>by simp only[Ty]; exact hxs x hx)
  simp only[List.cons.injEq,and_true] at hx
  exact⟨l,hx,by simpa using hl⟩
end Go.Abs
set_option linter.unusedVariables false
namespace Go.Abs
open Go
theorem ty_se {cs:List AV} (h:Ty (.agg [.int .i64,.str,.int .i64,.int .i64]) cs):∃ e:Se,cs=seC e∧TS e.1.2:=by
  simp only[Ty,TyL] at h
  obtain ⟨a,b,rfl,⟨n,rfl,_⟩,a',b',rfl,⟨u,rfl,hu⟩,a2,b2,rfl,⟨w,rfl,_⟩,a3,b3,rfl,⟨m,rfl,_⟩,rfl⟩:=h
  exact⟨((n,u),(w,m)),rfl,Nat.le_trans hu (by decide)⟩
theorem ty_ses {c:AV} (h:Ty (.sl 40 (.agg [.int .i64,.str,.int .i64,.int .i64])) [c]):∃ l:List Se,c=.sl 4 (l.map seC)∧l.length*40≤140737488351232∧∀ e∈l,TS e.1.2:=by
  simp only[Ty] at h
  obtain ⟨xs,hx,_,hl,hxs⟩:=h
  obtain ⟨l,rfl,hr⟩:=pH seC (fun e=>TS e.1.2) (d:=.agg [.int .i64,.str,.int .i64,.int .i64]) (fun cs h=>ty_se h) (xs:=xs) (fun x hx=>by simp only[Ty]; exact hxs x hx)
  simp only[List.cons.injEq,and_true] at hx
  exact⟨l,hx,by simpa using hl,hr⟩
theorem er_ne {l:List Se} {k n:Nat} (hk:k<l.length) (h:k≠n):(l.take (k+1)).eraseIdx n=(l.take k).eraseIdx n++[l[k]]:=by
  rw[List.take_succ_eq_append_getElem hk]
  have hl:(l.take k).length=k:=by rw[List.length_take]; omega
  by_cases hn:n<k
  · rw[List.eraseIdx_append_of_lt_length (by omega)]
  · rw[List.eraseIdx_of_length_le (by simp only[List.length_append,List.length_cons,List.length_nil]; omega),List.eraseIdx_of_length_le (by omega)]
theorem er_eq {l:List Se} {k:Nat} (hk:k<l.length):(l.take (k+1)).eraseIdx k=(l.take k).eraseIdx k:=by
  rw[List.take_succ_eq_append_getElem hk]
  have hl:(l.take k).length=k:=by rw[List.length_take]; omega
  rw[List.eraseIdx_append_of_length_le (by omega),hl,Nat.sub_self,List.eraseIdx_of_length_le (show (List.take k l).length≤k by omega)]
  simp
theorem er_end (l:List Se) (n:Nat):l.eraseIdx n=l.take n++l.drop (n+1):=List.eraseIdx_eq_take_drop_succ l n
abbrev nR (l:List Se) (e:Se):List Se:=if sP l e=0 then aCo l e else []
abbrev nT (l:List Se) (n:Int) (u:ByteArray) (st t:Int):List Se:=if gH l n u=0 then aF1 l n st t else []
abbrev nS (l:List Se) (n:Int) (u:ByteArray):List Se:=if gH l n u=0 then aFx l n else []
abbrev aRq (l:List Se) (n:Int) (u:ByteArray):Se:=if gH l n u=0 then aIl l n else se0
abbrev stR (l:List Se) (n:Int) (u:ByteArray) (t:Int):bD:=if gH l n u=0 then eW (aIl l n) t else st0
theorem aJ1 (n st t:Int):∀ l:List Se,(aF1 l n st t).length=l.length
  | []=>rfl
  | e::l=>by rw[aF1]; split <;> simp [aJ1 n st t l]
theorem aJ0 (n:Int):∀ l:List Se,(aFx l n).length≤l.length
  | []=>Nat.le_refl _
  | e::l=>by
    rw[aFx]; split
    · simp
    · have:=aJ0 n l; simp only[List.length_cons]; omega
theorem aEp (l:List Se) (e:Se):(nR l e).length≤l.length+1:=by
  unfold nR; split
  · rw[aCo,zM]; omega
  · simp
theorem aF0 (l:List Se) (n:Int) (u:ByteArray) (st t:Int):(nT l n u st t).length≤l.length:=by
  unfold nT; split
  · rw[aJ1]; omega
  · simp
theorem aFw (l:List Se) (n:Int) (u:ByteArray):(nS l n u).length≤l.length:=by
  unfold nS; split
  · exact aJ0 n l
  · simp
theorem aMr {l:List Se} {n:Int} {u:ByteArray} {k:Nat} (hk:k<l.length) (h1:isN n l[k]=true) (h2:l[k].1.2=u) (h3:∀ (j:Nat) (hj:j<l.length),j<k→isN n l[j]=false):gH l n u=0∧aIl l n=l[k]∧l[k].1=(n,u):=by
  obtain ⟨e1,e2,e3,_⟩:=mC n u 0 0 l k hk h3 h1
  simp only[isN,decide_eq_true_eq] at h1
  exact⟨by rw[e3,if_pos h2],e2,Prod.ext h1 h2⟩
end Go.Abs
set_option linter.unusedVariables false
set_option linter.unusedSimpArgs false
namespace Go.Proofs.YthapfogcaklbbaaGreat
open Go Go.Abs
theorem pY {g:Nat} {cap:List AV} (hent:∀ args w,(callFunc g args).run Tryz.prog w=.ok (.enter g args) w) (hcl:cleanL (fun _=>false) cap=true) (p:Se→Bool) (l:List Se) (hl:l.length≤9223372036854775807) (hp:∀ x∈l,Den Tryz.prog g (.agg (seC x)::cap) (·=.s (.bool (p x)))) :Den Tryz.prog 195 [.sl 4 (l.map seC),.fn g cap]  (·=.s (.int .i64 (nA p l))):=by
 refine aU Tryz.func195 rfl (Nat.le_of_ble_eq_true rfl) (fun w0 A hf=>(aC (fun K1 hK1=>(aB (aE aA 1 rfl (aD (hK1 _ (aC (fun K2 hK2=>(aC (fun K3 hK3=>(aB (aE aA 3 rfl (aD (hK3 _ (aO ?_))))))))))))))))
 refine bR (ι:=Nat) (fun k=>⟨19,[(0,.sl 4 (l.map seC)),(1,.fn g cap),(7,.s (.int .i64 ((l.map seC).length:Nat))),(8,.s (.int .i64 (k:Nat)))],[]⟩) (fun k=>k≤l.length∧∀ (j:Nat) (hj:j<l.length),j<k→p l[j]=false) (fun k=>l.length - k) 0 ?_ ?_ ?_
 · exact⟨by omega,by omega⟩
 · exact cX rfl
 ·
  rintro k hC
  obtain ⟨h1,h2⟩:=hC
  refine aC (fun K4 hK4=>(aB (aE aA 1 rfl (aD (hK4 _ (aC (fun K5 hK5=>(aK rfl (fun hc1=>?_) (fun hc1=>?_)))))))))
  ·
   simp only[bs] at hc1
   refine aN (hK5 _ (aC (fun K6 hK6=>(aO (aC (fun K7 hK7=>(aB (aE aA 2 rfl (aD (hK7 _ (aC (fun K8 hK8=>(aB (aE aA 3 rfl ?_))))))))))))))
   refine aG rfl (bB rfl rfl dR cW (by first | exact ixm (by omega) | assumption | exact⟨by decide,rfl⟩)) ?_
   refine aE aA 1 rfl (aM hf rfl (aQ rfl rfl hent (by rw[fD,hcl]; rfl) (hp _ (List.getElem_mem _))) ?_)
   refine aD (hK8 _ (aK rfl (fun hc2=>?_) (fun hc2=>?_)))
   ·
    refine aC (fun K9 hK9=>(aB (aE aA 2 rfl (aD (hK9 _ (aJ ?_))))))
    refine⟨_,rfl,?_⟩
    refine dZ ?_
    rw[mZ (by omega) h2 (by assumption)]
   ·
    refine aN (hK6 _ (aB ?_))
    refine aG rfl (bO rfl rfl (by omega) (by omega)) ?_
    refine aE aA 1 rfl (aD ?_)
    exact⟨k+1,⟨by omega,fun j hj hjk=>by
      by_cases e:j=k
      · subst e; simp_all
      · exact h2 j hj (by omega)⟩,by omega,cX rfl⟩
  ·
   simp only[bs] at hc1
   refine aW (hK2 _ (aC (fun K10 hK10=>(aB (aE aA 1 rfl (aD (hK10 _ (aJ ?_))))))))
   refine⟨_,rfl,?_⟩
   refine dZ ?_
   rw[oZ (fun j hj=>h2 j hj (by omega))]
theorem wQ {g:Nat} {cap:List AV} (hent:∀ args w,(callFunc g args).run Tryz.prog w=.ok (.enter g args) w) (hcl:cleanL (fun _=>false) cap=true) (hcv:∀ m,convL m cap=cap) (p:Se→Bool) (l:List Se) (n:Nat) (hn:n=l.length) (hl:l.length≤9223372036854775807) (hp:∀ x∈l,Den Tryz.prog g (.agg (seC x)::cap) (·=.s (.bool (p x)))) :DenM Tryz.prog 253 [.own E0 4 0 n,.fn g cap] 4 ((l.map seC)) (fun r ys=>r=.own E0 4 0 (l.filter fun x=>!p x).length∧ys=((l.filter fun x=>!p x).map seC)):=by
 subst hn
 have hq0:∀ j,((l.take j).filter fun x=>!p x).length≤j:=fun j=>gG _ l j
 have hq1:∀ j,((l.take j).filter fun x=>!p x).length≤l.length:=fun j=>fQ _ l j
 refine fI Tryz.func253 rfl (Nat.le_of_ble_eq_true rfl) (fun w0 x0 A hf=>?_)
 refine aC (fun K1 hK1=>(aB (aG rfl (bH) (aD (hK1 _ (aC (fun K2 hK2=>(aB (aE aA 2 rfl (aM hf rfl (pN rfl rfl (by show [AV.conv _ _,AV.fn g (convL _ cap)]=_; rw[hcv,cI (g:=E0) rfl (by simp)]) wK (pY hent hcl p l hl hp) rfl) ?_))))))))))
 refine aE aA 1 rfl (aD (hK2 _ (aC (fun K3 hK3=>(aC (fun K4 hK4=>(aB (aE aA 2 rfl (aD (hK4 _ (aK rfl (fun hc1=>?_) (fun hc1=>?_))))))))))))
 ·
  simp only[bs] at hc1
  refine aC (fun K5 hK5=>(aB (aE aA 2 rfl (aD (hK5 _ (aJ ?_))))))
  have hno:nA p l=-1:=by simpa using hc1
  rcases dM p l with ⟨_,hn⟩ | ⟨k,hk,e,_⟩
  · exact⟨_,.own E0 4 0 l.length,(l.map seC),Le.refl _,rfl,rfl,by rw[fB p l hn],by rw[fB p l hn]⟩
  · exfalso; omega
 ·
  simp only[bs] at hc1
  refine aN (hK3 _ (aC (fun K6 hK6=>(aC (fun K7 hK7=>(aB ?_))))))
  rcases dM p l with ⟨e0,_⟩ | ⟨k0,hk0,ek0,hpk0,hbef⟩
  · exact absurd e0 (by simpa using hc1)
  have hst:=kI (fun x=>!p x) l k0 hk0 (fun j hj hjk=>by simp [hbef j hj hjk]) (by simp [hpk0])
  rw[ek0]
  refine aE aA 1 rfl ?_
  refine aG rfl (bO rfl rfl (by omega) (by omega)) ?_
  refine aE aA 1 rfl (aD (hK7 _ (aO (bR (ι:=Nat) (fun j=>⟨42,[(0,.own E0 4 0 l.length),(1,.fn g cap),(5,.s (.int .i64 (((l.take j).filter fun x=>!p x).length:Nat))),(6,.s (.int .i64 (j:Nat)))],[(E0,.buf 4 ((gS (fun x=>!p x) l j).map seC))]⟩) (fun j=>j≤l.length) (fun j=>l.length - j) (k0+1) ?_ ?_ ?_))))
  · exact hk0
  · rw[hst.1,hst.2]; exact jB ⟨rfl,rfl,rfl,rfl,trivial⟩
  ·
   rintro j hC
   let q:=fun x=>!p x
   have hle:((l.take j).filter q).length≤j:=hq0 j
   have hle2:((l.take j).filter fun x=>!p x).length≤j:=hq0 j
   refine aC (fun K8 hK8=>(aC (fun K9 hK9=>(aB (aE aA 4 rfl (aD (hK9 _ (aK rfl (fun hc2=>?_) (fun hc2=>?_)))))))))
   ·
    simp only[bs] at hc2
    refine aN (hK8 _ (aC (fun K10 hK10=>(aO (aC (fun K11 hK11=>(aB (aE aA 2 rfl ?_))))))))
    refine aG rfl (bN rfl rfl dR cW (by omega)) ?_
    refine aG rfl (bP rfl aLp cW rfl (rL (c:=4) (k:=j) (enc:=seC) (by omega) (by rw[dW]; omega) rfl) (cs':=seC l[j]) (by rw[oS (c:=4) (k:=j) (enc:=seC) (by omega) (by rw[dW]; omega) rfl,pA q l j j (by omega) hle])) ?_
    refine cC hf rfl pC rfl cW rfl rfl rfl rfl (lf rfl) (aD (hK11 _ (aC (fun K12 hK12=>(aB (aE aA 2 rfl (aM hf rfl (aQ rfl rfl hent (by rw[fD,hcl]; rfl) (hp _ (List.getElem_mem _))) ?_)))))))
    refine aE aA 1 rfl (aD (hK12 _ (aK rfl (fun hc3=>?_) (fun hc3=>?_))))
    ·
     simp only[bs] at hc3
     refine aC (fun K13 hK13=>(aB (aE aA 3 rfl ?_)))
     refine aG rfl (bN rfl rfl dR cW (by omega)) ?_
     refine aT hf rfl rfl cW rfl rfl (by simp [seC,AV.cells,AV.one,Value.oneCell',splice]) (by simp [seC,AV.cells,AV.leaf,Value.oneCell',splice]) (gE (c:=4) (k:=((l.take j).filter fun x=>!p x).length) (enc:=seC) (v:=l[j]) (by omega) (by rw[dW]; omega) rfl (Nat.le_refl _)) ?_
     refine aD (hK13 _ (aB ?_))
     rw[jD (fun x=>!p x) l j (by omega) (by simp_all)]
     refine aE aA 1 rfl ?_
     refine aG rfl (bO rfl rfl (by omega) (by omega)) ?_
     rw[lG (fun x=>!p x) l j (by omega) (by simp_all)]
     refine aE aA 1 rfl ?_
     refine bG ?_
     refine hK10 _ (aB (aE aA 1 rfl ?_))
     refine aG rfl (bO rfl rfl (by omega) (by omega)) ?_
     refine aE aA 1 rfl (aD ?_)
     exact⟨j+1,(by omega),by omega,cX rfl⟩
    ·
     simp only[bs] at hc3
     rw[jE (fun x=>!p x) l j (by omega) (by simp_all),lH (fun x=>!p x) l j (by omega) (by simp_all)]
     refine aN (hK10 _ (aB (aE aA 1 rfl ?_)))
     refine aG rfl (bO rfl rfl (by omega) (by omega)) ?_
     refine aE aA 1 rfl (aD ?_)
     exact⟨j+1,(by omega),by omega,cX rfl⟩
   ·
    simp only[bs] at hc2
    refine aW (hK6 _ (aC (fun K14 hK14=>(aB (aE aA 2 rfl ?_)))))
    refine aG rfl (eA rfl dR cW rfl rfl (by omega) (by omega)) ?_
    refine tD hf iU pC (by simp [Value.oneCell']) rfl rfl ?_
    refine aD (hK14 _ (aC (fun K15 hK15=>(aB (aE aA 2 rfl ?_)))))
    refine aG rfl (eA rfl dR cW rfl rfl (by omega) (by omega)) ?_
    refine aE aA 1 rfl (aD (hK15 _ (aJ ?_)))
    have hjl:l.length≤j:=by omega
    have he:=nE (fun x=>!p x) l j hjl
    refine⟨_,_,_,Le.refl _,rfl,rfl,?_,?_⟩
    · rw[List.take_of_length_le hjl]; rfl
    · rw[List.take_of_length_le hjl,Nat.zero_add,Int.toNat_natCast,← List.map_take,he]
theorem fU (l:List Se) (hl:l.length*40≤140737488355328) :DenO Tryz.prog 143 [.sl 4 (l.map seC)] 4 (·=(l.map seC)):=by
 refine eK Tryz.func143 rfl (Nat.le_of_ble_eq_true rfl) (fun w0 A hf=>?_)
 refine aC (fun K1 hK1=>(aB (aG rfl (bH) (aD (hK1 _ (aC (fun K2 hK2=>(aC (fun K3 hK3=>(aB (aE aA 1 rfl ?_)))))))))))
 refine kL rfl rfl rfl dR (fun b hb1=>?_)
 refine aD (hK3 _ (aK rfl (fun hc2=>?_) (fun hc2=>?_)))
 ·
  have hl0:l=[]:=by simpa using hb1 (by assumption)
  refine aC (fun K4 hK4=>(aB (oJ hf 4 rfl rfl rfl (aD (hK4 _ (aJ ?_))))))
  exact⟨2,[],by decide,rfl,rfl,by rw[hl0]; rfl⟩
 ·
  refine aN (hK2 _ (aC (fun K5 hK5=>(aB (gO hf rfl rfl rfl iU rfl rfl rfl rfl (l2 rfl) ?_)))))
  refine aE aA 1 rfl (eF hf rfl iU rfl rfl rfl (.inl rfl) rfl rfl (by first | rfl | simp [kA,bF]) (by first | (simp only[maxLen,List.length_map,List.length_append,List.length_cons,List.length_nil]; omega) | (simp [maxLen] <;> omega)) (by first | (simp only[List.length_map,List.length_append,List.length_cons,List.length_nil]; omega) | (simp <;> omega)) ?_)
  refine cD (iX [7] rfl) (aE aA 1 rfl (aD (hK5 _ (aJ ?_))))
  refine⟨5,(l.map seC),by decide,rfl,?_,rfl⟩
  show some (AV.own 5 4 0 (0+(l.map seC).length))=_
  rw[Nat.zero_add]
theorem aJ7 (n:Nat) (hn:n*40≤140737488355328) :DenO Tryz.prog 250 [.s (.slice none 0 0),.s (.int .i64 (n:Nat))] 4 (·=[]):=by
 refine eK Tryz.func250 rfl (Nat.le_of_ble_eq_true rfl) (fun w0 A hf=>?_)
 refine aC (fun K1 hK1=>(aB (aG rfl (bH) (aD (hK1 _ (aC (fun K2 hK2=>(aC (fun K3 hK3=>(aB (aE aA 2 rfl (aD (hK3 _ (aK rfl (fun hc1=>?_) (fun hc1=>?_)))))))))))))))
 ·
  simp only[bs] at hc1
  omega
 ·
  simp only[bs] at hc1
  refine aN (hK2 _ (aC (fun K4 hK4=>(aC (fun K5 hK5=>(aB (aE aA 2 rfl (aG rfl (jO rfl dR) (aE aA 2 rfl ?_)))))))))
  refine aG rfl (eH rfl rfl (by omega) (by omega)) ?_
  refine aG rfl (eH rfl rfl (by omega) (by omega)) ?_
  refine aE aA 1 rfl (aD (hK5 _ (aC (fun K6 hK6=>(aB (aE aA 2 rfl (aD (hK6 _ (aK rfl (fun hc2=>?_) (fun hc2=>?_))))))))))
  ·
   simp only[bs] at hc2
   refine aB (aE aA 2 rfl (aG rfl (jO rfl dR) ?_))
   refine aG rfl (nV rfl dR cW rfl) ?_
   refine aE aA 1 rfl (rC hf rfl rfl rfl iU Tryz.underlying3 rfl rfl (by omega) (by omega) (by simp only[maxLen]; omega) ?_)
   refine aE aA 2 rfl ?_
   refine aG rfl (eA rfl dR cW rfl rfl (by omega) (by omega)) ?_
   refine aE aA 1 rfl (aD (hK4 _ (aC (fun K7 hK7=>(aB (aE aA 1 rfl ?_))))))
   refine aG rfl (qK rfl) ?_
   refine aD (hK7 _ (aJ ?_))
   exact⟨22,[],by decide,rfl,rfl,rfl⟩
  ·
   simp only[bs] at hc2
   refine aN (hK4 _ (aC (fun K8 hK8=>(aB (aE aA 1 rfl ?_)))))
   refine aCc hf 4 rfl rfl rfl rfl ?_
   refine aD (hK8 _ (aJ ?_))
   exact⟨4,[],by decide,rfl,rfl,rfl⟩
theorem pZ (rows:List (List Se)) (hl:rows.length≤9223372036854775807) (hb:rows.flatten.length*40≤140737488355328) :DenO Tryz.prog 218 [.sl 1 (rows.map fun r=>[AV.sl 4 (r.map seC)])] 4 (·=(rows.flatten.map seC)):=by
 refine eK Tryz.func218 rfl (Nat.le_of_ble_eq_true rfl) (fun w0 A hf=>?_)
 refine aC (fun K1 hK1=>(aB (aG rfl (bH) (aD (hK1 _ (aC (fun K2 hK2=>(aB (aE aA 1 rfl (aD (hK2 _ (aC (fun K3 hK3=>(aC (fun K4 hK4=>(aB ?_))))))))))))))))
 refine aE aA 3 rfl (aD (hK4 _ (aO (bR (ι:=Nat) (fun k=>⟨36,[(0,.sl 1 (rows.map fun r=>[AV.sl 4 (r.map seC)])),(3,.s (.int .i64 ((rows.take k).flatten.length:Nat))),(9,.sl 1 (rows.map fun r=>[AV.sl 4 (r.map seC)])),(10,.s (.int .i64 ((rows.map fun r=>[AV.sl 4 (r.map seC)]).length:Nat))),(11,.s (.int .i64 (k:Nat)))],[]⟩) (fun k=>k≤rows.length) (fun k=>rows.length - k) 0 ?_ ?_ ?_))))
 · exact Nat.zero_le _
 · exact cX rfl
 ·
  rintro k hC
  refine aC (fun K5 hK5=>(aB (aE aA 1 rfl (aD (hK5 _ (aC (fun K6 hK6=>(aK rfl (fun hc1=>?_) (fun hc1=>?_)))))))))
  ·
   simp only[bs] at hc1
   refine aN (hK6 _ (aC (fun K7 hK7=>(aO (aC (fun K8 hK8=>(aB ?_)))))))
   refine aG rfl (bB rfl rfl aB9 lP (by first | exact ixm (by omega) | assumption | exact⟨by decide,rfl⟩)) ?_
   refine aE aA 2 rfl (aD (hK8 _ (aC (fun K9 hK9=>(aB ?_)))))
   have hk:k<rows.length:=by omega
   have e1:=congrArg List.length (fN rows k hk)
   rw[List.length_append] at e1
   have e2:=nX rows (k+1)
   have e3:(rows[k].map seC).length=rows[k].length:=List.length_map _
   refine aE aA 3 rfl ?_
   refine aG rfl (bO rfl rfl (by omega) (by omega)) ?_
   rw[show ((((rows.take k).flatten.length:Nat):Int)+(((rows[k].map seC).length:Nat):Int))=(((rows.take (k+1)).flatten.length:Nat):Int) from by omega]
   refine aE aA 1 rfl (aD (hK9 _ (aC (fun K10 hK10=>(aB (aE aA 2 rfl (aD (hK10 _ (aK rfl (fun hc2=>?_) (fun hc2=>?_))))))))))
   ·
    simp only[bs] at hc2
    omega
   ·
    simp only[bs] at hc2
    refine aN (hK7 _ (aB ?_))
    refine aG rfl (bO rfl rfl (by omega) (by omega)) ?_
    refine aE aA 1 rfl (aD ?_)
    exact⟨k+1,(by omega),by omega,cX rfl⟩
  ·
   simp only[bs] at hc1
   refine aW (hK3 _ (aC (fun K11 hK11=>(aB ?_))))
   rw[List.take_of_length_le (show rows.length≤k by omega)]
   refine aE aA 1 rfl (fR hf rfl rfl rfl rfl rfl aGp rfl (aJ7 rows.flatten.length (by omega)) ?_)
   rintro _ rfl
   refine aE aA 1 rfl (aD (hK11 _ (aC (fun K12 hK12=>(aC (fun K13 hK13=>(aB (aE aA 3 rfl (aD (hK13 _ (aO (bR (ι:=Nat) (fun j=>⟨36,[(6,.own 24 4 0 (rows.take j).flatten.length),(25,.sl 1 (rows.map fun r=>[AV.sl 4 (r.map seC)])),(26,.s (.int .i64 ((rows.map fun r=>[AV.sl 4 (r.map seC)]).length:Nat))),(27,.s (.int .i64 (j:Nat)))],[(24,.buf 4 ((rows.take j).flatten.map seC))]⟩) (fun j=>j≤rows.length) (fun j=>rows.length - j) 0 ?_ ?_ ?_))))))))))))
   · exact Nat.zero_le _
   · exact cX rfl
   ·
    rintro j hC
    refine aC (fun K14 hK14=>(aB (aE aA 1 rfl (aD (hK14 _ (aC (fun K15 hK15=>(aK rfl (fun hc3=>?_) (fun hc3=>?_)))))))))
    ·
     simp only[bs] at hc3
     refine aN (hK15 _ (aC (fun K16 hK16=>(aO (aC (fun K17 hK17=>(aB ?_)))))))
     refine aG rfl (bB rfl rfl aB9 lP (by first | exact ixm (by omega) | assumption | exact⟨by decide,rfl⟩)) ?_
     refine aE aA 2 rfl (aD (hK17 _ (aB ?_)))
     have hj:j<rows.length:=by omega
     have e1:=congrArg List.length (fN rows j hj)
     rw[List.length_append] at e1
     have e2:=nX rows (j+1)
     have e3:(rows[j].map seC).length=rows[j].length:=List.length_map _
     refine aE aA 2 rfl (eF hf rfl iU rfl rfl rfl (.inl rfl) (by simp only[List.length_map]) rfl (by first | rfl | simp [kA,bF]) (by first | (simp only[maxLen,List.length_map,List.length_append,List.length_cons,List.length_nil]; omega) | (simp [maxLen] <;> omega)) (by first | (simp only[List.length_map,List.length_append,List.length_cons,List.length_nil]; omega) | (simp <;> omega)) ?_)
     refine cD (iX [25,26,27,33] rfl) ?_
     rw[show (rows.take j).flatten.length+(rows[j].map seC).length=(rows.take (j+1)).flatten.length from by omega,← List.map_append,← fN rows j hj]
     refine aE aA 1 rfl ?_
     refine bG ?_
     refine hK16 _ (aB ?_)
     refine aG rfl (bO rfl rfl (by omega) (by omega)) ?_
     refine aE aA 1 rfl (aD ?_)
     exact⟨j+1,(by omega),by omega,cX rfl⟩
    ·
     simp only[bs] at hc3
     refine aW (hK12 _ (aC (fun K18 hK18=>(aB (aE aA 2 rfl (aD (hK18 _ (aJ ?_))))))))
     refine⟨24,(rows.flatten.map seC),by decide,?_,?_,rfl⟩
     · rw[List.take_of_length_le (show rows.length≤j by omega)]; rfl
     · rw[List.take_of_length_le (show rows.length≤j by omega)]
       show some (AV.own 24 4 0 rows.flatten.length)=_
       rw[List.length_map]
theorem sG (e:Se) (t:Int) :Den Tryz.prog 161 [.agg (seC e),.s (.int .i64 t)]  (·=.agg (stC (eW e t))):=by
 refine aU Tryz.func161 rfl (Nat.le_of_ble_eq_true rfl) (fun w0 A hf=>(aC (fun K1 hK1=>(aB (aM hf rfl (cP rfl rfl (lf rfl)) (bJ hf rfl rfl rfl dP (aD (hK1 _ (aC (fun K2 hK2=>(aB (aE aA 3 rfl (aG rfl (cS rfl uG rQ (l3 rfl) rfl) (aE aA 4 rfl (aG rfl (cS rfl dP pT (l3 rfl) rfl) ?_)))))))))))))))
 refine aT hf rfl rfl aS rfl rfl (l1 rfl) (l4 rfl) rfl (aD (hK2 _ (aJ ?_)))
 refine⟨_,rfl,?_⟩
 rfl
theorem aN2 (e:Se) (t:Int) :Den Tryz.prog 163 [.agg (seC e),.s (.int .i64 t)]  (·=.agg (stC (eW e t))):=by
 refine aU Tryz.func163 rfl (Nat.le_of_ble_eq_true rfl) (fun w0 A hf=>(aC (fun K1 hK1=>(aB (aM hf rfl (cP rfl rfl (lf rfl)) (bJ hf rfl rfl rfl aB6 (aD (hK1 _ (aC (fun K2 hK2=>(aB (aE aA 7 rfl (aG rfl (cS rfl aB6 aN0 (l3 rfl) rfl) (aT hf rfl rfl jW rfl rfl (l1 rfl) (l4 rfl) rfl (aD ?_)))))))))))))))
 refine hK2 _ (aJ ?_)
 refine⟨_,rfl,?_⟩
 rfl
theorem aKq (x e:Se) :Den Tryz.prog 217 [.agg (seC x),.adr (seC e)]  (·=.s (.bool (kR e.1.1 x))):=by
 refine aU Tryz.func217 rfl (Nat.le_of_ble_eq_true rfl) (fun w0 A hf=>(aC (fun K1 hK1=>(aB (aM hf rfl (cP rfl rfl (lf rfl)) (aE aA 1 rfl (aD (hK1 _ (aC (fun K2 hK2=>(aB (aE aA 6 rfl (aD (hK2 _ (aJ ?_)))))))))))))))
 refine⟨_,rfl,?_⟩
 rfl
theorem wS (e:Se) (u:ByteArray) :Den Tryz.prog 254 [.agg (seC e),.adr [.s (.string u)]]  (·=.s (.bool (rW u e))):=by
 refine aU Tryz.func254 rfl (Nat.le_of_ble_eq_true rfl) (fun w0 A hf=>(aC (fun K1 hK1=>(aB (aM hf rfl (cP rfl rfl (lf rfl)) (aE aA 1 rfl (aD (hK1 _ (aC (fun K2 hK2=>(aB (aE aA 5 rfl (aD (hK2 _ (aJ ?_)))))))))))))))
 refine⟨_,rfl,?_⟩
 refine aP ?_
 unfold rW
 rw[Bool.eq_iff_iff]
 simp_all[toList_inj]
theorem aAd (l:List Se) (n:Int) (u:ByteArray) (hl:l.length≤9223372036854775807) :Den Tryz.prog 216 [.sl 4 (l.map seC),.s (.int .i64 n),.s (.string u)]  (·=.tup [.s (.int .i64 (atK l n:Nat)),.s (.int .i64 (gH l n u))]):=by
 refine aU Tryz.func216 rfl (Nat.le_of_ble_eq_true rfl) (fun w0 A hf=>(aC (fun K1 hK1=>(aB (aE aA 2 rfl (aD (hK1 _ (aM2 (aC (fun K2 hK2=>(aM4 (hK2 _ (aC (fun K3 hK3=>(aC (fun K4 hK4=>(aB ?_)))))))))))))))))
 refine aE aA 3 rfl (aD (hK4 _ (aO (bR (ι:=Nat) (fun k=>⟨32,[(0,.sl 4 (l.map seC)),(1,.s (.int .i64 n)),(2,.s (.string u)),(10,.sl 4 (l.map seC)),(11,.s (.int .i64 ((l.map seC).length:Nat))),(12,.s (.int .i64 (k:Nat)))],[]⟩) (fun k=>k≤l.length∧∀ (j:Nat) (hj:j<l.length),j<k→isN n l[j]=false) (fun k=>l.length - k) 0 ?_ ?_ ?_))))
 · exact⟨Nat.zero_le _,by omega⟩
 · exact cX rfl
 ·
  rintro k hC
  obtain ⟨h1,h2⟩:=hC
  refine aC (fun K5 hK5=>(aB (aE aA 1 rfl (aD (hK5 _ (aC (fun K6 hK6=>(aK rfl (fun hc1=>?_) (fun hc1=>?_)))))))))
  ·
   simp only[bs] at hc1
   refine aN (hK6 _ (aC (fun K7 hK7=>(aO (aC (fun K8 hK8=>(aB (aE aA 1 rfl ?_))))))))
   refine aG rfl (bB rfl rfl dR cW (by first | exact ixm (by omega) | assumption | exact⟨by decide,rfl⟩)) ?_
   refine aE aA 1 rfl (bJ hf rfl rfl rfl pC (aE aA 1 rfl (aT hf rfl rfl cW rfl rfl (l1 rfl) (l4 rfl) rfl (cD (xI (nee 9) (sl':=[(0,_),(1,_),(2,_),(8,_),(9,_),(10,_),(11,_),(12,_)]) (m':=[]) ⟨⟨_,rfl,rfl⟩,⟨_,rfl,rfl⟩,⟨_,rfl,rfl⟩,⟨_,rfl,rfl⟩,⟨_,rfl,rfl⟩,⟨_,rfl,rfl⟩,⟨_,rfl,rfl⟩,⟨_,rfl,rfl⟩,trivial⟩ rfl) (aD (hK8 _ (aC (fun K9 hK9=>(aO (aC (fun K10 hK10=>(aB (aE aA 5 rfl (aD ?_))))))))))))))
   refine hK10 _ (aK rfl (fun hc2=>?_) (fun hc2=>?_))
   ·
    simp only[bs] at hc2
    refine aW (hK7 _ (aB ?_))
    refine aG rfl (bO rfl rfl (by omega) (by omega)) ?_
    refine aE aA 1 rfl (aD ?_)
    exact⟨k+1,⟨by omega,fun j hj hjk=>by
     by_cases e:j=k
     · subst e; simp_all[isN]
     · exact h2 j hj (by omega)⟩,by omega,cX rfl⟩
   ·
    simp only[bs] at hc2
    obtain ⟨e1,_,e3,_⟩:=mC n u 0 0 l k (by omega) h2 (by simp_all[isN])
    refine aC (fun K11 hK11=>(aB (aE aA 5 rfl (aD (hK11 _ (aK rfl (fun hc3=>?_) (fun hc3=>?_)))))))
    ·
     simp only[bs] at hc3
     refine aC (fun K12 hK12=>(aB (aE aA 3 rfl (aD (hK12 _ (aJ ?_))))))
     refine⟨_,rfl,?_⟩
     rw[e1,e3,if_neg (by simp_all[toList_inj])]; rfl
    ·
     simp only[bs] at hc3
     refine aN (hK9 _ (aC (fun K13 hK13=>(aB (aE aA 3 rfl (aD (hK13 _ (aJ ?_))))))))
     refine⟨_,rfl,?_⟩
     rw[e1,e3,if_pos (by simp_all[toList_inj])]; rfl
  ·
   simp only[bs] at hc1
   refine aW (hK3 _ (aC (fun K14 hK14=>(aB (aE aA 4 rfl (aD (hK14 _ (aJ ?_))))))))
   refine⟨_,rfl,?_⟩
   obtain ⟨e1,e2,_⟩:=aDc n u l (fun j hj=>h2 j hj (by omega))
   rw[e1,e2,List.length_map]; rfl
theorem aPs (l:List Se) (n:Int) (hl:l.length≤9223372036854775807) :Den Tryz.prog 236 [.sl 4 (l.map seC),.s (.int .i64 n)]  (·=.s (.int .i64 (nA (isN n) l))):=by
 refine aU Tryz.func236 rfl (Nat.le_of_ble_eq_true rfl) (fun w0 A hf=>(aC (fun K1 hK1=>(aB (aE aA 1 rfl (aD (hK1 _ (aC (fun K2 hK2=>(aC (fun K3 hK3=>(aB (aE aA 1 rfl (aD (hK3 _ (aO ?_))))))))))))))))
 refine bR (ι:=Nat) (fun k=>⟨20,[(0,.sl 4 (l.map seC)),(1,.s (.int .i64 n)),(5,.s (.int .i64 (k:Nat)))],[]⟩) (fun k=>k≤l.length∧∀ (j:Nat) (hj:j<l.length),j<k→isN n l[j]=false) (fun k=>l.length - k) 0 ?_ ?_ ?_
 · exact⟨Nat.zero_le _,by omega⟩
 · exact cX rfl
 ·
  rintro k hC
  obtain ⟨h1,h2⟩:=hC
  refine aC (fun K4 hK4=>(aC (fun K5 hK5=>(aB (aE aA 4 rfl (aD (hK5 _ (aK rfl (fun hc1=>?_) (fun hc1=>?_)))))))))
  ·
   simp only[bs] at hc1
   refine aN (hK4 _ (aC (fun K6 hK6=>(aO (aC (fun K7 hK7=>(aB (aE aA 2 rfl ?_))))))))
   refine aG rfl (bB rfl rfl pE jV (by first | exact ixm (by omega) | assumption | exact⟨by decide,rfl⟩)) ?_
   refine aE aA 4 rfl (aD (hK7 _ (aK rfl (fun hc2=>?_) (fun hc2=>?_))))
   ·
    simp only[bs] at hc2
    refine aC (fun K8 hK8=>(aB (aE aA 2 rfl (aD (hK8 _ (aJ ?_))))))
    refine⟨_,rfl,?_⟩
    refine dZ ?_
    rw[mZ (by omega) h2 (by simp_all[isN])]
   ·
    simp only[bs] at hc2
    refine aN (hK6 _ (aB (aE aA 1 rfl ?_)))
    refine aG rfl (bO rfl rfl (by omega) (by omega)) ?_
    refine aE aA 1 rfl (aD ?_)
    exact⟨k+1,⟨by omega,fun j hj hjk=>by
     by_cases e:j=k
     · subst e; simp_all[isN]
     · exact h2 j hj (by omega)⟩,by omega,cX rfl⟩
  ·
   simp only[bs] at hc1
   refine aW (hK2 _ (aC (fun K9 hK9=>(aB (aE aA 1 rfl (aD (hK9 _ (aJ ?_))))))))
   refine⟨_,rfl,?_⟩
   refine dZ ?_
   rw[oZ (fun j hj=>h2 j hj (by omega))]
end Go.Proofs.YthapfogcaklbbaaGreat
set_option linter.unusedVariables false
set_option linter.unusedSimpArgs false
namespace Go.Proofs.YthapfogcaklbbaaGreat
open Go Go.Abs
end Go.Proofs.YthapfogcaklbbaaGreat
set_option linter.unusedVariables false
set_option linter.unusedSimpArgs false
namespace Go.Proofs.YthapfogcaklbbaaGreat
open Go Go.Abs
end Go.Proofs.YthapfogcaklbbaaGreat
set_option linter.unusedVariables false
set_option linter.unusedSimpArgs false
namespace Go.Proofs.YthapfogcaklbbaaGreat
open Go Go.Abs
end Go.Proofs.YthapfogcaklbbaaGreat
set_option linter.unusedVariables false
set_option linter.unusedSimpArgs false
namespace Go.Proofs.YthapfogcaklbbaaGreat.Nm
open Go Go.Abs
theorem pairCmp_den (a b c d:ByteArray) :Den Tryz.prog 235 [.agg [.s (.string a),.s (.string b)],.agg [.s (.string c),.s (.string d)]]  (·=.s (.int .i64 (rK a b c d))):=by
 refine aU Tryz.func235 rfl (Nat.le_of_ble_eq_true rfl) (fun w0 A hf=>(aC (fun K1 hK1=>(aB (aM hf rfl (cP rfl rfl (lf rfl)) (aM hf rfl (cP rfl rfl (lf rfl)) (aE aA 1 rfl (aD (hK1 _ (aC (fun K2 hK2=>(eB hf bI (by kernel_rfl) rfl (aX aA 4 rfl (bT [(6,_),(8,_)] rfl rfl ⟨⟨rfl,rfl⟩,⟨rfl,rfl⟩,trivial⟩ rfl (aQ rfl rfl oC rfl (cmp_den _ _)) (aX aA 4 rfl ?_)))))))))))))))
 refine bT [(11,_),(13,_)] rfl rfl ⟨⟨rfl,rfl⟩,⟨rfl,rfl⟩,trivial⟩ rfl (aQ rfl rfl oC rfl (cmp_den _ _)) (bT [(9,_),(14,_)] rfl rfl ⟨⟨rfl,rfl⟩,⟨rfl,rfl⟩,trivial⟩ rfl (bE tC rfl rfl rfl rfl (l2 rfl)) (bT [(15,_)] rfl rfl ⟨⟨rfl,rfl⟩,trivial⟩ rfl (aQ rfl rfl qZ rfl (or_den [_,_] (by simp))) ?_))
 refine aX aA 1 rfl (eE [4] rfl rfl rfl (hK2 _ (aJ ?_)))
 refine⟨_,rfl,?_⟩
 rfl
theorem pairHas_den (a b s:ByteArray) :Den Tryz.prog 256 [.agg [.s (.string a),.s (.string b)],.s (.string s)]  (·=.s (.bool (tQ a b s))):=by
 refine aU Tryz.func256 rfl (Nat.le_of_ble_eq_true rfl) (fun w0 A hf=>(aC (fun K1 hK1=>(aB (aM hf rfl (cP rfl rfl (lf rfl)) (aE aA 1 rfl (aD (hK1 _ (aC (fun K2 hK2=>(aB (aE aA 5 rfl (aV rfl rfl rfl (fun hg1=>?_) (fun hg1=>?_))))))))))))))
 ·
  simp only[bs,gB,eD,List.length_cons,List.length_nil] at hg1
  refine aG rfl (bQ rfl aGa bS rfl) ?_
  refine aE aA 5 rfl (aD (hK2 _ (aJ ?_)))
  refine⟨_,rfl,?_⟩
  refine aP ?_
  unfold tQ
  rw[Bool.eq_iff_iff]
  simp only[Bool.or_eq_true,decide_eq_true_eq,← toList_inj,beq_iff_eq,true_iff]
  simp_all
 ·
  simp only[bs,gB,eD,List.length_cons,List.length_nil] at hg1
  refine aE aA 5 rfl (aD (hK2 _ (aJ ?_)))
  refine⟨_,rfl,?_⟩
  refine aP ?_
  unfold tQ
  rw[Bool.eq_iff_iff]
  simp only[Bool.or_eq_true,decide_eq_true_eq,← toList_inj,beq_iff_eq,true_iff]
  simp_all
end Go.Proofs.YthapfogcaklbbaaGreat.Nm
set_option linter.unusedVariables false
set_option linter.unusedSimpArgs false
namespace Go.Proofs.YthapfogcaklbbaaGreat
open Go Go.Abs
theorem nC {g:Nat} {cap:List AV} (hent:∀ args w,(callFunc g args).run Tryz.prog w=.ok (.enter g args) w) (hcl:cleanL (fun _=>false) cap=true) (p:En→Bool) (l:List En) (hl:l.length≤9223372036854775807) (hp:∀ x∈l,Den Tryz.prog g (.agg (enC x)::cap) (·=.s (.bool (p x)))) :Den Tryz.prog 200 [.sl 4 (l.map enC),.fn g cap]  (·=.s (.int .i64 (nA p l))):=by
 refine aU Tryz.func200 rfl (Nat.le_of_ble_eq_true rfl) (fun w0 A hf=>(aC (fun K1 hK1=>(aB (aE aA 1 rfl (aD (hK1 _ (aC (fun K2 hK2=>(aC (fun K3 hK3=>(aB (aE aA 3 rfl (aD (hK3 _ (aO ?_))))))))))))))))
 refine bR (ι:=Nat) (fun k=>⟨19,[(0,.sl 4 (l.map enC)),(1,.fn g cap),(7,.s (.int .i64 ((l.map enC).length:Nat))),(8,.s (.int .i64 (k:Nat)))],[]⟩) (fun k=>k≤l.length∧∀ (j:Nat) (hj:j<l.length),j<k→p l[j]=false) (fun k=>l.length - k) 0 ?_ ?_ ?_
 · exact⟨by omega,by omega⟩
 · exact cX rfl
 ·
  rintro k hC
  obtain ⟨h1,h2⟩:=hC
  refine aC (fun K4 hK4=>(aB (aE aA 1 rfl (aD (hK4 _ (aC (fun K5 hK5=>(aK rfl (fun hc1=>?_) (fun hc1=>?_)))))))))
  ·
   simp only[bs] at hc1
   refine aN (hK5 _ (aC (fun K6 hK6=>(aO (aC (fun K7 hK7=>(aB (aE aA 2 rfl (aD (hK7 _ (aC (fun K8 hK8=>(aB (aE aA 3 rfl ?_))))))))))))))
   refine aG rfl (bB rfl rfl eY eC (by first | exact ixm (by omega) | assumption | exact⟨by decide,rfl⟩)) ?_
   refine aE aA 1 rfl (aM hf rfl (aQ rfl rfl hent (by rw[fD,hcl]; rfl) (hp _ (List.getElem_mem _))) ?_)
   refine aD (hK8 _ (aK rfl (fun hc2=>?_) (fun hc2=>?_)))
   ·
    refine aC (fun K9 hK9=>(aB (aE aA 2 rfl (aD (hK9 _ (aJ ?_))))))
    refine⟨_,rfl,?_⟩
    refine dZ ?_
    rw[mZ (by omega) h2 (by assumption)]
   ·
    refine aN (hK6 _ (aB ?_))
    refine aG rfl (bO rfl rfl (by omega) (by omega)) ?_
    refine aE aA 1 rfl (aD ?_)
    exact⟨k+1,⟨by omega,fun j hj hjk=>by
      by_cases e:j=k
      · subst e; simp_all
      · exact h2 j hj (by omega)⟩,by omega,cX rfl⟩
  ·
   simp only[bs] at hc1
   refine aW (hK2 _ (aC (fun K10 hK10=>(aB (aE aA 1 rfl (aD (hK10 _ (aJ ?_))))))))
   refine⟨_,rfl,?_⟩
   refine dZ ?_
   rw[oZ (fun j hj=>h2 j hj (by omega))]
theorem xC {g:Nat} {cap:List AV} (hent:∀ args w,(callFunc g args).run Tryz.prog w=.ok (.enter g args) w) (hcl:cleanL (fun _=>false) cap=true) (hcv:∀ m,convL m cap=cap) (p:En→Bool) (l:List En) (n:Nat) (hn:n=l.length) (hl:l.length≤9223372036854775807) (hp:∀ x∈l,Den Tryz.prog g (.agg (enC x)::cap) (·=.s (.bool (p x)))) :DenM Tryz.prog 192 [.own E0 4 0 n,.fn g cap] 4 ((l.map enC)) (fun r ys=>r=.own E0 4 0 (l.filter fun x=>!p x).length∧ys=((l.filter fun x=>!p x).map enC)):=by
 subst hn
 have hq0:∀ j,((l.take j).filter fun x=>!p x).length≤j:=fun j=>gG _ l j
 have hq1:∀ j,((l.take j).filter fun x=>!p x).length≤l.length:=fun j=>fQ _ l j
 refine fI Tryz.func192 rfl (Nat.le_of_ble_eq_true rfl) (fun w0 x0 A hf=>?_)
 refine aC (fun K1 hK1=>(aB (aG rfl (bH) (aD (hK1 _ (aC (fun K2 hK2=>(aB (aE aA 2 rfl (aM hf rfl (pN rfl rfl (by show [AV.conv _ _,AV.fn g (convL _ cap)]=_; rw[hcv,cI (g:=E0) rfl (by simp)]) qY (nC hent hcl p l hl hp) rfl) ?_))))))))))
 refine aE aA 1 rfl (aD (hK2 _ (aC (fun K3 hK3=>(aC (fun K4 hK4=>(aB (aE aA 2 rfl (aD (hK4 _ (aK rfl (fun hc1=>?_) (fun hc1=>?_))))))))))))
 ·
  simp only[bs] at hc1
  refine aC (fun K5 hK5=>(aB (aE aA 2 rfl (aD (hK5 _ (aJ ?_))))))
  have hno:nA p l=-1:=by simpa using hc1
  rcases dM p l with ⟨_,hn⟩ | ⟨k,hk,e,_⟩
  · exact⟨_,.own E0 4 0 l.length,(l.map enC),Le.refl _,rfl,rfl,by rw[fB p l hn],by rw[fB p l hn]⟩
  · exfalso; omega
 ·
  simp only[bs] at hc1
  refine aN (hK3 _ (aC (fun K6 hK6=>(aC (fun K7 hK7=>(aB ?_))))))
  rcases dM p l with ⟨e0,_⟩ | ⟨k0,hk0,ek0,hpk0,hbef⟩
  · exact absurd e0 (by simpa using hc1)
  have hst:=kI (fun x=>!p x) l k0 hk0 (fun j hj hjk=>by simp [hbef j hj hjk]) (by simp [hpk0])
  rw[ek0]
  refine aE aA 1 rfl ?_
  refine aG rfl (bO rfl rfl (by omega) (by omega)) ?_
  refine aE aA 1 rfl (aD (hK7 _ (aO (bR (ι:=Nat) (fun j=>⟨42,[(0,.own E0 4 0 l.length),(1,.fn g cap),(5,.s (.int .i64 (((l.take j).filter fun x=>!p x).length:Nat))),(6,.s (.int .i64 (j:Nat)))],[(E0,.buf 4 ((gS (fun x=>!p x) l j).map enC))]⟩) (fun j=>j≤l.length) (fun j=>l.length - j) (k0+1) ?_ ?_ ?_))))
  · exact hk0
  · rw[hst.1,hst.2]; exact jB ⟨rfl,rfl,rfl,rfl,trivial⟩
  ·
   rintro j hC
   let q:=fun x=>!p x
   have hle:((l.take j).filter q).length≤j:=hq0 j
   have hle2:((l.take j).filter fun x=>!p x).length≤j:=hq0 j
   refine aC (fun K8 hK8=>(aC (fun K9 hK9=>(aB (aE aA 4 rfl (aD (hK9 _ (aK rfl (fun hc2=>?_) (fun hc2=>?_)))))))))
   ·
    simp only[bs] at hc2
    refine aN (hK8 _ (aC (fun K10 hK10=>(aO (aC (fun K11 hK11=>(aB (aE aA 2 rfl ?_))))))))
    refine aG rfl (bN rfl rfl eY eC (by omega)) ?_
    refine aG rfl (bP rfl aLq eC rfl (rL (c:=4) (k:=j) (enc:=enC) (by omega) (by rw[dW]; omega) rfl) (cs':=enC l[j]) (by rw[oS (c:=4) (k:=j) (enc:=enC) (by omega) (by rw[dW]; omega) rfl,pA q l j j (by omega) hle])) ?_
    refine cC hf rfl kS rfl eC rfl rfl rfl rfl (lf rfl) (aD (hK11 _ (aC (fun K12 hK12=>(aB (aE aA 2 rfl (aM hf rfl (aQ rfl rfl hent (by rw[fD,hcl]; rfl) (hp _ (List.getElem_mem _))) ?_)))))))
    refine aE aA 1 rfl (aD (hK12 _ (aK rfl (fun hc3=>?_) (fun hc3=>?_))))
    ·
     simp only[bs] at hc3
     refine aC (fun K13 hK13=>(aB (aE aA 3 rfl ?_)))
     refine aG rfl (bN rfl rfl eY eC (by omega)) ?_
     refine aT hf rfl rfl eC rfl rfl (by simp [enC,AV.cells,AV.one,Value.oneCell',splice]) (by simp [enC,AV.cells,AV.leaf,Value.oneCell',splice]) (gE (c:=4) (k:=((l.take j).filter fun x=>!p x).length) (enc:=enC) (v:=l[j]) (by omega) (by rw[dW]; omega) rfl (Nat.le_refl _)) ?_
     refine aD (hK13 _ (aB ?_))
     rw[jD (fun x=>!p x) l j (by omega) (by simp_all)]
     refine aE aA 1 rfl ?_
     refine aG rfl (bO rfl rfl (by omega) (by omega)) ?_
     rw[lG (fun x=>!p x) l j (by omega) (by simp_all)]
     refine aE aA 1 rfl ?_
     refine bG ?_
     refine hK10 _ (aB (aE aA 1 rfl ?_))
     refine aG rfl (bO rfl rfl (by omega) (by omega)) ?_
     refine aE aA 1 rfl (aD ?_)
     exact⟨j+1,(by omega),by omega,cX rfl⟩
    ·
     simp only[bs] at hc3
     rw[jE (fun x=>!p x) l j (by omega) (by simp_all),lH (fun x=>!p x) l j (by omega) (by simp_all)]
     refine aN (hK10 _ (aB (aE aA 1 rfl ?_)))
     refine aG rfl (bO rfl rfl (by omega) (by omega)) ?_
     refine aE aA 1 rfl (aD ?_)
     exact⟨j+1,(by omega),by omega,cX rfl⟩
   ·
    simp only[bs] at hc2
    refine aW (hK6 _ (aC (fun K14 hK14=>(aB (aE aA 2 rfl ?_)))))
    refine aG rfl (eA rfl eY eC rfl rfl (by omega) (by omega)) ?_
    refine tD hf aTo kS (by simp [Value.oneCell']) rfl rfl ?_
    refine aD (hK14 _ (aC (fun K15 hK15=>(aB (aE aA 2 rfl ?_)))))
    refine aG rfl (eA rfl eY eC rfl rfl (by omega) (by omega)) ?_
    refine aE aA 1 rfl (aD (hK15 _ (aJ ?_)))
    have hjl:l.length≤j:=by omega
    have he:=nE (fun x=>!p x) l j hjl
    refine⟨_,_,_,Le.refl _,rfl,rfl,?_,?_⟩
    · rw[List.take_of_length_le hjl]; rfl
    · rw[List.take_of_length_le hjl,Nat.zero_add,Int.toNat_natCast,← List.map_take,he]
theorem nD (l:List En) (hl:l.length*48≤140737488355328) :DenO Tryz.prog 145 [.sl 4 (l.map enC)] 4 (·=(l.map enC)):=by
 refine eK Tryz.func145 rfl (Nat.le_of_ble_eq_true rfl) (fun w0 A hf=>?_)
 refine aC (fun K1 hK1=>(aB (aG rfl (bH) (aD (hK1 _ (aC (fun K2 hK2=>(aC (fun K3 hK3=>(aB (aE aA 1 rfl ?_)))))))))))
 refine kL rfl rfl rfl eY (fun b hb1=>?_)
 refine aD (hK3 _ (aK rfl (fun hc2=>?_) (fun hc2=>?_)))
 ·
  have hl0:l=[]:=by simpa using hb1 (by assumption)
  refine aC (fun K4 hK4=>(aB (oJ hf 4 rfl rfl rfl (aD (hK4 _ (aJ ?_))))))
  exact⟨2,[],by decide,rfl,rfl,by rw[hl0]; rfl⟩
 ·
  refine aN (hK2 _ (aC (fun K5 hK5=>(aB (gO hf rfl rfl rfl aTo rfl rfl rfl rfl (l2 rfl) ?_)))))
  refine aE aA 1 rfl (eF hf rfl aTo rfl rfl rfl (.inl rfl) rfl rfl (by first | rfl | simp [kA,bF]) (by first | (simp only[maxLen,List.length_map,List.length_append,List.length_cons,List.length_nil]; omega) | (simp [maxLen] <;> omega)) (by first | (simp only[List.length_map,List.length_append,List.length_cons,List.length_nil]; omega) | (simp <;> omega)) ?_)
  refine cD (iX [7] rfl) (aE aA 1 rfl (aD (hK5 _ (aJ ?_))))
  refine⟨5,(l.map enC),by decide,rfl,?_,rfl⟩
  show some (AV.own 5 4 0 (0+(l.map enC).length))=_
  rw[Nat.zero_add]
theorem aK6 (n:Nat) (hn:n*48≤140737488355328) :DenO Tryz.prog 251 [.s (.slice none 0 0),.s (.int .i64 (n:Nat))] 4 (·=[]):=by
 refine eK Tryz.func251 rfl (Nat.le_of_ble_eq_true rfl) (fun w0 A hf=>?_)
 refine aC (fun K1 hK1=>(aB (aG rfl (bH) (aD (hK1 _ (aC (fun K2 hK2=>(aC (fun K3 hK3=>(aB (aE aA 2 rfl (aD (hK3 _ (aK rfl (fun hc1=>?_) (fun hc1=>?_)))))))))))))))
 ·
  simp only[bs] at hc1
  omega
 ·
  simp only[bs] at hc1
  refine aN (hK2 _ (aC (fun K4 hK4=>(aC (fun K5 hK5=>(aB (aE aA 2 rfl (aG rfl (jO rfl eY) (aE aA 2 rfl ?_)))))))))
  refine aG rfl (eH rfl rfl (by omega) (by omega)) ?_
  refine aG rfl (eH rfl rfl (by omega) (by omega)) ?_
  refine aE aA 1 rfl (aD (hK5 _ (aC (fun K6 hK6=>(aB (aE aA 2 rfl (aD (hK6 _ (aK rfl (fun hc2=>?_) (fun hc2=>?_))))))))))
  ·
   simp only[bs] at hc2
   refine aB (aE aA 2 rfl (aG rfl (jO rfl eY) ?_))
   refine aG rfl (nV rfl eY eC rfl) ?_
   refine aE aA 1 rfl (rC hf rfl rfl rfl aTo Tryz.underlying3 rfl rfl (by omega) (by omega) (by simp only[maxLen]; omega) ?_)
   refine aE aA 2 rfl ?_
   refine aG rfl (eA rfl eY eC rfl rfl (by omega) (by omega)) ?_
   refine aE aA 1 rfl (aD (hK4 _ (aC (fun K7 hK7=>(aB (aE aA 1 rfl ?_))))))
   refine aG rfl (qK rfl) ?_
   refine aD (hK7 _ (aJ ?_))
   exact⟨22,[],by decide,rfl,rfl,rfl⟩
  ·
   simp only[bs] at hc2
   refine aN (hK4 _ (aC (fun K8 hK8=>(aB (aE aA 1 rfl ?_)))))
   refine aCc hf 4 rfl rfl rfl rfl ?_
   refine aD (hK8 _ (aJ ?_))
   exact⟨4,[],by decide,rfl,rfl,rfl⟩
theorem vZ (rows:List (List En)) (hl:rows.length≤9223372036854775807) (hb:rows.flatten.length*48≤140737488355328) :DenO Tryz.prog 221 [.sl 1 (rows.map fun r=>[AV.sl 4 (r.map enC)])] 4 (·=(rows.flatten.map enC)):=by
 refine eK Tryz.func221 rfl (Nat.le_of_ble_eq_true rfl) (fun w0 A hf=>?_)
 refine aC (fun K1 hK1=>(aB (aG rfl (bH) (aD (hK1 _ (aC (fun K2 hK2=>(aB (aE aA 1 rfl (aD (hK2 _ (aC (fun K3 hK3=>(aC (fun K4 hK4=>(aB ?_))))))))))))))))
 refine aE aA 3 rfl (aD (hK4 _ (aO (bR (ι:=Nat) (fun k=>⟨36,[(0,.sl 1 (rows.map fun r=>[AV.sl 4 (r.map enC)])),(3,.s (.int .i64 ((rows.take k).flatten.length:Nat))),(9,.sl 1 (rows.map fun r=>[AV.sl 4 (r.map enC)])),(10,.s (.int .i64 ((rows.map fun r=>[AV.sl 4 (r.map enC)]).length:Nat))),(11,.s (.int .i64 (k:Nat)))],[]⟩) (fun k=>k≤rows.length) (fun k=>rows.length - k) 0 ?_ ?_ ?_))))
 · exact Nat.zero_le _
 · exact cX rfl
 ·
  rintro k hC
  refine aC (fun K5 hK5=>(aB (aE aA 1 rfl (aD (hK5 _ (aC (fun K6 hK6=>(aK rfl (fun hc1=>?_) (fun hc1=>?_)))))))))
  ·
   simp only[bs] at hc1
   refine aN (hK6 _ (aC (fun K7 hK7=>(aO (aC (fun K8 hK8=>(aB ?_)))))))
   refine aG rfl (bB rfl rfl aB8 nP (by first | exact ixm (by omega) | assumption | exact⟨by decide,rfl⟩)) ?_
   refine aE aA 2 rfl (aD (hK8 _ (aC (fun K9 hK9=>(aB ?_)))))
   have hk:k<rows.length:=by omega
   have e1:=congrArg List.length (fN rows k hk)
   rw[List.length_append] at e1
   have e2:=nX rows (k+1)
   have e3:(rows[k].map enC).length=rows[k].length:=List.length_map _
   refine aE aA 3 rfl ?_
   refine aG rfl (bO rfl rfl (by omega) (by omega)) ?_
   rw[show ((((rows.take k).flatten.length:Nat):Int)+(((rows[k].map enC).length:Nat):Int))=(((rows.take (k+1)).flatten.length:Nat):Int) from by omega]
   refine aE aA 1 rfl (aD (hK9 _ (aC (fun K10 hK10=>(aB (aE aA 2 rfl (aD (hK10 _ (aK rfl (fun hc2=>?_) (fun hc2=>?_))))))))))
   ·
    simp only[bs] at hc2
    omega
   ·
    simp only[bs] at hc2
    refine aN (hK7 _ (aB ?_))
    refine aG rfl (bO rfl rfl (by omega) (by omega)) ?_
    refine aE aA 1 rfl (aD ?_)
    exact⟨k+1,(by omega),by omega,cX rfl⟩
  ·
   simp only[bs] at hc1
   refine aW (hK3 _ (aC (fun K11 hK11=>(aB ?_))))
   rw[List.take_of_length_le (show rows.length≤k by omega)]
   refine aE aA 1 rfl (fR hf rfl rfl rfl rfl rfl aGo rfl (aK6 rows.flatten.length (by omega)) ?_)
   rintro _ rfl
   refine aE aA 1 rfl (aD (hK11 _ (aC (fun K12 hK12=>(aC (fun K13 hK13=>(aB (aE aA 3 rfl (aD (hK13 _ (aO (bR (ι:=Nat) (fun j=>⟨36,[(6,.own 24 4 0 (rows.take j).flatten.length),(25,.sl 1 (rows.map fun r=>[AV.sl 4 (r.map enC)])),(26,.s (.int .i64 ((rows.map fun r=>[AV.sl 4 (r.map enC)]).length:Nat))),(27,.s (.int .i64 (j:Nat)))],[(24,.buf 4 ((rows.take j).flatten.map enC))]⟩) (fun j=>j≤rows.length) (fun j=>rows.length - j) 0 ?_ ?_ ?_))))))))))))
   · exact Nat.zero_le _
   · exact cX rfl
   ·
    rintro j hC
    refine aC (fun K14 hK14=>(aB (aE aA 1 rfl (aD (hK14 _ (aC (fun K15 hK15=>(aK rfl (fun hc3=>?_) (fun hc3=>?_)))))))))
    ·
     simp only[bs] at hc3
     refine aN (hK15 _ (aC (fun K16 hK16=>(aO (aC (fun K17 hK17=>(aB ?_)))))))
     refine aG rfl (bB rfl rfl aB8 nP (by first | exact ixm (by omega) | assumption | exact⟨by decide,rfl⟩)) ?_
     refine aE aA 2 rfl (aD (hK17 _ (aB ?_)))
     have hj:j<rows.length:=by omega
     have e1:=congrArg List.length (fN rows j hj)
     rw[List.length_append] at e1
     have e2:=nX rows (j+1)
     have e3:(rows[j].map enC).length=rows[j].length:=List.length_map _
     refine aE aA 2 rfl (eF hf rfl aTo rfl rfl rfl (.inl rfl) (by simp only[List.length_map]) rfl (by first | rfl | simp [kA,bF]) (by first | (simp only[maxLen,List.length_map,List.length_append,List.length_cons,List.length_nil]; omega) | (simp [maxLen] <;> omega)) (by first | (simp only[List.length_map,List.length_append,List.length_cons,List.length_nil]; omega) | (simp <;> omega)) ?_)
     refine cD (iX [25,26,27,33] rfl) ?_
     rw[show (rows.take j).flatten.length+(rows[j].map enC).length=(rows.take (j+1)).flatten.length from by omega,← List.map_append,← fN rows j hj]
     refine aE aA 1 rfl ?_
     refine bG ?_
     refine hK16 _ (aB ?_)
     refine aG rfl (bO rfl rfl (by omega) (by omega)) ?_
     refine aE aA 1 rfl (aD ?_)
     exact⟨j+1,(by omega),by omega,cX rfl⟩
    ·
     simp only[bs] at hc3
     refine aW (hK12 _ (aC (fun K18 hK18=>(aB (aE aA 2 rfl (aD (hK18 _ (aJ ?_))))))))
     refine⟨24,(rows.flatten.map enC),by decide,?_,?_,rfl⟩
     · rw[List.take_of_length_le (show rows.length≤j by omega)]; rfl
     · rw[List.take_of_length_le (show rows.length≤j by omega)]
       show some (AV.own 24 4 0 rows.flatten.length)=_
       rw[List.length_map]
theorem one_den (w u:ByteArray) (f t:Int) :Den Tryz.prog 147 [.s (.string w),.s (.string u),.s (.int .i64 f),.s (.int .i64 t)]  (·=.agg (enC ((w,u),(f,t)))):=by
 refine aU Tryz.func147 rfl (Nat.le_of_ble_eq_true rfl) (fun w0 A hf=>(aC (fun K1 hK1=>(aB (bJ hf rfl rfl rfl kS (aD (hK1 _ (aC (fun K2 hK2=>(aB (aE aA 2 rfl (aG rfl (cS rfl fJ jT (l3 rfl) rfl) (aE aA 2 rfl (aG rfl (cS rfl uG rQ (l3 rfl) rfl) (aG rfl (cS rfl kS aAj (l3 rfl) rfl) ?_)))))))))))))))
 refine aT hf rfl rfl eC rfl rfl (l1 rfl) (l4 rfl) rfl (aD (hK2 _ (aJ ?_)))
 refine⟨_,rfl,?_⟩
 rfl
theorem aIk (e:En) (p:Pr) :Den Tryz.prog 252 [.agg (enC e),.adr (prC p)]  (·=.s (.bool (eX p e))):=by
 refine aU Tryz.func252 rfl (Nat.le_of_ble_eq_true rfl) (fun w0 A hf=>(aC (fun K1 hK1=>(aB (aM hf rfl (cP rfl rfl (lf rfl)) (aE aA 1 rfl (aD (hK1 _ (aC (fun K2 hK2=>(aB (aE aA 3 rfl (aG rfl (gQ rfl rfl aNi rfl) ?_)))))))))))))
 rw[aW1]
 refine aE aA 1 rfl (aV rfl rfl rfl (fun hg1=>?_) (fun hg1=>?_))
 ·
  simp only[bs] at hg1
  refine aG rfl (bQ rfl aDf aAs rfl) ?_
  refine aE aA 5 rfl (aD (hK2 _ (aJ ?_)))
  refine⟨_,rfl,?_⟩
  refine aP ?_
  (simp_all[eX]; rfl)
 ·
  simp only[bs] at hg1
  refine aE aA 5 rfl (aD (hK2 _ (aJ ?_)))
  refine⟨_,rfl,?_⟩
  refine aP ?_
  (simp_all[eX]; done)
theorem aBy (l:List En) (p:Pr) (hl:l.length≤9223372036854775807) :Den Tryz.prog 222 [.sl 4 (l.map enC),.agg (prC p)]  (·=.s (.int .i64 (nA (eX p) l))):=by
 refine aU Tryz.func222 rfl (Nat.le_of_ble_eq_true rfl) (fun w0 A hf=>(aC (fun K1 hK1=>(aB (aM hf rfl (cP rfl rfl (lf rfl)) (aE aA 1 rfl (aD (hK1 _ (aC (fun K2 hK2=>(aB (aE aA 1 rfl (aG rfl (fV rfl) (aM hf rfl (aQ rfl rfl qY rfl (nC aGn rfl (eX p) l hl (fun x _=>aIk x p))) (aE aA 1 rfl ?_)))))))))))))))
 refine aD (hK2 _ (aJ ?_))
 refine⟨_,rfl,?_⟩
 rfl
theorem aE8 (l:List En) (p:Pr) (hl:l.length≤9223372036854775807) :Den Tryz.prog 219 [.sl 4 (l.map enC),.agg (prC p)]  (·=.s (.bool (onB l p))):=by
 refine aU Tryz.func219 rfl (Nat.le_of_ble_eq_true rfl) (fun w0 A hf=>(aC (fun K1 hK1=>(aB (aM hf rfl (cP rfl rfl (lf rfl)) (aE aA 1 rfl (aD (hK1 _ (aC (fun K2 hK2=>(aB (aE aA 2 rfl (aM hf rfl (aQ rfl rfl wI rfl (aBy _ _ (by omega))) (aE aA 2 rfl (aD ?_)))))))))))))))
 refine hK2 _ (aJ ?_)
 refine⟨_,rfl,?_⟩
 refine aP ?_
 exact aE9 _ _
theorem aKp (a b:En) :Den Tryz.prog 199 [.agg (enC a),.agg (enC b)]  (·=.s (.int .i64 (kE a b))):=by
 refine aU Tryz.func199 rfl (Nat.le_of_ble_eq_true rfl) (fun w0 A hf=>(aC (fun K1 hK1=>(aB (aM hf rfl (cP rfl rfl (lf rfl)) (aM hf rfl (cP rfl rfl (lf rfl)) (aE aA 1 rfl (aD (hK1 _ (aC (fun K2 hK2=>(eB hf bI (by kernel_rfl) rfl (aX aA 4 rfl (bT [(6,_),(8,_)] rfl rfl ⟨⟨rfl,rfl⟩,⟨rfl,rfl⟩,trivial⟩ rfl (aQ rfl rfl aGr rfl (Nm.pairCmp_den _ _ _ _)) (aX aA 6 rfl ?_)))))))))))))))
 refine bT [(12,_),(15,_)] rfl rfl ⟨⟨rfl,rfl⟩,⟨rfl,rfl⟩,trivial⟩ rfl (aQ rfl rfl kT rfl (gL _ _)) (bT [(9,_),(16,_)] rfl rfl ⟨⟨rfl,rfl⟩,⟨rfl,rfl⟩,trivial⟩ rfl (bE tC rfl rfl rfl rfl (l2 rfl)) (bT [(17,_)] rfl rfl ⟨⟨rfl,rfl⟩,trivial⟩ rfl (aQ rfl rfl qZ rfl (Nm.or_den [_,_] (by simp))) ?_))
 refine aX aA 1 rfl (eE [4] rfl rfl rfl (hK2 _ (aJ ?_)))
 refine⟨_,rfl,?_⟩
 rfl
theorem aIi (x e:En) :Den Tryz.prog 220 [.agg (enC x),.adr (enC e)]  (·=.s (.bool (decide (0<kE x e)))):=by
 refine aU Tryz.func220 rfl (Nat.le_of_ble_eq_true rfl) (fun w0 A hf=>(aC (fun K1 hK1=>(aB (aM hf rfl (cP rfl rfl (lf rfl)) (aE aA 1 rfl (aD (hK1 _ (aC (fun K2 hK2=>(aB (aE aA 2 rfl (aM hf rfl (aQ rfl rfl aHa rfl (aKp _ _)) (aE aA 2 rfl (aD ?_)))))))))))))))
 refine hK2 _ (aJ ?_)
 refine⟨_,rfl,?_⟩
 rfl
theorem aCg (e:En) (u:ByteArray) :Den Tryz.prog 255 [.agg (enC e),.adr [.s (.string u)]]  (·=.s (.bool (zO u e))):=by
 refine aU Tryz.func255 rfl (Nat.le_of_ble_eq_true rfl) (fun w0 A hf=>(aC (fun K1 hK1=>(aB (aM hf rfl (cP rfl rfl (lf rfl)) (aE aA 1 rfl (aD (hK1 _ (aC (fun K2 hK2=>(aB (aE aA 3 rfl (aM hf rfl (aQ rfl rfl aGj rfl (Nm.pairHas_den _ _ _)) (aE aA 1 rfl (aD ?_)))))))))))))))
 refine hK2 _ (aJ ?_)
 refine⟨_,rfl,?_⟩
 rfl
end Go.Proofs.YthapfogcaklbbaaGreat
set_option linter.unusedVariables false
set_option linter.unusedSimpArgs false
namespace Go.Abs
theorem aKy {l:List En} {p:Pr} {t:Int}:(hJ l p t).length=l.length+1:=aE6 _ _
theorem aEb (p:Pr) (t:Int):∀ l:List En,(iZ l p t).length≤l.length
  | []=>Nat.le_refl _
  | e::l=>by
    rw[iZ]; split
    · have:(qH e t).length≤1:=by unfold qH; split <;> simp
      simp only[List.length_append,List.length_cons]; omega
    · have:=aEb p t l
      simp only[List.length_cons]; omega
theorem aE1 (l:List En) (p:Pr) (t:Int):(if onB l p=true then [] else hJ l p t).length≤l.length+1:=by
  split
  · simp
  · rw[aKy]; omega
theorem aE0 (l:List En) (p:Pr) (t:Int):(if onB l p=true then iZ l p t else []).length≤l.length:=by
  split
  · exact aEb p t l
  · simp
end Go.Abs
set_option linter.unusedVariables false
set_option linter.unusedSimpArgs false
namespace Go.Abs
abbrev Us:=ByteArray×List bD
abbrev Tm:=ByteArray×Int
def usC (x:Us):List AV:=[.s (.string x.1),.sl 4 (x.2.map stC)]
def tmC (x:Tm):List AV:=[.s (.string x.1),.s (.int .i64 x.2)]
structure Sta where
  now:Int
  hor:Int
  opn:List Se
  usr:List Us
  sub:List En
  tmb:List Tm
  deriving DecidableEq
def oE:Sta:=⟨0,0,[],[],[],[]⟩
def aY (s:Sta):List AV:=[.s (.int .i64 s.now),.s (.int .i64 s.hor),.sl 4 (s.opn.map seC),.sl 2 (s.usr.map usC),.sl 4 (s.sub.map enC),.sl 2 (s.tmb.map tmC)]
def dK (s:Sta) (a b:Nat):List AV:=[.s (.int .i64 s.now),.s (.int .i64 s.hor),.sl 4 (s.opn.map seC),.own a 2 0 (s.usr.map usC).length,.sl 4 (s.sub.map enC),.own b 2 0 (s.tmb.map tmC).length]
structure SzS (n:Nat) (s:Sta):Prop where
  o:s.opn.length*40≤n
  u:s.usr.length*40≤n
  b:s.sub.length*48≤n
  t:s.tmb.length*24≤n
  y:∀ x∈s.usr,x.2.length*32≤n
theorem SzS.mono {n m:Nat} {s:Sta} (h:SzS n s) (hm:n≤m):SzS m s:=⟨Nat.le_trans h.o hm,Nat.le_trans h.u hm,Nat.le_trans h.b hm,Nat.le_trans h.t hm,fun x hx=>Nat.le_trans (h.y x hx) hm⟩
section
variable {α:Type} (key:α→ByteArray)
def isK (u:ByteArray) (x:α):Bool:=decide (key x=u)
def loK (u:ByteArray) (x:α):Bool:=decide (dL (key x) u<0)
def hiK (u:ByteArray) (x:α):Bool:=decide (0<dL (key x) u)
def cR (l:List α):Prop:=l.Pairwise fun a b=>dL (key a) (key b)<0
def wV (l:List α) (u:ByteArray) (ys:List α):List α:=l.filter (loK key u)++(ys++l.filter (hiK key u))
def cN (l:List α) (u:ByteArray):Nat:=(l.filter (loK key u)).length
def jZ (l:List α) (u:ByteArray):Bool:=l.any (isK key u)
end
section
variable {α:Type} {key:α→ByteArray}
theorem nF (u:ByteArray):dL u u=0:=(pR u u).2 rfl
theorem aB0 (x u:ByteArray):(dL x u<0∧x≠u)∨x=u∨(0<dL x u∧x≠u):=by
  by_cases h:x=u
  · exact .inr (.inl h)
  · have h0:dL x u≠0:=fun e=>h ((pR x u).1 e)
    by_cases h1:dL x u<0
    · exact .inl ⟨h1,h⟩
    · exact .inr (.inr ⟨by omega,h⟩)
theorem oO {u:ByteArray}:∀ {l:List α},cR key l→l=l.filter (loK key u)++(l.filter (isK key u)++l.filter (hiK key u))∧(l.filter (isK key u)).length≤1
  | [],_=>⟨rfl,by simp⟩
  | x::l,h=>by
    obtain ⟨h1,h2⟩:=List.pairwise_cons.1 h
    obtain ⟨e1,e2⟩:=oO (u:=u) h2
    rcases aB0 (key x) u with ⟨a,b⟩ | a | ⟨a,b⟩
    · have c1:loK key u x=true:=by simp [loK,a]
      have c2:isK key u x=false:=by simp [isK,b]
      have c3:hiK key u x=false:=by simp only[hiK,decide_eq_false_iff_not]; omega
      simp only[List.filter_cons,c1,c2,c3,if_true,Bool.false_eq_true,if_false,List.cons_append]
      exact⟨by rw[← e1],e2⟩
    · have hlo:l.filter (loK key u)=[]:=List.filter_eq_nil_iff.2 fun y hy=>by
        have:=h1 y hy
        have:=mI (key x) (key y)
        rw[a] at *
        simp only[loK,decide_eq_true_eq]; omega
      have hm:l.filter (isK key u)=[]:=List.filter_eq_nil_iff.2 fun y hy=>by
        have:=h1 y hy
        rw[a] at this
        simp only[isK,decide_eq_true_eq]
        intro e
        rw[e,nF] at this
        omega
      have c1:loK key u x=false:=by simp [loK,a,nF]
      have c2:isK key u x=true:=by simp [isK,a]
      have c3:hiK key u x=false:=by simp [hiK,a,nF]
      simp only[List.filter_cons,c1,c2,c3,if_true,Bool.false_eq_true,if_false,hlo,hm] at e1 ⊢
      exact⟨by simpa using e1,by simp⟩
    · have hlo:l.filter (loK key u)=[]:=List.filter_eq_nil_iff.2 fun y hy=>by
        have:=h1 y hy
        have h3:=mI u (key x)
        have h4:=mI u (key y)
        have:=fC (a:=u) (b:=key x) (c:=key y) (by omega) this
        simp only[loK,decide_eq_true_eq]; omega
      have hm:l.filter (isK key u)=[]:=List.filter_eq_nil_iff.2 fun y hy=>by
        have:=h1 y hy
        have h3:=mI u (key x)
        have h5:=fC (a:=u) (b:=key x) (c:=key y) (by omega) this
        simp only[isK,decide_eq_true_eq]
        intro e
        rw[e,nF] at h5
        omega
      have c1:loK key u x=false:=by simp only[loK,decide_eq_false_iff_not]; omega
      have c2:isK key u x=false:=by simp [isK,b]
      have c3:hiK key u x=true:=by simp [hiK,a]
      simp only[List.filter_cons,c1,c2,c3,if_true,Bool.false_eq_true,if_false,hlo,hm] at e1 ⊢
      exact⟨by simp only[List.nil_append] at e1 ⊢; rw[← e1],by simp⟩
theorem kO {l:List α} (h:cR key l) (q:α→Bool):cR key (l.filter q):=h.filter q
theorem tI {l:List α} {u:ByteArray} {ys:List α} (h:cR key l) (hy:∀ y∈ys,key y=u) (h1:ys.length≤1):cR key (wV key l u ys):=by
  have hb:∀ x∈l.filter (loK key u),dL (key x) u<0:=fun x hx=>by have:=(List.mem_filter.1 hx).2; simpa [loK] using this
  have ha:∀ x∈l.filter (hiK key u),dL u (key x)<0:=fun x hx=>by
    have:=(List.mem_filter.1 hx).2
    have h2:=mI u (key x)
    simp only[hiK,decide_eq_true_eq] at this; omega
  refine List.pairwise_append.2 ⟨kO h _,List.pairwise_append.2 ⟨?_,kO h _,fun y hm z hz=>by rw[hy y hm]; exact ha z hz⟩,fun x hx z hz=>?_⟩
  · match ys,h1 with
    | [],_=>exact List.Pairwise.nil
    | [y],_=>exact List.pairwise_singleton _ _
  · rcases List.mem_append.1 hz with hz | hz
    · rw[hy z hz]; exact hb x hx
    · exact fC (hb x hx) (ha z hz)
theorem kC {l:List α} {u:ByteArray} {ys:List α} {x:α}:x∈wV key l u ys↔(x∈l∧key x≠u)∨x∈ys:=by
  simp only[wV,List.mem_append,List.mem_filter,loK,hiK,decide_eq_true_eq]
  constructor
  · rintro (⟨h,h1⟩ | h | ⟨h,h1⟩)
    · exact .inl ⟨h,fun e=>by rw[e,nF] at h1; omega⟩
    · exact .inr h
    · exact .inl ⟨h,fun e=>by rw[e,nF] at h1; omega⟩
  · rintro (⟨h,h1⟩ | h)
    · rcases aB0 (key x) u with ⟨a,_⟩ | a | ⟨a,_⟩
      · exact .inl ⟨h,a⟩
      · exact absurd a h1
      · exact .inr (.inr ⟨h,a⟩)
    · exact .inr (.inl h)
theorem sM:∀ {a b:List α},cR key a→cR key b→(∀ x,x∈a↔x∈b)→a=b
  | [],[],_,_,_=>rfl
  | [],y::b,_,_,h=>absurd ((h y).2 (by simp)) (by simp)
  | x::a,[],_,_,h=>absurd ((h x).1 (by simp)) (by simp)
  | x::a,y::b,ha,hb,h=>by
    obtain ⟨a1,a2⟩:=List.pairwise_cons.1 ha
    obtain ⟨b1,b2⟩:=List.pairwise_cons.1 hb
    have irr:∀ z:α,¬ dL (key z) (key z)<0:=fun z=>by rw[nF]; omega
    have hxy:x=y:=by
      rcases List.mem_cons.1 ((h x).1 (by simp)) with e | e
      · exact e
      · rcases List.mem_cons.1 ((h y).2 (by simp)) with e' | e'
        · exact e'.symm
        · exact absurd (fC (b1 x e) (a1 y e')) (irr y)
    subst hxy
    rw[sM a2 b2 fun z=>?_]
    have:=h z
    simp only[List.mem_cons] at this
    constructor
    · intro hz
      rcases this.1 (.inr hz) with e | e
      · subst e; exact absurd (a1 z hz) (irr z)
      · exact e
    · intro hz
      rcases this.2 (.inr hz) with e | e
      · subst e; exact absurd (b1 z hz) (irr z)
      · exact e
theorem tP (l:List α) (u:ByteArray):cN key l u≤l.length:=List.length_filter_le _ _
theorem mQ {l:List α} (h:cR key l) (u:ByteArray):l.take (cN key l u)=l.filter (loK key u)∧l.drop (cN key l u)=l.filter (isK key u)++l.filter (hiK key u):=by
  have e:=(oO (u:=u) h).1
  constructor
  · have:l.take (cN key l u)=(l.filter (loK key u)++(l.filter (isK key u)++l.filter (hiK key u))).take (l.filter (loK key u)).length:=by rw[← e]; rfl
    rw[this,List.take_left]
  · have:l.drop (cN key l u)=(l.filter (loK key u)++(l.filter (isK key u)++l.filter (hiK key u))).drop (l.filter (loK key u)).length:=by rw[← e]; rfl
    rw[this,List.drop_left]
theorem aIg {l:List α} {u:ByteArray} (h:jZ key l u=false):l.filter (isK key u)=[]:=by
  rw[jZ,List.any_eq_false] at h
  exact List.filter_eq_nil_iff.2 h
theorem aIh {l:List α} (h:cR key l) {u:ByteArray} (hh:jZ key l u=true):∃ hk:cN key l u<l.length,key (l[cN key l u])=u∧l.filter (isK key u)=[l[cN key l u]]:=by
  obtain ⟨x,hx,hxu⟩:=List.any_eq_true.1 hh
  have h1:x∈l.filter (isK key u):=List.mem_filter.2 ⟨hx,hxu⟩
  obtain ⟨e1,e2⟩:=oO (u:=u) h
  have e3:l.filter (isK key u)=[x]:=by
    match hl:l.filter (isK key u),h1,e2 with
    | [],h1,_=>cases h1
    | [y],h1,_=>rw[List.mem_singleton.1 h1]
    | y::z::r,_,e2=>simp at e2
  have hd:=(mQ h u).2
  rw[e3] at hd
  have hlt:cN key l u<l.length:=by
    have:=congrArg List.length hd
    simp only[List.length_drop,List.length_append,List.length_cons,List.length_nil] at this
    omega
  have hg:l[cN key l u]=x:=by
    have:=congrArg (fun r=>r[0]?) hd
    simp only[List.getElem?_drop,Nat.add_zero,List.cons_append,List.getElem?_cons_zero] at this
    rw[List.getElem?_eq_getElem hlt] at this
    exact Option.some.inj this
  refine⟨hlt,?_,?_⟩
  · rw[hg]; simpa [isK] using hxu
  · rw[e3,hg]
theorem aEl {l:List α} (h:cR key l) {u:ByteArray} (hh:jZ key l u=true):l.drop (cN key l u+1)=l.filter (hiK key u):=by
  obtain ⟨hk,_,e⟩:=aIh h hh
  have hd:=(mQ h u).2
  rw[e] at hd
  rw[← List.drop_drop,hd]; rfl
theorem aCi {l:List α} (h:cR key l) {u:ByteArray} (hh:jZ key l u=true) (y:α):l.set (cN key l u) y=wV key l u [y]:=by
  obtain ⟨hk,_,_⟩:=aIh h hh
  rw[List.set_eq_take_append_cons_drop,if_pos hk,(mQ h u).1,aEl h hh]; rfl
theorem aJp {l:List α} (h:cR key l) {u:ByteArray} (hh:jZ key l u=false) (y:α):l.take (cN key l u)++y::l.drop (cN key l u)=wV key l u [y]:=by
  rw[(mQ h u).1,(mQ h u).2,aIg hh]; rfl
theorem aD3 {l:List α} (h:cR key l) (u:ByteArray):l.filter (fun x=>!isK key u x)=wV key l u []:=by
  refine sM (key:=key) (kO h _) (tI h (by simp) (by simp)) fun x=>?_
  rw[kC,List.mem_filter]
  simp [isK]
theorem has_set {l:List α} {u v:ByteArray} {ys:List α} (hy:∀ y∈ys,key y=u):jZ key (wV key l u ys) v=if v=u then !ys.isEmpty else jZ key l v:=by
  rw[Bool.eq_iff_iff]
  simp only[jZ,List.any_eq_true,kC,isK,decide_eq_true_eq]
  by_cases hv:v=u
  · subst hv
    rw[if_pos rfl]
    constructor
    · rintro ⟨x,⟨_,h⟩ | h,e⟩
      · exact absurd e h
      · cases ys with
        | nil=>cases h
        | cons y r=>rfl
    · intro h
      cases ys with
      | nil=>cases h
      | cons y r=>exact⟨y,.inr (by simp),hy y (by simp)⟩
  · rw[if_neg hv,List.any_eq_true]
    constructor
    · rintro ⟨x,⟨h,_⟩ | h,e⟩
      · exact⟨x,h,by simp [isK,e]⟩
      · exact absurd ((hy x h).symm.trans e).symm hv
    · rintro ⟨x,h,e⟩
      have e':key x=v:=by simpa [isK] using e
      exact⟨x,.inl ⟨h,by rw[e']; exact hv⟩,e'⟩
end
abbrev cM:Us→ByteArray:=Prod.fst
abbrev dN:Tm→ByteArray:=Prod.fst
def ofU (l:List Us) (u:ByteArray):List bD:=((l.find? (isK cM u)).map Prod.snd).getD []
def qF (u:ByteArray) (ys:List bD):List Us:=if ys=[] then [] else [(u,ys)]
def pK (l:List Us) (u:ByteArray) (ys:List bD):List Us:=wV cM l u (qF u ys)
theorem yL {u:ByteArray} {ys:List bD}:∀ y∈qF u ys,cM y=u:=by
  intro y hy; unfold qF at hy; split at hy
  · cases hy
  · rw[List.mem_singleton.1 hy]
theorem aD7 {u:ByteArray} {ys:List bD}:(qF u ys).length≤1:=by unfold qF; split <;> simp
theorem qC {l:List Us} {u:ByteArray} {ys:List bD} (h:cR cM l):cR cM (pK l u ys):=tI h yL aD7
theorem oV {l:List Us} {u:ByteArray} (h:jZ cM l u=false):ofU l u=[]:=by
  rw[jZ,List.any_eq_false] at h
  rw[ofU,List.find?_eq_none.2 h]; rfl
theorem aJv {l:List Us} (h:cR cM l) {x:Us} (hx:x∈l):ofU l x.1=x.2:=by
  have:l.find? (isK cM x.1)=some x:=by
    have hs:(l.find? (isK cM x.1)).isSome=true:=List.find?_isSome.2 ⟨x,hx,by simp [isK]⟩
    obtain ⟨y,hy⟩:=Option.isSome_iff_exists.1 hs
    have h1:=List.mem_of_find?_eq_some hy
    have h2:=List.find?_some hy
    simp only[isK,decide_eq_true_eq] at h2
    rw[hy]
    have e:=(oO (u:=x.1) h).2
    have m1:x∈l.filter (isK cM x.1):=List.mem_filter.2 ⟨hx,by simp [isK]⟩
    have m2:y∈l.filter (isK cM x.1):=List.mem_filter.2 ⟨h1,by simp [isK,h2]⟩
    match hl:l.filter (isK cM x.1),m1,m2,e with
    | [z],m1,m2,_=>rw[List.mem_singleton.1 m1,List.mem_singleton.1 m2]
    | z::z'::r,_,_,e=>simp at e
  rw[ofU,this]; rfl
theorem zG {l:List Us} (h:cR cM l) {u:ByteArray} (hh:jZ cM l u=true):∃ hk:cN cM l u<l.length,l[cN cM l u]=(u,ofU l u):=by
  obtain ⟨hk,e,_⟩:=aIh h hh
  have:=aJv h (List.getElem_mem hk)
  have e':l[cN cM l u].1=u:=e
  rw[e'] at this
  exact⟨hk,Prod.ext e' this.symm⟩
theorem aOp {l:List Us} (h:cR cM l) {u v:ByteArray} {ys:List bD}:ofU (pK l u ys) v=if v=u then ys else ofU l v:=by
  by_cases hh:jZ cM (pK l u ys) v=true
  · obtain ⟨hk,e⟩:=zG (qC h) hh
    have hm:=List.getElem_mem hk
    rw[e,pK,kC] at hm
    by_cases hv:v=u
    · subst hv
      rw[if_pos rfl]
      rcases hm with ⟨_,h2⟩ | hm
      · exact absurd rfl h2
      · unfold qF at hm
        split at hm
        · cases hm
        · have:=(Prod.ext_iff.1 (List.mem_singleton.1 hm)).2
          simpa [pK,qF, *] using this
    · rw[if_neg hv]
      rcases hm with ⟨h1,_⟩ | hm
      · exact(aJv h h1).symm
      · exact absurd (yL _ hm) hv
  · have hf:=Bool.eq_false_iff.2 hh
    rw[oV hf]
    rw[pK,has_set yL] at hf
    by_cases hv:v=u
    · rw[if_pos hv] at hf ⊢
      unfold qF at hf
      split at hf
      · rename_i e; exact e.symm
      · simp at hf
    · rw[if_neg hv] at hf ⊢
      exact(oV hf).symm
def kK (l:List Us) (u:ByteArray) (x:bD):List Us:=if x.1.2≤x.1.1 then l else pK l u (gX (ofU l u) x)
def qA (l:List Tm) (u:ByteArray) (t:Int):List Tm:=wV dN l u [(u,t)]
def iE (s:Sta) (x:bD):Bool:=!(s.opn.any fun e=>decide (e.1.1=x.2.1)&&decide (e.2.2<x.1.2))&&(decide (0≤x.1.1)&&(decide (x.1.2≤s.now)&&(decide (1≤x.2.1)&&(decide (x.2.1≤999)&&(decide (1≤x.2.2)&&decide (x.2.2≤4))))))
def wY (s:Sta) (x:Us):Bool:=!x.2.isEmpty&&(uV x.2&&x.2.all (iE s))
def zF (s:Sta) (e:En):Bool:=decide (0≤e.2.1)&&(decide (e.2.1≤s.now)&&(decide (e.2.2≤s.now)||decide (e.2.2=1099511627776)))
def aMf (s:Sta) (x:Tm):Bool:=decide (0≤x.2)&&decide (x.2≤s.now)
def nxK {α:Type} (key:α→ByteArray) (a b:α):Bool:=decide (dL (key a) (key b)<0)
def risN {α:Type} (key:α→ByteArray) (l:List α):Bool:=lW (fun x=>cH (key x)) (nxK key) none l
def mN (s:Sta):Bool:=decide (0≤s.now)&&(decide (s.now<1099511627776)&&(decide (0≤s.hor)&&(decide (s.hor<1099511627776)&&(iC s.opn&&(s.opn.all (fun e=>decide (e.2.2≤s.now))&&(risN cM s.usr&&(s.usr.all (wY s)&&(aA0 s.sub&&(s.sub.all (zF s)&&(risN dN s.tmb&&s.tmb.all (aMf s)))))))))))
theorem aL5 {α:Type} {key:α→ByteArray} (l:List α):risN key l=true↔(∀ x∈l,cH (key x)=true)∧cR key l:=by
  rw[risN,oP (fun a b=>dL (key a) (key b)<0) (fun x y=>by simp [nxK]) (fun x y z _ h1 h2=>fC h1 h2)]
  simp [cR]
structure RightP (s:Sta):Prop where
  n0:0≤s.now
  n1:s.now<1099511627776
  h0:0≤s.hor
  h1:s.hor<1099511627776
  opn:iC s.opn=true
  late:∀ e∈s.opn,e.2.2≤s.now
  unm:∀ x∈s.usr,cH x.1=true
  usr:cR cM s.usr
  uok:∀ x∈s.usr,wY s x=true
  sub:aA0 s.sub=true
  sok:∀ e∈s.sub,zF s e=true
  tnm:∀ x∈s.tmb,cH x.1=true
  tmb:cR dN s.tmb
  tok:∀ x∈s.tmb,aMf s x=true
theorem oQ {s:Sta}:mN s=true↔RightP s:=by
  simp only[mN,Bool.and_eq_true,decide_eq_true_eq,List.all_eq_true,aL5]
  constructor
  · rintro ⟨a,b,c,d,e,f,⟨g,g'⟩,h,i,j,⟨k,k'⟩,l⟩
    exact⟨a,b,c,d,e,f,g,g',h,i,j,k,k',l⟩
  · rintro ⟨a,b,c,d,e,f,g,g',h,i,j,k,k',l⟩
    exact⟨a,b,c,d,e,f,⟨g,g'⟩,h,i,j,⟨k,k'⟩,l⟩
structure Ev where
  kind:Int
  at':Int
  user:ByteArray
  other:ByteArray
  n:Int
  st:Int
  deriving DecidableEq
def evC (e:Ev):List AV:=[.s (.int .i64 e.kind),.s (.int .i64 e.at'),.s (.string e.user),.s (.string e.other),.s (.int .i64 e.n),.s (.int .i64 e.st)]
abbrev bs0:ByteArray:=⟨#[]⟩
def dD (e:Ev):Bool:=decide (1≤e.n)&&(decide (e.n≤999)&&(cH e.user&&decide (e.other=bs0)))
def bY (e:Ev):Bool:=decide (0≤e.at')&&(decide (e.at'<1099511627776)&&(
  if e.kind=1∨e.kind=2 then dD e&&(decide (1≤e.st)&&decide (e.st≤4))
  else if e.kind=3 then dD e&&decide (e.st=0)
  else if e.kind=4∨e.kind=5 then cH e.user&&(cH e.other&&(decide (e.n=0)&&decide (e.st=0)))
  else if e.kind=6 then decide (e.user=bs0)&&(decide (e.other=bs0)&&(decide (e.st=0)&&(decide (0≤e.n)&&decide (e.n<1099511627776))))
  else if e.kind=7 then cH e.user&&(decide (e.other=bs0)&&(decide (e.n=0)&&decide (e.st=0)))
  else false))
def fM (s:Sta) (u:ByteArray) (t:Int):Sta:=⟨s.now,s.hor,s.opn.filter (fun e=>!rW u e),pK s.usr u [],s.sub.filter (fun e=>!zO u e),qA s.tmb u t⟩
def bA (s:Sta) (e:Ev):Sta×Int :=
  if e.kind=1 then ({ s with opn:=nR s.opn ((e.n,e.user),(e.st,e.at')) },sP s.opn ((e.n,e.user),(e.st,e.at')))
  else if e.kind=2 then ({ s with opn:=nT s.opn e.n e.user e.st e.at',usr:=kK s.usr e.user (stR s.opn e.n e.user e.at') },gH s.opn e.n e.user)
  else if e.kind=3 then ({ s with opn:=nS s.opn e.n e.user,usr:=kK s.usr e.user (stR s.opn e.n e.user e.at') },gH s.opn e.n e.user)
  else if e.kind=4 then ({ s with sub:=if onB s.sub (e.user,e.other)=true then [] else hJ s.sub (e.user,e.other) e.at' },if onB s.sub (e.user,e.other)=true then 90 else 0)
  else if e.kind=5 then ({ s with sub:=if onB s.sub (e.user,e.other)=true then iZ s.sub (e.user,e.other) e.at' else [] },if onB s.sub (e.user,e.other)=true then 0 else 91)
  else if e.kind=6 then ({ s with hor:=max s.hor e.n },0)
  else (fM s e.user e.at',0)
def cQ (s:Sta) (e:Ev):Sta×Int :=
  if bY e=true then (if e.at'<s.now then (oE,111) else (if (bA s e).2=0 then ({ (bA s e).1 with now:=e.at' },0) else (oE,(bA s e).2))) else (oE,110)
def aDz (s:Sta) (u:ByteArray) (t:Int):List bD:=(fG s.opn u t).foldl gX (ofU s.usr u)
def sU (l:List Us):Nat:=(l.map fun x=>x.2.length).sum
def zY (s:Sta):Nat:=s.opn.length+s.sub.length+s.tmb.length+sU s.usr
section
variable {α:Type} {key:α→ByteArray}
def BsI (l:List α) (key:α→ByteArray) (u:ByteArray) (i j:Nat):Prop:=i≤j∧j≤l.length∧(∀ (q:Nat) (hq:q<l.length),q<i→dL (key l[q]) u<0)∧(∀ (q:Nat) (hq:q<l.length),j≤q→¬ dL (key l[q]) u<0)
theorem BsI.start (l:List α) (u:ByteArray):BsI l key u 0 l.length:=⟨Nat.zero_le _,Nat.le_refl _,fun _ _ h=>absurd h (Nat.not_lt_zero _),fun q hq h=>absurd hq (by omega)⟩
theorem BsI.lo {l:List α} {u:ByteArray} {i j m:Nat} (h:BsI l key u i j) (hr:cR key l) (h1:i≤m) (h2:m<j) (hm:m<l.length) (hc:dL (key l[m]) u<0):BsI l key u (m+1) j:=by
  refine⟨h2,h.2.1,fun q hq hqm=>?_,h.2.2.2⟩
  by_cases e:q=m
  · subst e; exact hc
  · exact fC (List.pairwise_iff_getElem.1 hr q m hq hm (by omega)) hc
theorem BsI.hi {l:List α} {u:ByteArray} {i j m:Nat} (h:BsI l key u i j) (hr:cR key l) (h1:i≤m) (h2:m<j) (hm:m<l.length) (hc:¬ dL (key l[m]) u<0):BsI l key u i m:=by
  refine⟨h1,by have:=h.2.1; omega,h.2.2.1,fun q hq hqm=>?_⟩
  by_cases e:q=m
  · subst e; exact hc
  · have h3:=List.pairwise_iff_getElem.1 hr m q hm hq (by omega)
    intro h4
    exact hc (fC h3 h4)
theorem BsI.fin {l:List α} {u:ByteArray} {i j:Nat} (h:BsI l key u i j) (hr:cR key l) (hij:j≤i):cN key l u=i∧jZ key l u=(decide (i<l.length)&&decide (∃ hi:i<l.length,dL (key l[i]) u=0)):=by
  have e:i=j:=by have:=h.1; omega
  subst e
  obtain ⟨_,h1,h2,h3⟩:=h
  have hp:l.filter (loK key u)=l.take i:=by
    conv=>lhs; rw[← List.take_append_drop i l]
    rw[List.filter_append]
    have a:(l.take i).filter (loK key u)=l.take i:=List.filter_eq_self.2 fun x hx=>by
      obtain ⟨q,hq,rfl⟩:=List.getElem_of_mem hx
      rw[List.length_take] at hq
      rw[List.getElem_take]
      simp only[loK,decide_eq_true_eq]
      exact h2 q (by omega) (by omega)
    have b:(l.drop i).filter (loK key u)=[]:=List.filter_eq_nil_iff.2 fun x hx=>by
      obtain ⟨q,hq,rfl⟩:=List.getElem_of_mem hx
      rw[List.length_drop] at hq
      rw[List.getElem_drop]
      simp only[loK,decide_eq_true_eq]
      exact h3 (i+q) (by omega) (by omega)
    rw[a,b,List.append_nil]
  refine⟨by rw[cN,hp,List.length_take]; omega,?_⟩
  rw[Bool.eq_iff_iff]
  simp only[jZ,List.any_eq_true,isK,decide_eq_true_eq,Bool.and_eq_true]
  constructor
  · rintro ⟨x,hx,e⟩
    obtain ⟨q,hq,rfl⟩:=List.getElem_of_mem hx
    have hc:dL (key l[q]) u=0:=(pR _ _).2 e
    have hqi:i≤q:=by
      rcases Nat.lt_or_ge q i with h | h
      · have:=h2 q hq h; omega
      · exact h
    have hil:i<l.length:=by omega
    refine⟨hil,hil,?_⟩
    by_cases e2:q=i
    · subst e2; exact hc
    · exfalso
      have h4:=List.pairwise_iff_getElem.1 hr i q hil hq (by omega)
      have h5:=h3 i hil (Nat.le_refl _)
      have h6:=rX h4 (show dL (key l[q]) u≤0 by omega)
      exact h5 h6
  · rintro ⟨_,hi,e⟩
    exact⟨l[i],List.getElem_mem _,(pR _ _).1 e⟩
theorem BsI.fin_t {l:List α} {u:ByteArray} {i j:Nat} (h:BsI l key u i j) (hr:cR key l) (hij:j≤i) (hi:i<l.length):jZ key l u=(dL (key l[i]) u == 0):=by
  rw[(h.fin hr hij).2,Bool.eq_iff_iff]
  simp only[Bool.and_eq_true,decide_eq_true_eq,beq_iff_eq]
  exact⟨fun⟨_,_,e⟩=>e,fun e=>⟨hi,hi,e⟩⟩
theorem BsI.fin_f {l:List α} {u:ByteArray} {i j:Nat} (h:BsI l key u i j) (hr:cR key l) (hij:j≤i) (hi:¬ i<l.length):jZ key l u=false:=by
  rw[(h.fin hr hij).2]
  simp [hi]
end
def dF (s:Sta) (u:ByteArray) (x:bD):Sta:={ s with usr:=kK s.usr u x }
theorem jS {s:Sta} {u:ByteArray} {x:bD} (h:x.1.2≤x.1.1):dF s u x=s:=by rw[dF,kK,if_pos h]
theorem aJ6 {l:List bD} {x:bD} (h:¬ x.1.2≤x.1.1):gX l x≠[]:=fun e=>by
  have h1:=zL l x
  rw[gX,if_neg h] at e
  rw[e] at h1; simp at h1
theorem aJ5 {l:List Us} {u:ByteArray} {x:bD} (hr:cR cM l) (hh:jZ cM l u=true) (h:¬ x.1.2≤x.1.1) (hk:cN cM l u<l.length):l.set (cN cM l u) (l[cN cM l u].1,gX l[cN cM l u].2 x)=kK l u x:=by
  obtain ⟨_,e⟩:=zG hr hh
  rw[e,kK,if_neg h,pK,qF,if_neg (aJ6 h),aCi hr hh]
theorem aNf {x:bD} (h:¬ x.1.2≤x.1.1):gX [] x=[x]:=by
  rw[gX,if_neg h]
  have h1:=fP x []
  exact List.perm_singleton.1 h1
theorem aNc {l:List Us} {u:ByteArray} {x:bD} (hr:cR cM l) (hh:jZ cM l u=false) (h:¬ x.1.2≤x.1.1):List.flatten [l.take (cN cM l u),[(u,[x])],l.drop (cN cM l u)]=kK l u x:=by
  rw[kK,if_neg h,pK,qF,if_neg (aJ6 h),oV hh,aNf h,← aJp hr hh]
  simp
end Go.Abs
set_option linter.unusedVariables false
set_option linter.unusedSimpArgs false
namespace Go.Proofs.YthapfogcaklbbaaGreat
open Go Go.Abs
theorem xV {g:Nat} {cap:List AV} (hent:∀ args w,(callFunc g args).run Tryz.prog w=.ok (.enter g args) w) (hcl:cleanL (fun _=>false) cap=true) (p:Tm→Bool) (l:List Tm) (hl:l.length≤9223372036854775807) (hp:∀ x∈l,Den Tryz.prog g (.agg (tmC x)::cap) (·=.s (.bool (p x)))) :Den Tryz.prog 201 [.sl 2 (l.map tmC),.fn g cap]  (·=.s (.int .i64 (nA p l))):=by
 refine aU Tryz.func201 rfl (Nat.le_of_ble_eq_true rfl) (fun w0 A hf=>(aC (fun K1 hK1=>(aB (aE aA 1 rfl (aD (hK1 _ (aC (fun K2 hK2=>(aC (fun K3 hK3=>(aB (aE aA 3 rfl (aD (hK3 _ (aO ?_))))))))))))))))
 refine bR (ι:=Nat) (fun k=>⟨19,[(0,.sl 2 (l.map tmC)),(1,.fn g cap),(7,.s (.int .i64 ((l.map tmC).length:Nat))),(8,.s (.int .i64 (k:Nat)))],[]⟩) (fun k=>k≤l.length∧∀ (j:Nat) (hj:j<l.length),j<k→p l[j]=false) (fun k=>l.length - k) 0 ?_ ?_ ?_
 · exact⟨by omega,by omega⟩
 · exact cX rfl
 ·
  rintro k hC
  obtain ⟨h1,h2⟩:=hC
  refine aC (fun K4 hK4=>(aB (aE aA 1 rfl (aD (hK4 _ (aC (fun K5 hK5=>(aK rfl (fun hc1=>?_) (fun hc1=>?_)))))))))
  ·
   simp only[bs] at hc1
   refine aN (hK5 _ (aC (fun K6 hK6=>(aO (aC (fun K7 hK7=>(aB (aE aA 2 rfl (aD (hK7 _ (aC (fun K8 hK8=>(aB (aE aA 3 rfl ?_))))))))))))))
   refine aG rfl (bB rfl rfl iL fF (by first | exact ixm (by omega) | assumption | exact⟨by decide,rfl⟩)) ?_
   refine aE aA 1 rfl (aM hf rfl (aQ rfl rfl hent (by rw[fD,hcl]; rfl) (hp _ (List.getElem_mem _))) ?_)
   refine aD (hK8 _ (aK rfl (fun hc2=>?_) (fun hc2=>?_)))
   ·
    refine aC (fun K9 hK9=>(aB (aE aA 2 rfl (aD (hK9 _ (aJ ?_))))))
    refine⟨_,rfl,?_⟩
    refine dZ ?_
    rw[mZ (by omega) h2 (by assumption)]
   ·
    refine aN (hK6 _ (aB ?_))
    refine aG rfl (bO rfl rfl (by omega) (by omega)) ?_
    refine aE aA 1 rfl (aD ?_)
    exact⟨k+1,⟨by omega,fun j hj hjk=>by
      by_cases e:j=k
      · subst e; simp_all
      · exact h2 j hj (by omega)⟩,by omega,cX rfl⟩
  ·
   simp only[bs] at hc1
   refine aW (hK2 _ (aC (fun K10 hK10=>(aB (aE aA 1 rfl (aD (hK10 _ (aJ ?_))))))))
   refine⟨_,rfl,?_⟩
   refine dZ ?_
   rw[oZ (fun j hj=>h2 j hj (by omega))]
theorem wU {g:Nat} {cap:List AV} (hent:∀ args w,(callFunc g args).run Tryz.prog w=.ok (.enter g args) w) (hcl:cleanL (fun _=>false) cap=true) (hcv:∀ m,convL m cap=cap) (p:Tm→Bool) (l:List Tm) (n:Nat) (hn:n=l.length) (hl:l.length≤9223372036854775807) (hp:∀ x∈l,Den Tryz.prog g (.agg (tmC x)::cap) (·=.s (.bool (p x)))) :DenM Tryz.prog 228 [.own E0 2 0 n,.fn g cap] 2 ((l.map tmC)) (fun r ys=>r=.own E0 2 0 (l.filter fun x=>!p x).length∧ys=((l.filter fun x=>!p x).map tmC)):=by
 subst hn
 have hq0:∀ j,((l.take j).filter fun x=>!p x).length≤j:=fun j=>gG _ l j
 have hq1:∀ j,((l.take j).filter fun x=>!p x).length≤l.length:=fun j=>fQ _ l j
 refine fI Tryz.func228 rfl (Nat.le_of_ble_eq_true rfl) (fun w0 x0 A hf=>?_)
 refine aC (fun K1 hK1=>(aB (aG rfl (bH) (aD (hK1 _ (aC (fun K2 hK2=>(aB (aE aA 2 rfl (aM hf rfl (pN rfl rfl (by show [AV.conv _ _,AV.fn g (convL _ cap)]=_; rw[hcv,cI (g:=E0) rfl (by simp)]) aG9 (xV hent hcl p l hl hp) rfl) ?_))))))))))
 refine aE aA 1 rfl (aD (hK2 _ (aC (fun K3 hK3=>(aC (fun K4 hK4=>(aB (aE aA 2 rfl (aD (hK4 _ (aK rfl (fun hc1=>?_) (fun hc1=>?_))))))))))))
 ·
  simp only[bs] at hc1
  refine aC (fun K5 hK5=>(aB (aE aA 2 rfl (aD (hK5 _ (aJ ?_))))))
  have hno:nA p l=-1:=by simpa using hc1
  rcases dM p l with ⟨_,hn⟩ | ⟨k,hk,e,_⟩
  · exact⟨_,.own E0 2 0 l.length,(l.map tmC),Le.refl _,rfl,rfl,by rw[fB p l hn],by rw[fB p l hn]⟩
  · exfalso; omega
 ·
  simp only[bs] at hc1
  refine aN (hK3 _ (aC (fun K6 hK6=>(aC (fun K7 hK7=>(aB ?_))))))
  rcases dM p l with ⟨e0,_⟩ | ⟨k0,hk0,ek0,hpk0,hbef⟩
  · exact absurd e0 (by simpa using hc1)
  have hst:=kI (fun x=>!p x) l k0 hk0 (fun j hj hjk=>by simp [hbef j hj hjk]) (by simp [hpk0])
  rw[ek0]
  refine aE aA 1 rfl ?_
  refine aG rfl (bO rfl rfl (by omega) (by omega)) ?_
  refine aE aA 1 rfl (aD (hK7 _ (aO (bR (ι:=Nat) (fun j=>⟨42,[(0,.own E0 2 0 l.length),(1,.fn g cap),(5,.s (.int .i64 (((l.take j).filter fun x=>!p x).length:Nat))),(6,.s (.int .i64 (j:Nat)))],[(E0,.buf 2 ((gS (fun x=>!p x) l j).map tmC))]⟩) (fun j=>j≤l.length) (fun j=>l.length - j) (k0+1) ?_ ?_ ?_))))
  · exact hk0
  · rw[hst.1,hst.2]; exact jB ⟨rfl,rfl,rfl,rfl,trivial⟩
  ·
   rintro j hC
   let q:=fun x=>!p x
   have hle:((l.take j).filter q).length≤j:=hq0 j
   have hle2:((l.take j).filter fun x=>!p x).length≤j:=hq0 j
   refine aC (fun K8 hK8=>(aC (fun K9 hK9=>(aB (aE aA 4 rfl (aD (hK9 _ (aK rfl (fun hc2=>?_) (fun hc2=>?_)))))))))
   ·
    simp only[bs] at hc2
    refine aN (hK8 _ (aC (fun K10 hK10=>(aO (aC (fun K11 hK11=>(aB (aE aA 2 rfl ?_))))))))
    refine aG rfl (bN rfl rfl iL fF (by omega)) ?_
    refine aG rfl (bP rfl aLr fF rfl (rL (c:=2) (k:=j) (enc:=tmC) (by omega) (by rw[dW]; omega) rfl) (cs':=tmC l[j]) (by rw[oS (c:=2) (k:=j) (enc:=tmC) (by omega) (by rw[dW]; omega) rfl,pA q l j j (by omega) hle])) ?_
    refine cC hf rfl vK rfl fF rfl rfl rfl rfl (lf rfl) (aD (hK11 _ (aC (fun K12 hK12=>(aB (aE aA 2 rfl (aM hf rfl (aQ rfl rfl hent (by rw[fD,hcl]; rfl) (hp _ (List.getElem_mem _))) ?_)))))))
    refine aE aA 1 rfl (aD (hK12 _ (aK rfl (fun hc3=>?_) (fun hc3=>?_))))
    ·
     simp only[bs] at hc3
     refine aC (fun K13 hK13=>(aB (aE aA 3 rfl ?_)))
     refine aG rfl (bN rfl rfl iL fF (by omega)) ?_
     refine aT hf rfl rfl fF rfl rfl (by simp [tmC,AV.cells,AV.one,Value.oneCell',splice]) (by simp [tmC,AV.cells,AV.leaf,Value.oneCell',splice]) (gE (c:=2) (k:=((l.take j).filter fun x=>!p x).length) (enc:=tmC) (v:=l[j]) (by omega) (by rw[dW]; omega) rfl (Nat.le_refl _)) ?_
     refine aD (hK13 _ (aB ?_))
     rw[jD (fun x=>!p x) l j (by omega) (by simp_all)]
     refine aE aA 1 rfl ?_
     refine aG rfl (bO rfl rfl (by omega) (by omega)) ?_
     rw[lG (fun x=>!p x) l j (by omega) (by simp_all)]
     refine aE aA 1 rfl ?_
     refine bG ?_
     refine hK10 _ (aB (aE aA 1 rfl ?_))
     refine aG rfl (bO rfl rfl (by omega) (by omega)) ?_
     refine aE aA 1 rfl (aD ?_)
     exact⟨j+1,(by omega),by omega,cX rfl⟩
    ·
     simp only[bs] at hc3
     rw[jE (fun x=>!p x) l j (by omega) (by simp_all),lH (fun x=>!p x) l j (by omega) (by simp_all)]
     refine aN (hK10 _ (aB (aE aA 1 rfl ?_)))
     refine aG rfl (bO rfl rfl (by omega) (by omega)) ?_
     refine aE aA 1 rfl (aD ?_)
     exact⟨j+1,(by omega),by omega,cX rfl⟩
   ·
    simp only[bs] at hc2
    refine aW (hK6 _ (aC (fun K14 hK14=>(aB (aE aA 2 rfl ?_)))))
    refine aG rfl (eA rfl iL fF rfl rfl (by omega) (by omega)) ?_
    refine tD hf iT vK (by simp [Value.oneCell']) rfl rfl ?_
    refine aD (hK14 _ (aC (fun K15 hK15=>(aB (aE aA 2 rfl ?_)))))
    refine aG rfl (eA rfl iL fF rfl rfl (by omega) (by omega)) ?_
    refine aE aA 1 rfl (aD (hK15 _ (aJ ?_)))
    have hjl:l.length≤j:=by omega
    have he:=nE (fun x=>!p x) l j hjl
    refine⟨_,_,_,Le.refl _,rfl,rfl,?_,?_⟩
    · rw[List.take_of_length_le hjl]; rfl
    · rw[List.take_of_length_le hjl,Nat.zero_add,Int.toNat_natCast,← List.map_take,he]
theorem xW (l:List Tm) (hl:l.length*24≤140737488355328) :DenO Tryz.prog 146 [.sl 2 (l.map tmC)] 2 (·=(l.map tmC)):=by
 refine eK Tryz.func146 rfl (Nat.le_of_ble_eq_true rfl) (fun w0 A hf=>?_)
 refine aC (fun K1 hK1=>(aB (aG rfl (bH) (aD (hK1 _ (aC (fun K2 hK2=>(aC (fun K3 hK3=>(aB (aE aA 1 rfl ?_)))))))))))
 refine kL rfl rfl rfl iL (fun b hb1=>?_)
 refine aD (hK3 _ (aK rfl (fun hc2=>?_) (fun hc2=>?_)))
 ·
  have hl0:l=[]:=by simpa using hb1 (by assumption)
  refine aC (fun K4 hK4=>(aB (oJ hf 2 rfl rfl rfl (aD (hK4 _ (aJ ?_))))))
  exact⟨2,[],by decide,rfl,rfl,by rw[hl0]; rfl⟩
 ·
  refine aN (hK2 _ (aC (fun K5 hK5=>(aB (gO hf rfl rfl rfl iT rfl rfl rfl rfl (l2 rfl) ?_)))))
  refine aE aA 1 rfl (eF hf rfl iT rfl rfl rfl (.inl rfl) rfl rfl (by first | rfl | simp [kA,bF]) (by first | (simp only[maxLen,List.length_map,List.length_append,List.length_cons,List.length_nil]; omega) | (simp [maxLen] <;> omega)) (by first | (simp only[List.length_map,List.length_append,List.length_cons,List.length_nil]; omega) | (simp <;> omega)) ?_)
  refine cD (iX [7] rfl) (aE aA 1 rfl (aD (hK5 _ (aJ ?_))))
  refine⟨5,(l.map tmC),by decide,rfl,?_,rfl⟩
  show some (AV.own 5 2 0 (0+(l.map tmC).length))=_
  rw[Nat.zero_add]
end Go.Proofs.YthapfogcaklbbaaGreat
set_option linter.unusedVariables false
set_option linter.unusedSimpArgs false
namespace Go.Proofs.YthapfogcaklbbaaGreat
open Go Go.Abs
theorem aKt (l:List bD) (hl:l.length*32+32≤140737488355328) :Den Tryz.prog 73 [.sl 4 (l.map stC)]  (·=.sl 4 (l.map stC)):=by
 refine aU Tryz.func73 rfl (Nat.le_of_ble_eq_true rfl) (fun w0 A hf=>(aC (fun K1 hK1=>(aB (aG rfl (bH) (aD (hK1 _ (aC (fun K2 hK2=>(aB (oJ hf 4 rfl rfl rfl (aD (hK2 _ (aC (fun K3 hK3=>(aC (fun K4 hK4=>?_)))))))))))))))))
 refine aB (aE aA 3 rfl (aD (hK4 _ (aO (bR (ι:=Nat) (fun k=>⟨19,[(3,.own 3 4 0 (l.take k).length),(6,.sl 4 (l.map stC)),(7,.s (.int .i64 ((l.map stC).length:Nat))),(8,.s (.int .i64 (k:Nat)))],[(3,.buf 4 ((l.take k).map stC))]⟩) (fun k=>k≤l.length) (fun k=>l.length - k) 0 ?_ ?_ ?_)))))
 · exact Nat.zero_le _
 · exact cX rfl
 ·
  rintro k hC
  refine aC (fun K5 hK5=>(aB (aE aA 1 rfl (aD (hK5 _ (aC (fun K6 hK6=>(aK rfl (fun hc1=>?_) (fun hc1=>?_)))))))))
  ·
   simp only[bs] at hc1
   refine aN (hK6 _ (aC (fun K7 hK7=>(aO (aC (fun K8 hK8=>(aB ?_)))))))
   refine aG rfl (bB rfl rfl pD jW (by first | exact ixm (by omega) | assumption | exact⟨by decide,rfl⟩)) ?_
   refine aE aA 1 rfl (cC hf rfl aB6 rfl jW rfl rfl rfl rfl (lf rfl) (aD (hK8 _ (aB ?_))))
   have htl:(l.take k).length=k:=by rw[List.length_take]; omega
   refine aE aA 2 rfl (aM hf rfl (aQ rfl rfl aJa rfl (aMi l[k])) (aM hf rfl (bE gI rfl rfl rfl rfl (l2 rfl)) (eF hf rfl gI rfl rfl rfl (.inl rfl) (by rw[List.length_map]) rfl (by first | rfl | simp [kA,bF]) (by first | (simp only[maxLen,List.length_map,List.length_append,List.length_cons,List.length_nil]; omega) | (simp [maxLen] <;> omega)) (by first | (simp only[List.length_map,List.length_append,List.length_cons,List.length_nil]; omega) | (simp <;> omega)) ?_)))
   refine cD (iX [6,7,8,16] rfl) (aE aA 1 rfl ?_)
   refine bG ?_
   refine hK7 _ (aB ?_)
   refine aG rfl (bO rfl rfl (by omega) (by omega)) ?_
   refine aE aA 1 rfl (aD ?_)
   exact⟨k+1,by omega,by omega,cK ⟨(by rw[mE l k (by omega)]; rfl),rfl,rfl,rfl,trivial⟩ (by rw[mL l stC k (by omega)]; rfl)⟩
  ·
   simp only[bs] at hc1
   refine aW (hK3 _ (aC (fun K9 hK9=>(aB (aE aA 2 rfl (aD (hK9 _ (aJ ?_))))))))
   refine⟨_,rfl,?_⟩
   refine(cI (g:=3) rfl (by rw[List.length_map])).trans ?_
   rw[List.take_of_length_le (by omega)]
theorem aOy (l:List bD) (hl:l.length*32+32≤140737488355328) :Den Tryz.prog 36 [.sl 4 (l.map stC)]  (·=.sl 4 (l.map stC)):=by
 refine aU Tryz.func36 rfl (Nat.le_of_ble_eq_true rfl) (fun w0 A hf=>(aC (fun K1 hK1=>(aB (aG rfl (bH) (aD (hK1 _ (aC (fun K2 hK2=>(aB (oJ hf 4 rfl rfl rfl (aD (hK2 _ (aC (fun K3 hK3=>(aC (fun K4 hK4=>?_)))))))))))))))))
 refine aB (aE aA 3 rfl (aD (hK4 _ (aO (bR (ι:=Nat) (fun k=>⟨19,[(3,.own 3 4 0 (l.take k).length),(6,.sl 4 (l.map stC)),(7,.s (.int .i64 ((l.map stC).length:Nat))),(8,.s (.int .i64 (k:Nat)))],[(3,.buf 4 ((l.take k).map stC))]⟩) (fun k=>k≤l.length) (fun k=>l.length - k) 0 ?_ ?_ ?_)))))
 · exact Nat.zero_le _
 · exact cX rfl
 ·
  rintro k hC
  refine aC (fun K5 hK5=>(aB (aE aA 1 rfl (aD (hK5 _ (aC (fun K6 hK6=>(aK rfl (fun hc1=>?_) (fun hc1=>?_)))))))))
  ·
   simp only[bs] at hc1
   refine aN (hK6 _ (aC (fun K7 hK7=>(aO (aC (fun K8 hK8=>(aB ?_)))))))
   refine aG rfl (bB rfl rfl bZ aS (by first | exact ixm (by omega) | assumption | exact⟨by decide,rfl⟩)) ?_
   refine aE aA 1 rfl (cC hf rfl dP rfl aS rfl rfl rfl rfl (lf rfl) (aD (hK8 _ (aB ?_))))
   have htl:(l.take k).length=k:=by rw[List.length_take]; omega
   refine aE aA 2 rfl (aM hf rfl (aQ rfl rfl aOl rfl (aO6 l[k])) (aM hf rfl (bE aNo rfl rfl rfl rfl (l2 rfl)) (eF hf rfl aNo rfl rfl rfl (.inl rfl) (by rw[List.length_map]) rfl (by first | rfl | simp [kA,bF]) (by first | (simp only[maxLen,List.length_map,List.length_append,List.length_cons,List.length_nil]; omega) | (simp [maxLen] <;> omega)) (by first | (simp only[List.length_map,List.length_append,List.length_cons,List.length_nil]; omega) | (simp <;> omega)) ?_)))
   refine cD (iX [6,7,8,16] rfl) (aE aA 1 rfl ?_)
   refine bG ?_
   refine hK7 _ (aB ?_)
   refine aG rfl (bO rfl rfl (by omega) (by omega)) ?_
   refine aE aA 1 rfl (aD ?_)
   exact⟨k+1,by omega,by omega,cK ⟨(by rw[mE l k (by omega)]; rfl),rfl,rfl,rfl,trivial⟩ (by rw[mL l stC k (by omega)]; rfl)⟩
  ·
   simp only[bs] at hc1
   refine aW (hK3 _ (aC (fun K9 hK9=>(aB (aE aA 2 rfl (aD (hK9 _ (aJ ?_))))))))
   refine⟨_,rfl,?_⟩
   refine(cI (g:=3) rfl (by rw[List.length_map])).trans ?_
   rw[List.take_of_length_le (by omega)]
theorem yR (l:List bD) (hl:l.length≤9223372036854775807) :Den Tryz.prog 142 [.sl 4 (l.map stC)]  (·=.s (.bool (uV l))):=by
 refine aU Tryz.func142 rfl (Nat.le_of_ble_eq_true rfl) (fun w0 A hf=>(aC (fun K1 hK1=>(aB (aE aA 1 rfl (aD (hK1 _ (aC (fun K2 hK2=>(aC (fun K3 hK3=>(aB (aE aA 1 rfl (aD (hK3 _ (aO ?_))))))))))))))))
 refine bR (ι:=Nat) (fun k=>⟨38,[(0,.sl 4 (l.map stC)),(3,.s (.int .i64 (k:Nat)))],[]⟩) (fun k=>k≤l.length∧uV l=lW okS zH (aYn l k) (l.drop k)) (fun k=>l.length - k) 0 ?_ ?_ ?_
 · exact⟨Nat.zero_le _,rfl⟩
 · exact cX rfl
 ·
  rintro k hC
  obtain ⟨h1,h2⟩:=hC
  refine aC (fun K4 hK4=>(aC (fun K5 hK5=>(aB (aE aA 4 rfl (aD (hK5 _ (aK rfl (fun hc1=>?_) (fun hc1=>?_)))))))))
  ·
   simp only[bs] at hc1
   refine aN (hK4 _ (aC (fun K6 hK6=>(aO (aC (fun K7 hK7=>(eB hf bI (by kernel_rfl) rfl (aX aA 2 rfl ?_))))))))
   refine bL [(10,_),(11,_)] rfl rfl ⟨⟨rfl,rfl⟩,⟨rfl,rfl⟩,trivial⟩ rfl (bB rfl rfl pD jW (by first | exact ixm (by omega) | assumption | exact⟨by decide,rfl⟩)) ?_
   refine aX aA 4 rfl ?_
   refine bL [(15,_),(16,_)] rfl rfl ⟨⟨rfl,rfl⟩,⟨rfl,rfl⟩,trivial⟩ rfl (bB rfl rfl pD jW (by first | exact ixm (by omega) | assumption | exact⟨by decide,rfl⟩)) ?_
   refine aX aA 4 rfl (gA 21 false rfl (fun hg2=>?_) (fun hg2=>?_))
   ·
    simp only[bs] at hg2
    refine aX aA 3 rfl (gA 24 true rfl (fun hg3=>?_) (fun hg3=>?_))
    ·
     simp only[bs] at hg3
     refine aX aA 2 rfl ?_
     refine bL [(26,_)] rfl rfl ⟨⟨rfl,rfl⟩,trivial⟩ rfl (eH rfl rfl (by omega) (by omega)) ?_
     refine bL [(25,_),(27,_)] rfl rfl ⟨⟨rfl,rfl⟩,⟨rfl,rfl⟩,trivial⟩ rfl (bB rfl rfl pD jW (iO (k:=k - 1) (by omega) (by omega))) (aX aA 3 rfl ?_)
     refine bL [(30,_),(31,_)] rfl rfl ⟨⟨rfl,rfl⟩,⟨rfl,rfl⟩,trivial⟩ rfl (bB rfl rfl pD jW (by first | exact ixm (by omega) | assumption | exact⟨by decide,rfl⟩)) ?_
     refine aX aA 1 rfl (bT [(29,_),(33,_)] rfl rfl ⟨⟨rfl,rfl⟩,⟨rfl,rfl⟩,trivial⟩ rfl (aQ rfl rfl aHl rfl (aIt l[k - 1] l[k])) (aX aA 3 rfl (eE [0,3,37] rfl rfl rfl (hK7 _ (aK rfl (fun hc4=>?_) (fun hc4=>?_))))))
     ·
      simp only[bs] at hc4
      refine aC (fun K8 hK8=>(aB (aE aA 1 rfl (aD (hK8 _ (aJ ?_))))))
      refine⟨_,rfl,?_⟩
      refine aP ?_
      rw[iA h2 (by omega) (by omega) (show zH _ _=false from by simp only[zH,decide_eq_false_iff_not]; omega)]
     ·
      simp only[bs] at hc4
      refine aN (hK6 _ (aB (aE aA 1 rfl ?_)))
      refine aG rfl (bO rfl rfl (by omega) (by omega)) ?_
      refine aE aA 1 rfl (aD ?_)
      exact⟨k+1,⟨by omega,lD h2 (by omega) (show okS l[k]=true from by simp only[okS,decide_eq_true_eq]; omega) (fun h0=>by simp only[zH,decide_eq_true_eq]; omega)⟩,by omega,cX rfl⟩
    ·
     simp only[bs] at hg3
     refine aX aA 13 rfl (eE [0,3,37] rfl rfl rfl (hK7 _ (bW rfl (aN (hK6 _ (aB (aE aA 1 rfl ?_)))))))
     refine aG rfl (bO rfl rfl (by omega) (by omega)) ?_
     refine aE aA 1 rfl (aD ?_)
     exact⟨k+1,⟨by omega,lD h2 (by omega) (show okS l[k]=true from by simp only[okS,decide_eq_true_eq]; omega) (fun h0=>by simp only[zH,decide_eq_true_eq]; omega)⟩,by omega,cX rfl⟩
   ·
    simp only[bs] at hg2
    refine aX aA 3 rfl (bM rfl rfl ?_)
    refine bM rfl rfl ?_
    refine bM rfl rfl ?_
    refine bM rfl rfl ?_
    refine bM rfl rfl ?_
    refine bM rfl rfl ?_
    refine bM rfl rfl ?_
    refine bM rfl rfl ?_
    refine bM rfl rfl ?_
    refine bM rfl rfl ?_
    refine bM rfl rfl ?_
    refine aX aA 2 rfl (eE [0,3,37] rfl rfl rfl (hK7 _ (bU rfl (aC (fun K9 hK9=>(aB (aE aA 1 rfl (aD (hK9 _ (aJ ?_))))))))))
    refine⟨_,rfl,?_⟩
    refine aP ?_
    rw[gV h2 (by omega) (show okS l[k]=false from by simp only[okS,decide_eq_false_iff_not]; omega)]
  ·
   simp only[bs] at hc1
   refine aW (hK2 _ (aC (fun K10 hK10=>(aB (aE aA 1 rfl (aD (hK10 _ (aJ ?_))))))))
   refine⟨_,rfl,?_⟩
   refine aP ?_
   rw[yM h2 (by omega)]
theorem aN6 (a b:List bD) (ha:a.length≤9223372036854775807) (hb:b.length≤9223372036854775807) :Den Tryz.prog 35 [.sl 4 (a.map stC),.sl 4 (b.map stC)]  (·=.s (.bool (decide (a=b)))):=by
 refine aU Tryz.func35 rfl (Nat.le_of_ble_eq_true rfl) (fun w0 A hf=>(aC (fun K1 hK1=>(aB (aE aA 1 rfl (aD (hK1 _ (aC (fun K2 hK2=>(aC (fun K3 hK3=>(aB (aE aA 5 rfl (aD (hK3 _ (aK rfl (fun hc1=>?_) (fun hc1=>?_)))))))))))))))))
 ·
  simp only[bs] at hc1
  refine aC (fun K4 hK4=>(aB (aE aA 1 rfl (aD (hK4 _ (aJ ?_))))))
  refine⟨_,rfl,?_⟩
  refine aP ?_
  rw[aO1 (by omega)]
 ·
  simp only[bs] at hc1
  refine aN (hK2 _ (aC (fun K5 hK5=>(aC (fun K6 hK6=>(aB (aE aA 1 rfl (aD (hK6 _ (aO (bR (ι:=Nat) (fun k=>⟨26,[(0,.sl 4 (a.map stC)),(1,.sl 4 (b.map stC)),(5,.s (.int .i64 (k:Nat)))],[]⟩) (fun k=>k≤a.length∧a.take k=b.take k) (fun k=>a.length - k) 0 ?_ ?_ ?_)))))))))))
  · exact⟨Nat.zero_le _,rfl⟩
  · exact cX rfl
  ·
   rintro k hC
   obtain ⟨h1,h2⟩:=hC
   refine aC (fun K7 hK7=>(aC (fun K8 hK8=>(aB (aE aA 4 rfl (aD (hK8 _ (aK rfl (fun hc2=>?_) (fun hc2=>?_)))))))))
   ·
    simp only[bs] at hc2
    refine aN (hK7 _ (aC (fun K9 hK9=>(aO (aC (fun K10 hK10=>(eB hf bI (by kernel_rfl) rfl (aX aA 2 rfl ?_))))))))
    refine bL [(17,_),(18,_)] rfl rfl ⟨⟨rfl,rfl⟩,⟨rfl,rfl⟩,trivial⟩ rfl (bB rfl rfl pD jW (by first | exact ixm (by omega) | assumption | exact⟨by decide,rfl⟩)) ?_
    refine aX aA 3 rfl ?_
    refine bL [(21,_),(22,_)] rfl rfl ⟨⟨rfl,rfl⟩,⟨rfl,rfl⟩,trivial⟩ rfl (bB rfl rfl pD jW (by first | exact ixm (by omega) | assumption | exact⟨by decide,rfl⟩)) ?_
    refine aX aA 1 rfl (bL [(20,_),(24,_)] rfl rfl ⟨⟨rfl,rfl⟩,⟨rfl,rfl⟩,trivial⟩ rfl (aXq rfl rfl aO4 rfl) ?_)
    rw[stC_eqF]
    refine eE [0,1,5,25] rfl rfl rfl (hK10 _ (aK rfl (fun hc3=>?_) (fun hc3=>?_)))
    ·
     simp only[bs] at hc3
     refine aC (fun K11 hK11=>(aB (aE aA 1 rfl (aD (hK11 _ (aJ ?_))))))
     refine⟨_,rfl,?_⟩
     refine aP ?_
     rw[aOi (by omega) (by omega) (by assumption)]
    ·
     simp only[bs] at hc3
     refine aN (hK9 _ (aB (aE aA 1 rfl ?_)))
     refine aG rfl (bO rfl rfl (by omega) (by omega)) ?_
     refine aE aA 1 rfl (aD ?_)
     exact⟨k+1,⟨by omega,aOh (by omega) (by omega) h2 (by assumption)⟩,by omega,cX rfl⟩
   ·
    simp only[bs] at hc2
    refine aW (hK5 _ (aC (fun K12 hK12=>(aB (aE aA 1 rfl (aD (hK12 _ (aJ ?_))))))))
    refine⟨_,rfl,?_⟩
    refine aP ?_
    rw[aO2 (by omega) (by omega) h2]
end Go.Proofs.YthapfogcaklbbaaGreat
set_option linter.unusedVariables false
set_option linter.unusedSimpArgs false
namespace Go.Proofs.YthapfogcaklbbaaGreat
open Go Go.Abs
theorem hY (n a b:Int) :Den Tryz.prog 178 [.s (.int .i64 n),.s (.int .i64 a),.s (.int .i64 b)]  (·=.s (.bool (decide (a≤n)&&decide (n≤b)))):=by
 refine aU Tryz.func178 rfl (Nat.le_of_ble_eq_true rfl) (fun w0 A hf=>(aC (fun K1 hK1=>(aB (aE aA 1 rfl (aD (hK1 _ (aC (fun K2 hK2=>(aB (aE aA 4 rfl (aV rfl rfl rfl (fun hg1=>?_) (fun hg1=>?_)))))))))))))
 ·
  simp only[bs] at hg1
  refine aG rfl (gD rfl) (aE aA 4 rfl (aD (hK2 _ (aJ ?_))))
  refine⟨_,rfl,?_⟩
  refine aP ?_
  rw[Bool.eq_iff_iff]
  simp only[Bool.and_eq_true,decide_eq_true_eq,true_iff,Bool.false_eq_true,false_iff]
  omega
 ·
  simp only[bs] at hg1
  refine aE aA 4 rfl (aD (hK2 _ (aJ ?_)))
  refine⟨_,rfl,?_⟩
  refine aP ?_
  rw[Bool.eq_iff_iff]
  simp only[Bool.and_eq_true,decide_eq_true_eq,true_iff,Bool.false_eq_true,false_iff]
  omega
theorem aIp (x:Us) :Den Tryz.prog 88 [.agg (usC x)]  (·=.s (.string x.1)):=by
 refine aU Tryz.func88 rfl (Nat.le_of_ble_eq_true rfl) (fun w0 A hf=>(aC (fun K1 hK1=>(aB (aM hf rfl (cP rfl rfl (lf rfl)) (aE aA 1 rfl (aD (hK1 _ (aC (fun K2 hK2=>(aB (aE aA 3 rfl (aD (hK2 _ (aJ ?_)))))))))))))))
 refine⟨_,rfl,?_⟩
 rfl
theorem aH2 (x:Tm) :Den Tryz.prog 139 [.agg (tmC x)]  (·=.s (.string x.1)):=by
 refine aU Tryz.func139 rfl (Nat.le_of_ble_eq_true rfl) (fun w0 A hf=>(aC (fun K1 hK1=>(aB (aM hf rfl (cP rfl rfl (lf rfl)) (aE aA 1 rfl (aD (hK1 _ (aC (fun K2 hK2=>(aB (aE aA 3 rfl (aD (hK2 _ (aJ ?_)))))))))))))))
 refine⟨_,rfl,?_⟩
 rfl
end Go.Proofs.YthapfogcaklbbaaGreat
set_option linter.unusedVariables false
set_option linter.unusedSimpArgs false
namespace Go.Proofs.YthapfogcaklbbaaGreat
open Go Go.Abs
theorem aDq {g:Nat} {cap:List AV} (hent:∀ args w,(callFunc g args).run Tryz.prog w=.ok (.enter g args) w) (hcl:cleanL (fun _=>false) cap=true) (l:List Us) (u:ByteArray) (hl:l.length≤4611686018427387903) (hr:cR cM l) (hp:∀ x∈l,Den Tryz.prog g (.agg (usC x)::.s (.string u)::cap) (·=.s (.int .i64 (dL x.1 u)))) :Den Tryz.prog 158 [.sl 2 (l.map usC),.s (.string u),.fn g cap]  (·=.tup [.s (.int .i64 (cN cM l u:Nat)),.s (.bool (jZ cM l u))]):=by
 refine aU Tryz.func158 rfl (Nat.le_of_ble_eq_true rfl) (fun w0 A hf=>(aC (fun K1 hK1=>(aB (aE aA 2 rfl (aD (hK1 _ (aC (fun K2 hK2=>(aB (aE aA 3 rfl (aD (hK2 _ (aC (fun K3 hK3=>(aB ?_))))))))))))))))
 refine aE aA 3 rfl (aD (hK3 _ (aC (fun K4 hK4=>(aO (bR (ι:=Nat×Nat) (fun(⟨i,j⟩:Nat×Nat)=>⟨49,[(0,.sl 2 (l.map usC)),(1,.s (.string u)),(2,.fn g cap),(8,.s (.int .i64 (((l.map usC)).length:Nat))),(9,.s (.int .i64 (i:Nat))),(10,.s (.int .i64 (j:Nat)))],[]⟩) (fun(⟨i,j⟩:Nat×Nat)=>BsI l cM u i j) (fun(⟨i,j⟩:Nat×Nat)=>j - i) (0,l.length) ?_ ?_ ?_))))))
 · exact BsI.start l u
 · exact jB ⟨rfl,rfl,rfl,rfl,rfl,(by rw[List.length_map]; rfl),trivial⟩
 ·
  rintro ⟨i,j⟩ hC
  have hi1:=hC.1
  have hi2:=hC.2.1
  refine aC (fun K5 hK5=>(aC (fun K6 hK6=>(aB (aE aA 3 rfl (aD (hK6 _ (aK rfl (fun hc1=>?_) (fun hc1=>?_)))))))))
  ·
   simp only[bs] at hc1
   refine aN (hK5 _ (aO (aC (fun K7 hK7=>(aB ?_)))))
   have hz:=vF (a:=((i:Nat):Int)+((j:Nat):Int)) (b:=(((i+j) / 2:Nat):Int)) (by omega) (by omega) (by omega)
   have hm1:i≤(i+j) / 2:=by omega
   have hm2:(i+j) / 2<j:=by omega
   have hml:(i+j) / 2<l.length:=by omega
   refine aE aA 2 rfl (aG rfl (bO rfl rfl (by omega) (by omega)) (aG rfl (lR rfl Tryz.underlying3 Tryz.underlying268 hz.1) (aG rfl (uX rfl hz.2.1 (by decide)) (aG rfl (lR rfl Tryz.underlying268 Tryz.underlying3 hz.2.2) (aE aA 1 rfl (aD (hK7 _ (aC (fun K8 hK8=>(aB (aE aA 3 rfl (aG rfl (bB rfl rfl eL dQ (iO (k:=(i+j) / 2) (by omega) (by omega))) (aE aA 2 rfl ?_)))))))))))))
   refine aM hf rfl (aQ rfl rfl hent (by show (true&&(true&&cleanL (fun _=>false) cap))=true; rw[hcl]; rfl) (hp _ (List.getElem_mem hml))) ?_
   refine aE aA 1 rfl (aD (hK8 _ (aK rfl (fun hc2=>?_) (fun hc2=>?_))))
   ·
    simp only[bs] at hc2
    refine aB (aE aA 1 rfl ?_)
    refine aG rfl (bO rfl rfl (by omega) (by omega)) ?_
    refine aE aA 1 rfl ?_
    refine bG ?_
    exact⟨((i+j) / 2+1,j),hC.lo hr hm1 hm2 hml (by show dL l[(i+j) / 2].1 u<0; omega),by simp only; omega,jB ⟨rfl,rfl,rfl,rfl,rfl,rfl,trivial⟩⟩
   ·
    simp only[bs] at hc2
    refine aB (aE aA 2 rfl ?_)
    refine bG ?_
    exact⟨(i,(i+j) / 2),hC.hi hr hm1 hm2 hml (by show ¬ dL l[(i+j) / 2].1 u<0; omega),by simp only; omega,jB ⟨rfl,rfl,rfl,rfl,rfl,rfl,trivial⟩⟩
  ·
   simp only[bs] at hc1
   refine aW (hK4 _ (aC (fun K9 hK9=>(aB (aE aA 5 rfl (aV rfl rfl rfl (fun hg3=>?_) (fun hg3=>?_)))))))
   ·
    simp only[bs] at hg3
    refine aG rfl (gD rfl) (aE aA 2 rfl (aZ rfl rfl rfl ?_))
    refine aG rfl (bB rfl rfl eL dQ (by first | exact ixm (by omega) | assumption | exact⟨by decide,rfl⟩)) ?_
    refine aE aA 2 rfl (aZ rfl rfl rfl (aM hf rfl (aQ rfl rfl hent (by show (true&&(true&&cleanL (fun _=>false) cap))=true; rw[hcl]; rfl) (hp _ (List.getElem_mem (by omega)))) ?_))
    refine aE aA 4 rfl (aD (hK9 _ (aJ ?_)))
    refine⟨_,rfl,?_⟩
    (rw[(hC.fin hr (by omega)).1,hC.fin_t hr (by omega) (show i<l.length by omega)]; rfl)
   ·
    simp only[bs] at hg3
    refine aE aA 10 rfl (aD (hK9 _ (aJ ?_)))
    refine⟨_,rfl,?_⟩
    (rw[(hC.fin hr (by omega)).1,hC.fin_f hr (by omega) (by omega)]; rfl)
theorem aDr (x:Us) (u:ByteArray) :Den Tryz.prog 159 [.agg (usC x),.s (.string u),.adr [.fn 88 []]]  (·=.s (.int .i64 (dL x.1 u))):=by
 refine aU Tryz.func159 rfl (Nat.le_of_ble_eq_true rfl) (fun w0 A hf=>(aC (fun K1 hK1=>(aB (aM hf rfl (cP rfl rfl (lf rfl)) (aE aA 1 rfl (aD (hK1 _ (aC (fun K2 hK2=>(aB (aE aA 2 rfl (aM hf rfl (aQ rfl rfl aIy rfl (aIp x)) (aE aA 1 rfl (aM hf rfl (aQ rfl rfl oC rfl (Nm.cmp_den x.1 u)) ?_)))))))))))))))
 refine aE aA 1 rfl (aD (hK2 _ (aJ ?_)))
 refine⟨_,rfl,?_⟩
 rfl
theorem xQ (l:List Us) (u:ByteArray) (hl:l.length≤4611686018427387903) (hr:cR cM l) :Den Tryz.prog 87 [.sl 2 (l.map usC),.s (.string u),.fn 88 []]  (·=.tup [.s (.int .i64 (cN cM l u:Nat)),.s (.bool (jZ cM l u))]):=by
 refine aU Tryz.func87 rfl (Nat.le_of_ble_eq_true rfl) (fun w0 A hf=>(aC (fun K1 hK1=>(aB (aM hf rfl (cP rfl rfl (lf rfl)) (aE aA 2 rfl (aD (hK1 _ (aC (fun K2 hK2=>(aB (aE aA 2 rfl (aG rfl (fV rfl) (aM hf rfl (aQ rfl rfl aHn rfl (aDq aHm rfl l u hl hr (fun x _=>aDr x u))) (aE aA 4 rfl ?_)))))))))))))))
 refine aD (hK2 _ (aJ ?_))
 refine⟨_,rfl,?_⟩
 rfl
theorem aDv {g:Nat} {cap:List AV} (hent:∀ args w,(callFunc g args).run Tryz.prog w=.ok (.enter g args) w) (hcl:cleanL (fun _=>false) cap=true) (l:List Tm) (u:ByteArray) (hl:l.length≤4611686018427387903) (hr:cR dN l) (hp:∀ x∈l,Den Tryz.prog g (.agg (tmC x)::.s (.string u)::cap) (·=.s (.int .i64 (dL x.1 u)))) :Den Tryz.prog 257 [.sl 2 (l.map tmC),.s (.string u),.fn g cap]  (·=.tup [.s (.int .i64 (cN dN l u:Nat)),.s (.bool (jZ dN l u))]):=by
 refine aU Tryz.func257 rfl (Nat.le_of_ble_eq_true rfl) (fun w0 A hf=>(aC (fun K1 hK1=>(aB (aE aA 2 rfl (aD (hK1 _ (aC (fun K2 hK2=>(aB (aE aA 3 rfl (aD (hK2 _ (aC (fun K3 hK3=>(aB ?_))))))))))))))))
 refine aE aA 3 rfl (aD (hK3 _ (aC (fun K4 hK4=>(aO (bR (ι:=Nat×Nat) (fun(⟨i,j⟩:Nat×Nat)=>⟨49,[(0,.sl 2 (l.map tmC)),(1,.s (.string u)),(2,.fn g cap),(8,.s (.int .i64 (((l.map tmC)).length:Nat))),(9,.s (.int .i64 (i:Nat))),(10,.s (.int .i64 (j:Nat)))],[]⟩) (fun(⟨i,j⟩:Nat×Nat)=>BsI l dN u i j) (fun(⟨i,j⟩:Nat×Nat)=>j - i) (0,l.length) ?_ ?_ ?_))))))
 · exact BsI.start l u
 · exact jB ⟨rfl,rfl,rfl,rfl,rfl,(by rw[List.length_map]; rfl),trivial⟩
 ·
  rintro ⟨i,j⟩ hC
  have hi1:=hC.1
  have hi2:=hC.2.1
  refine aC (fun K5 hK5=>(aC (fun K6 hK6=>(aB (aE aA 3 rfl (aD (hK6 _ (aK rfl (fun hc1=>?_) (fun hc1=>?_)))))))))
  ·
   simp only[bs] at hc1
   refine aN (hK5 _ (aO (aC (fun K7 hK7=>(aB ?_)))))
   have hz:=vF (a:=((i:Nat):Int)+((j:Nat):Int)) (b:=(((i+j) / 2:Nat):Int)) (by omega) (by omega) (by omega)
   have hm1:i≤(i+j) / 2:=by omega
   have hm2:(i+j) / 2<j:=by omega
   have hml:(i+j) / 2<l.length:=by omega
   refine aE aA 2 rfl (aG rfl (bO rfl rfl (by omega) (by omega)) (aG rfl (lR rfl Tryz.underlying3 Tryz.underlying268 hz.1) (aG rfl (uX rfl hz.2.1 (by decide)) (aG rfl (lR rfl Tryz.underlying268 Tryz.underlying3 hz.2.2) (aE aA 1 rfl (aD (hK7 _ (aC (fun K8 hK8=>(aB (aE aA 3 rfl (aG rfl (bB rfl rfl iL fF (iO (k:=(i+j) / 2) (by omega) (by omega))) (aE aA 2 rfl ?_)))))))))))))
   refine aM hf rfl (aQ rfl rfl hent (by show (true&&(true&&cleanL (fun _=>false) cap))=true; rw[hcl]; rfl) (hp _ (List.getElem_mem hml))) ?_
   refine aE aA 1 rfl (aD (hK8 _ (aK rfl (fun hc2=>?_) (fun hc2=>?_))))
   ·
    simp only[bs] at hc2
    refine aB (aE aA 1 rfl ?_)
    refine aG rfl (bO rfl rfl (by omega) (by omega)) ?_
    refine aE aA 1 rfl ?_
    refine bG ?_
    exact⟨((i+j) / 2+1,j),hC.lo hr hm1 hm2 hml (by show dL l[(i+j) / 2].1 u<0; omega),by simp only; omega,jB ⟨rfl,rfl,rfl,rfl,rfl,rfl,trivial⟩⟩
   ·
    simp only[bs] at hc2
    refine aB (aE aA 2 rfl ?_)
    refine bG ?_
    exact⟨(i,(i+j) / 2),hC.hi hr hm1 hm2 hml (by show ¬ dL l[(i+j) / 2].1 u<0; omega),by simp only; omega,jB ⟨rfl,rfl,rfl,rfl,rfl,rfl,trivial⟩⟩
  ·
   simp only[bs] at hc1
   refine aW (hK4 _ (aC (fun K9 hK9=>(aB (aE aA 5 rfl (aV rfl rfl rfl (fun hg3=>?_) (fun hg3=>?_)))))))
   ·
    simp only[bs] at hg3
    refine aG rfl (gD rfl) (aE aA 2 rfl (aZ rfl rfl rfl ?_))
    refine aG rfl (bB rfl rfl iL fF (by first | exact ixm (by omega) | assumption | exact⟨by decide,rfl⟩)) ?_
    refine aE aA 2 rfl (aZ rfl rfl rfl (aM hf rfl (aQ rfl rfl hent (by show (true&&(true&&cleanL (fun _=>false) cap))=true; rw[hcl]; rfl) (hp _ (List.getElem_mem (by omega)))) ?_))
    refine aE aA 4 rfl (aD (hK9 _ (aJ ?_)))
    refine⟨_,rfl,?_⟩
    (rw[(hC.fin hr (by omega)).1,hC.fin_t hr (by omega) (show i<l.length by omega)]; rfl)
   ·
    simp only[bs] at hg3
    refine aE aA 10 rfl (aD (hK9 _ (aJ ?_)))
    refine⟨_,rfl,?_⟩
    (rw[(hC.fin hr (by omega)).1,hC.fin_f hr (by omega) (by omega)]; rfl)
theorem aDw (x:Tm) (u:ByteArray) :Den Tryz.prog 258 [.agg (tmC x),.s (.string u),.adr [.fn 139 []]]  (·=.s (.int .i64 (dL x.1 u))):=by
 refine aU Tryz.func258 rfl (Nat.le_of_ble_eq_true rfl) (fun w0 A hf=>(aC (fun K1 hK1=>(aB (aM hf rfl (cP rfl rfl (lf rfl)) (aE aA 1 rfl (aD (hK1 _ (aC (fun K2 hK2=>(aB (aE aA 2 rfl (aM hf rfl (aQ rfl rfl aHs rfl (aH2 x)) (aE aA 1 rfl (aM hf rfl (aQ rfl rfl oC rfl (Nm.cmp_den x.1 u)) ?_)))))))))))))))
 refine aE aA 1 rfl (aD (hK2 _ (aJ ?_)))
 refine⟨_,rfl,?_⟩
 rfl
theorem aH4 (l:List Tm) (u:ByteArray) (hl:l.length≤4611686018427387903) (hr:cR dN l) :Den Tryz.prog 230 [.sl 2 (l.map tmC),.s (.string u),.fn 139 []]  (·=.tup [.s (.int .i64 (cN dN l u:Nat)),.s (.bool (jZ dN l u))]):=by
 refine aU Tryz.func230 rfl (Nat.le_of_ble_eq_true rfl) (fun w0 A hf=>(aC (fun K1 hK1=>(aB (aM hf rfl (cP rfl rfl (lf rfl)) (aE aA 2 rfl (aD (hK1 _ (aC (fun K2 hK2=>(aB (aE aA 2 rfl (aG rfl (fV rfl) (aM hf rfl (aQ rfl rfl aGi rfl (aDv aGh rfl l u hl hr (fun x _=>aDw x u))) (aE aA 4 rfl ?_)))))))))))))))
 refine aD (hK2 _ (aJ ?_))
 refine⟨_,rfl,?_⟩
 rfl
end Go.Proofs.YthapfogcaklbbaaGreat
set_option linter.unusedVariables false
set_option linter.unusedSimpArgs false
namespace Go.Proofs.YthapfogcaklbbaaGreat
open Go Go.Abs
theorem xR {g:Nat} {cap:List AV} (hent:∀ args w,(callFunc g args).run Tryz.prog w=.ok (.enter g args) w) (hcl:cleanL (fun _=>false) cap=true) (p:Us→Bool) (l:List Us) (hl:l.length≤9223372036854775807) (hp:∀ x∈l,Den Tryz.prog g (.agg (usC x)::cap) (·=.s (.bool (p x)))) :Den Tryz.prog 198 [.sl 2 (l.map usC),.fn g cap]  (·=.s (.int .i64 (nA p l))):=by
 refine aU Tryz.func198 rfl (Nat.le_of_ble_eq_true rfl) (fun w0 A hf=>(aC (fun K1 hK1=>(aB (aE aA 1 rfl (aD (hK1 _ (aC (fun K2 hK2=>(aC (fun K3 hK3=>(aB (aE aA 3 rfl (aD (hK3 _ (aO ?_))))))))))))))))
 refine bR (ι:=Nat) (fun k=>⟨19,[(0,.sl 2 (l.map usC)),(1,.fn g cap),(7,.s (.int .i64 ((l.map usC).length:Nat))),(8,.s (.int .i64 (k:Nat)))],[]⟩) (fun k=>k≤l.length∧∀ (j:Nat) (hj:j<l.length),j<k→p l[j]=false) (fun k=>l.length - k) 0 ?_ ?_ ?_
 · exact⟨by omega,by omega⟩
 · exact cX rfl
 ·
  rintro k hC
  obtain ⟨h1,h2⟩:=hC
  refine aC (fun K4 hK4=>(aB (aE aA 1 rfl (aD (hK4 _ (aC (fun K5 hK5=>(aK rfl (fun hc1=>?_) (fun hc1=>?_)))))))))
  ·
   simp only[bs] at hc1
   refine aN (hK5 _ (aC (fun K6 hK6=>(aO (aC (fun K7 hK7=>(aB (aE aA 2 rfl (aD (hK7 _ (aC (fun K8 hK8=>(aB (aE aA 3 rfl ?_))))))))))))))
   refine aG rfl (bB rfl rfl eL dQ (by first | exact ixm (by omega) | assumption | exact⟨by decide,rfl⟩)) ?_
   refine aE aA 1 rfl (aM hf rfl (aQ rfl rfl hent (by rw[fD,hcl]; rfl) (hp _ (List.getElem_mem _))) ?_)
   refine aD (hK8 _ (aK rfl (fun hc2=>?_) (fun hc2=>?_)))
   ·
    refine aC (fun K9 hK9=>(aB (aE aA 2 rfl (aD (hK9 _ (aJ ?_))))))
    refine⟨_,rfl,?_⟩
    refine dZ ?_
    rw[mZ (by omega) h2 (by assumption)]
   ·
    refine aN (hK6 _ (aB ?_))
    refine aG rfl (bO rfl rfl (by omega) (by omega)) ?_
    refine aE aA 1 rfl (aD ?_)
    exact⟨k+1,⟨by omega,fun j hj hjk=>by
      by_cases e:j=k
      · subst e; simp_all
      · exact h2 j hj (by omega)⟩,by omega,cX rfl⟩
  ·
   simp only[bs] at hc1
   refine aW (hK2 _ (aC (fun K10 hK10=>(aB (aE aA 1 rfl (aD (hK10 _ (aJ ?_))))))))
   refine⟨_,rfl,?_⟩
   refine dZ ?_
   rw[oZ (fun j hj=>h2 j hj (by omega))]
theorem wT {g:Nat} {cap:List AV} (hent:∀ args w,(callFunc g args).run Tryz.prog w=.ok (.enter g args) w) (hcl:cleanL (fun _=>false) cap=true) (hcv:∀ m,convL m cap=cap) (p:Us→Bool) (l:List Us) (n:Nat) (hn:n=l.length) (hl:l.length≤9223372036854775807) (hp:∀ x∈l,Den Tryz.prog g (.agg (usC x)::cap) (·=.s (.bool (p x)))) :DenM Tryz.prog 226 [.own E0 2 0 n,.fn g cap] 2 ((l.map usC)) (fun r ys=>r=.own E0 2 0 (l.filter fun x=>!p x).length∧ys=((l.filter fun x=>!p x).map usC)):=by
 subst hn
 have hq0:∀ j,((l.take j).filter fun x=>!p x).length≤j:=fun j=>gG _ l j
 have hq1:∀ j,((l.take j).filter fun x=>!p x).length≤l.length:=fun j=>fQ _ l j
 refine fI Tryz.func226 rfl (Nat.le_of_ble_eq_true rfl) (fun w0 x0 A hf=>?_)
 refine aC (fun K1 hK1=>(aB (aG rfl (bH) (aD (hK1 _ (aC (fun K2 hK2=>(aB (aE aA 2 rfl (aM hf rfl (pN rfl rfl (by show [AV.conv _ _,AV.fn g (convL _ cap)]=_; rw[hcv,cI (g:=E0) rfl (by simp)]) aHb (xR hent hcl p l hl hp) rfl) ?_))))))))))
 refine aE aA 1 rfl (aD (hK2 _ (aC (fun K3 hK3=>(aC (fun K4 hK4=>(aB (aE aA 2 rfl (aD (hK4 _ (aK rfl (fun hc1=>?_) (fun hc1=>?_))))))))))))
 ·
  simp only[bs] at hc1
  refine aC (fun K5 hK5=>(aB (aE aA 2 rfl (aD (hK5 _ (aJ ?_))))))
  have hno:nA p l=-1:=by simpa using hc1
  rcases dM p l with ⟨_,hn⟩ | ⟨k,hk,e,_⟩
  · exact⟨_,.own E0 2 0 l.length,(l.map usC),Le.refl _,rfl,rfl,by rw[fB p l hn],by rw[fB p l hn]⟩
  · exfalso; omega
 ·
  simp only[bs] at hc1
  refine aN (hK3 _ (aC (fun K6 hK6=>(aC (fun K7 hK7=>(aB ?_))))))
  rcases dM p l with ⟨e0,_⟩ | ⟨k0,hk0,ek0,hpk0,hbef⟩
  · exact absurd e0 (by simpa using hc1)
  have hst:=kI (fun x=>!p x) l k0 hk0 (fun j hj hjk=>by simp [hbef j hj hjk]) (by simp [hpk0])
  rw[ek0]
  refine aE aA 1 rfl ?_
  refine aG rfl (bO rfl rfl (by omega) (by omega)) ?_
  refine aE aA 1 rfl (aD (hK7 _ (aO (bR (ι:=Nat) (fun j=>⟨42,[(0,.own E0 2 0 l.length),(1,.fn g cap),(5,.s (.int .i64 (((l.take j).filter fun x=>!p x).length:Nat))),(6,.s (.int .i64 (j:Nat)))],[(E0,.buf 2 ((gS (fun x=>!p x) l j).map usC))]⟩) (fun j=>j≤l.length) (fun j=>l.length - j) (k0+1) ?_ ?_ ?_))))
  · exact hk0
  · rw[hst.1,hst.2]; exact jB ⟨rfl,rfl,rfl,rfl,trivial⟩
  ·
   rintro j hC
   let q:=fun x=>!p x
   have hle:((l.take j).filter q).length≤j:=hq0 j
   have hle2:((l.take j).filter fun x=>!p x).length≤j:=hq0 j
   refine aC (fun K8 hK8=>(aC (fun K9 hK9=>(aB (aE aA 4 rfl (aD (hK9 _ (aK rfl (fun hc2=>?_) (fun hc2=>?_)))))))))
   ·
    simp only[bs] at hc2
    refine aN (hK8 _ (aC (fun K10 hK10=>(aO (aC (fun K11 hK11=>(aB (aE aA 2 rfl ?_))))))))
    refine aG rfl (bN rfl rfl eL dQ (by omega)) ?_
    refine aG rfl (bP rfl aLs dQ rfl (rL (c:=2) (k:=j) (enc:=usC) (by omega) (by rw[dW]; omega) rfl) (cs':=usC l[j]) (by rw[oS (c:=2) (k:=j) (enc:=usC) (by omega) (by rw[dW]; omega) rfl,pA q l j j (by omega) hle])) ?_
    refine cC hf rfl rP rfl dQ rfl rfl rfl rfl (lf rfl) (aD (hK11 _ (aC (fun K12 hK12=>(aB (aE aA 2 rfl (aM hf rfl (aQ rfl rfl hent (by rw[fD,hcl]; rfl) (hp _ (List.getElem_mem _))) ?_)))))))
    refine aE aA 1 rfl (aD (hK12 _ (aK rfl (fun hc3=>?_) (fun hc3=>?_))))
    ·
     simp only[bs] at hc3
     refine aC (fun K13 hK13=>(aB (aE aA 3 rfl ?_)))
     refine aG rfl (bN rfl rfl eL dQ (by omega)) ?_
     refine aT hf rfl rfl dQ rfl rfl (by simp [usC,AV.cells,AV.one,Value.oneCell',splice]) (by simp [usC,AV.cells,AV.leaf,Value.oneCell',splice]) (gE (c:=2) (k:=((l.take j).filter fun x=>!p x).length) (enc:=usC) (v:=l[j]) (by omega) (by rw[dW]; omega) rfl (Nat.le_refl _)) ?_
     refine aD (hK13 _ (aB ?_))
     rw[jD (fun x=>!p x) l j (by omega) (by simp_all)]
     refine aE aA 1 rfl ?_
     refine aG rfl (bO rfl rfl (by omega) (by omega)) ?_
     rw[lG (fun x=>!p x) l j (by omega) (by simp_all)]
     refine aE aA 1 rfl ?_
     refine bG ?_
     refine hK10 _ (aB (aE aA 1 rfl ?_))
     refine aG rfl (bO rfl rfl (by omega) (by omega)) ?_
     refine aE aA 1 rfl (aD ?_)
     exact⟨j+1,(by omega),by omega,cX rfl⟩
    ·
     simp only[bs] at hc3
     rw[jE (fun x=>!p x) l j (by omega) (by simp_all),lH (fun x=>!p x) l j (by omega) (by simp_all)]
     refine aN (hK10 _ (aB (aE aA 1 rfl ?_)))
     refine aG rfl (bO rfl rfl (by omega) (by omega)) ?_
     refine aE aA 1 rfl (aD ?_)
     exact⟨j+1,(by omega),by omega,cX rfl⟩
   ·
    simp only[bs] at hc2
    refine aW (hK6 _ (aC (fun K14 hK14=>(aB (aE aA 2 rfl ?_)))))
    refine aG rfl (eA rfl eL dQ rfl rfl (by omega) (by omega)) ?_
    refine tD hf jX rP (by simp [Value.oneCell']) rfl rfl ?_
    refine aD (hK14 _ (aC (fun K15 hK15=>(aB (aE aA 2 rfl ?_)))))
    refine aG rfl (eA rfl eL dQ rfl rfl (by omega) (by omega)) ?_
    refine aE aA 1 rfl (aD (hK15 _ (aJ ?_)))
    have hjl:l.length≤j:=by omega
    have he:=nE (fun x=>!p x) l j hjl
    refine⟨_,_,_,Le.refl _,rfl,rfl,?_,?_⟩
    · rw[List.take_of_length_le hjl]; rfl
    · rw[List.take_of_length_le hjl,Nat.zero_add,Int.toNat_natCast,← List.map_take,he]
theorem mK (l:List Us) (hl:l.length*40≤140737488355328) :DenO Tryz.prog 144 [.sl 2 (l.map usC)] 2 (·=(l.map usC)):=by
 refine eK Tryz.func144 rfl (Nat.le_of_ble_eq_true rfl) (fun w0 A hf=>?_)
 refine aC (fun K1 hK1=>(aB (aG rfl (bH) (aD (hK1 _ (aC (fun K2 hK2=>(aC (fun K3 hK3=>(aB (aE aA 1 rfl ?_)))))))))))
 refine kL rfl rfl rfl eL (fun b hb1=>?_)
 refine aD (hK3 _ (aK rfl (fun hc2=>?_) (fun hc2=>?_)))
 ·
  have hl0:l=[]:=by simpa using hb1 (by assumption)
  refine aC (fun K4 hK4=>(aB (oJ hf 2 rfl rfl rfl (aD (hK4 _ (aJ ?_))))))
  exact⟨2,[],by decide,rfl,rfl,by rw[hl0]; rfl⟩
 ·
  refine aN (hK2 _ (aC (fun K5 hK5=>(aB (gO hf rfl rfl rfl jX rfl rfl rfl rfl (l2 rfl) ?_)))))
  refine aE aA 1 rfl (eF hf rfl jX rfl rfl rfl (.inl rfl) rfl rfl (by first | rfl | simp [kA,bF]) (by first | (simp only[maxLen,List.length_map,List.length_append,List.length_cons,List.length_nil]; omega) | (simp [maxLen] <;> omega)) (by first | (simp only[List.length_map,List.length_append,List.length_cons,List.length_nil]; omega) | (simp <;> omega)) ?_)
  refine cD (iX [7] rfl) (aE aA 1 rfl (aD (hK5 _ (aJ ?_))))
  refine⟨5,(l.map usC),by decide,rfl,?_,rfl⟩
  show some (AV.own 5 2 0 (0+(l.map usC).length))=_
  rw[Nat.zero_add]
theorem aJ9 (n:Nat) (hn:n*40≤140737488355328) :DenO Tryz.prog 261 [.s (.slice none 0 0),.s (.int .i64 (n:Nat))] 2 (·=[]):=by
 refine eK Tryz.func261 rfl (Nat.le_of_ble_eq_true rfl) (fun w0 A hf=>?_)
 refine aC (fun K1 hK1=>(aB (aG rfl (bH) (aD (hK1 _ (aC (fun K2 hK2=>(aC (fun K3 hK3=>(aB (aE aA 2 rfl (aD (hK3 _ (aK rfl (fun hc1=>?_) (fun hc1=>?_)))))))))))))))
 ·
  simp only[bs] at hc1
  omega
 ·
  simp only[bs] at hc1
  refine aN (hK2 _ (aC (fun K4 hK4=>(aC (fun K5 hK5=>(aB (aE aA 2 rfl (aG rfl (jO rfl eL) (aE aA 2 rfl ?_)))))))))
  refine aG rfl (eH rfl rfl (by omega) (by omega)) ?_
  refine aG rfl (eH rfl rfl (by omega) (by omega)) ?_
  refine aE aA 1 rfl (aD (hK5 _ (aC (fun K6 hK6=>(aB (aE aA 2 rfl (aD (hK6 _ (aK rfl (fun hc2=>?_) (fun hc2=>?_))))))))))
  ·
   simp only[bs] at hc2
   refine aB (aE aA 2 rfl (aG rfl (jO rfl eL) ?_))
   refine aG rfl (nV rfl eL dQ rfl) ?_
   refine aE aA 1 rfl (rC hf rfl rfl rfl jX Tryz.underlying3 rfl rfl (by omega) (by omega) (by simp only[maxLen]; omega) ?_)
   refine aE aA 2 rfl ?_
   refine aG rfl (eA rfl eL dQ rfl rfl (by omega) (by omega)) ?_
   refine aE aA 1 rfl (aD (hK4 _ (aC (fun K7 hK7=>(aB (aE aA 1 rfl ?_))))))
   refine aG rfl (qK rfl) ?_
   refine aD (hK7 _ (aJ ?_))
   exact⟨22,[],by decide,rfl,rfl,rfl⟩
  ·
   simp only[bs] at hc2
   refine aN (hK4 _ (aC (fun K8 hK8=>(aB (aE aA 1 rfl ?_)))))
   refine aCc hf 2 rfl rfl rfl rfl ?_
   refine aD (hK8 _ (aJ ?_))
   exact⟨4,[],by decide,rfl,rfl,rfl⟩
theorem aDs (rows:List (List Us)) (hl:rows.length≤9223372036854775807) (hb:rows.flatten.length*40≤140737488355328) :DenO Tryz.prog 232 [.sl 1 (rows.map fun r=>[AV.sl 2 (r.map usC)])] 2 (·=(rows.flatten.map usC)):=by
 refine eK Tryz.func232 rfl (Nat.le_of_ble_eq_true rfl) (fun w0 A hf=>?_)
 refine aC (fun K1 hK1=>(aB (aG rfl (bH) (aD (hK1 _ (aC (fun K2 hK2=>(aB (aE aA 1 rfl (aD (hK2 _ (aC (fun K3 hK3=>(aC (fun K4 hK4=>(aB ?_))))))))))))))))
 refine aE aA 3 rfl (aD (hK4 _ (aO (bR (ι:=Nat) (fun k=>⟨36,[(0,.sl 1 (rows.map fun r=>[AV.sl 2 (r.map usC)])),(3,.s (.int .i64 ((rows.take k).flatten.length:Nat))),(9,.sl 1 (rows.map fun r=>[AV.sl 2 (r.map usC)])),(10,.s (.int .i64 ((rows.map fun r=>[AV.sl 2 (r.map usC)]).length:Nat))),(11,.s (.int .i64 (k:Nat)))],[]⟩) (fun k=>k≤rows.length) (fun k=>rows.length - k) 0 ?_ ?_ ?_))))
 · exact Nat.zero_le _
 · exact cX rfl
 ·
  rintro k hC
  refine aC (fun K5 hK5=>(aB (aE aA 1 rfl (aD (hK5 _ (aC (fun K6 hK6=>(aK rfl (fun hc1=>?_) (fun hc1=>?_)))))))))
  ·
   simp only[bs] at hc1
   refine aN (hK6 _ (aC (fun K7 hK7=>(aO (aC (fun K8 hK8=>(aB ?_)))))))
   refine aG rfl (bB rfl rfl aB7 nQ (by first | exact ixm (by omega) | assumption | exact⟨by decide,rfl⟩)) ?_
   refine aE aA 2 rfl (aD (hK8 _ (aC (fun K9 hK9=>(aB ?_)))))
   have hk:k<rows.length:=by omega
   have e1:=congrArg List.length (fN rows k hk)
   rw[List.length_append] at e1
   have e2:=nX rows (k+1)
   have e3:(rows[k].map usC).length=rows[k].length:=List.length_map _
   refine aE aA 3 rfl ?_
   refine aG rfl (bO rfl rfl (by omega) (by omega)) ?_
   rw[show ((((rows.take k).flatten.length:Nat):Int)+(((rows[k].map usC).length:Nat):Int))=(((rows.take (k+1)).flatten.length:Nat):Int) from by omega]
   refine aE aA 1 rfl (aD (hK9 _ (aC (fun K10 hK10=>(aB (aE aA 2 rfl (aD (hK10 _ (aK rfl (fun hc2=>?_) (fun hc2=>?_))))))))))
   ·
    simp only[bs] at hc2
    omega
   ·
    simp only[bs] at hc2
    refine aN (hK7 _ (aB ?_))
    refine aG rfl (bO rfl rfl (by omega) (by omega)) ?_
    refine aE aA 1 rfl (aD ?_)
    exact⟨k+1,(by omega),by omega,cX rfl⟩
  ·
   simp only[bs] at hc1
   refine aW (hK3 _ (aC (fun K11 hK11=>(aB ?_))))
   rw[List.take_of_length_le (show rows.length≤k by omega)]
   refine aE aA 1 rfl (fR hf rfl rfl rfl rfl rfl aGg rfl (aJ9 rows.flatten.length (by omega)) ?_)
   rintro _ rfl
   refine aE aA 1 rfl (aD (hK11 _ (aC (fun K12 hK12=>(aC (fun K13 hK13=>(aB (aE aA 3 rfl (aD (hK13 _ (aO (bR (ι:=Nat) (fun j=>⟨36,[(6,.own 24 2 0 (rows.take j).flatten.length),(25,.sl 1 (rows.map fun r=>[AV.sl 2 (r.map usC)])),(26,.s (.int .i64 ((rows.map fun r=>[AV.sl 2 (r.map usC)]).length:Nat))),(27,.s (.int .i64 (j:Nat)))],[(24,.buf 2 ((rows.take j).flatten.map usC))]⟩) (fun j=>j≤rows.length) (fun j=>rows.length - j) 0 ?_ ?_ ?_))))))))))))
   · exact Nat.zero_le _
   · exact cX rfl
   ·
    rintro j hC
    refine aC (fun K14 hK14=>(aB (aE aA 1 rfl (aD (hK14 _ (aC (fun K15 hK15=>(aK rfl (fun hc3=>?_) (fun hc3=>?_)))))))))
    ·
     simp only[bs] at hc3
     refine aN (hK15 _ (aC (fun K16 hK16=>(aO (aC (fun K17 hK17=>(aB ?_)))))))
     refine aG rfl (bB rfl rfl aB7 nQ (by first | exact ixm (by omega) | assumption | exact⟨by decide,rfl⟩)) ?_
     refine aE aA 2 rfl (aD (hK17 _ (aB ?_)))
     have hj:j<rows.length:=by omega
     have e1:=congrArg List.length (fN rows j hj)
     rw[List.length_append] at e1
     have e2:=nX rows (j+1)
     have e3:(rows[j].map usC).length=rows[j].length:=List.length_map _
     refine aE aA 2 rfl (eF hf rfl jX rfl rfl rfl (.inl rfl) (by simp only[List.length_map]) rfl (by first | rfl | simp [kA,bF]) (by first | (simp only[maxLen,List.length_map,List.length_append,List.length_cons,List.length_nil]; omega) | (simp [maxLen] <;> omega)) (by first | (simp only[List.length_map,List.length_append,List.length_cons,List.length_nil]; omega) | (simp <;> omega)) ?_)
     refine cD (iX [25,26,27,33] rfl) ?_
     rw[show (rows.take j).flatten.length+(rows[j].map usC).length=(rows.take (j+1)).flatten.length from by omega,← List.map_append,← fN rows j hj]
     refine aE aA 1 rfl ?_
     refine bG ?_
     refine hK16 _ (aB ?_)
     refine aG rfl (bO rfl rfl (by omega) (by omega)) ?_
     refine aE aA 1 rfl (aD ?_)
     exact⟨j+1,(by omega),by omega,cX rfl⟩
    ·
     simp only[bs] at hc3
     refine aW (hK12 _ (aC (fun K18 hK18=>(aB (aE aA 2 rfl (aD (hK18 _ (aJ ?_))))))))
     refine⟨24,(rows.flatten.map usC),by decide,?_,?_,rfl⟩
     · rw[List.take_of_length_le (show rows.length≤j by omega)]; rfl
     · rw[List.take_of_length_le (show rows.length≤j by omega)]
       show some (AV.own 24 2 0 rows.flatten.length)=_
       rw[List.length_map]
end Go.Proofs.YthapfogcaklbbaaGreat
set_option linter.unusedVariables false
set_option linter.unusedSimpArgs false
namespace Go.Proofs.YthapfogcaklbbaaGreat
open Go Go.Abs
theorem lI (s:Sta) (hz:SzS 140737488355328 s) :DenX Tryz.prog 70 [.agg (aY s)] [] (fun r m=>r=.agg (dK s E0 E1)∧m=[(E0,.buf 2 (s.usr.map usC)),(E1,.buf 2 (s.tmb.map tmC))]):=by
 have z1:=hz.o
 have z2:=hz.u
 have z3:=hz.b
 have z4:=hz.t
 refine fW [] Tryz.func70 rfl (Nat.le_of_ble_eq_true rfl) (args':=[.agg (aY s)]) (m':=[]) rfl rfl (by decide) (by decide) rfl (fun w0 o0 A hf=>?_)
 refine aC (fun K1 hK1=>(aB (pX hf rfl rfl rfl rfl (l1 rfl) ?_)))
 refine bJ hf rfl rfl rfl bC (aD (hK1 _ (aC (fun K2 hK2=>(eS bI ?_)))))
 refine bK (listed':=#[true,false,false,false,false,false,false,false,false,false,false,false,false,false,false,false,false,false,false,false]) 0 rfl (by kernel_rfl) (by kernel_rfl) (by kernel_rfl) rfl (fun _ _ h=>h) (jL rfl aGe lP rfl) ?_
 refine bK (listed':=#[true,false,false,true,false,false,false,false,false,false,false,false,false,false,false,false,false,false,false,false]) 3 rfl (by kernel_rfl) (by kernel_rfl) (by kernel_rfl) rfl (fun _ _ h=>h) (jL rfl aGd nQ rfl) ?_
 refine bK (listed':=#[true,false,false,true,false,false,true,false,false,false,false,false,false,false,false,false,false,false,false,false]) 6 rfl (by kernel_rfl) (by kernel_rfl) (by kernel_rfl) rfl (fun _ _ h=>h) (jL rfl aGc nP rfl) ?_
 refine bK (listed':=#[true,false,false,true,false,false,true,false,false,true,false,false,false,false,false,false,false,false,false,false]) 9 rfl (by kernel_rfl) (by kernel_rfl) (by kernel_rfl) rfl (fun _ _ h=>h) (jL rfl aGb rB rfl) ?_
 refine aR 7 #[true,true,true,true,true,true,true,true,true,true,true,true,true,false,false,false,false,false,false,false] ⟨40,[(1,.ref 1 0 0 0),(2,.ref 2 0 0 0),(6,.sl 4 (s.opn.map seC)),(9,.own 9 2 0 (s.usr.map usC).length),(12,.sl 4 (s.sub.map enC)),(15,.own 15 2 0 (s.tmb.map tmC).length),(16,.ref 1 0 0 2)],[(15,.buf 2 (s.tmb.map tmC)),(9,.buf 2 (s.usr.map usC)),(2,.box [.s (.int .i64 0),.s (.int .i64 0),.s (.slice none 0 0),.s (.slice none 0 0),.s (.slice none 0 0),.s (.slice none 0 0)]),(1,.box (aY s))]⟩ ?_ (fun hD0=>?_)
 ·
  refine aI 13 [] (by kernel_rfl) ⟨?_,trivial⟩
  ·
   refine⟨_,rfl,rfl,(ao rfl (aT hf rfl rfl lP rfl rfl (l1 rfl) (l4 rfl) rfl (aF (aI 14 [] (by kernel_rfl) ⟨?_,trivial⟩))))⟩
   ·
    refine⟨_,rfl,rfl,(ao rfl (aE aA 1 rfl (aF (aI 15 [] (by kernel_rfl) ⟨?_,trivial⟩))))⟩
    ·
     refine⟨_,rfl,rfl,(ao rfl (aT hf rfl rfl nQ rfl rfl (l1 rfl) (l4 rfl) rfl (aF (aI 16 [] (by kernel_rfl) ⟨?_,trivial⟩))))⟩
     ·
      refine⟨_,rfl,rfl,(ao rfl (aE aA 1 rfl (aF (aI 17 [] (by kernel_rfl) ⟨?_,trivial⟩))))⟩
      ·
       refine⟨_,rfl,rfl,(ao rfl (aT hf rfl rfl nP rfl rfl (l1 rfl) (l4 rfl) rfl (aF (aI 18 [] (by kernel_rfl) ⟨?_,trivial⟩))))⟩
       ·
        refine⟨_,rfl,rfl,(ao rfl (aE aA 1 rfl (aF (aI 19 [] (by kernel_rfl) ⟨?_,trivial⟩))))⟩
        ·
         refine⟨_,rfl,rfl,(ao rfl (aT hf rfl rfl rB rfl rfl (l1 rfl) (l4 rfl) rfl (aF (dC (by kernel_rfl) ?_))))⟩
         refine hK2 _ (aC (fun K3 hK3=>(aC (fun K4 hK4=>(aB (aE aA 4 rfl (aD (hK4 _ (aO (bR (ι:=Nat) (fun k=>⟨40,[(1,.ref 1 0 0 0),(2,.ref 2 0 0 0),(22,.s (.int .i64 ((s.usr.map usC).length:Nat))),(23,.s (.int .i64 (k:Nat)))],[(15,.buf 2 (s.tmb.map tmC)),(9,.buf 2 (s.usr.map usC)),(2,.box [.s (.int .i64 0),.s (.int .i64 0),.s (.slice none 0 0),.s (.slice none 0 0),.s (.slice none 0 0),.s (.slice none 0 0)]),(1,.box (dK s 9 15))]⟩) (fun k=>k≤s.usr.length) (fun k=>s.usr.length - k) 0 ?_ ?_ ?_))))))))))
         · exact Nat.zero_le _
         · exact cX rfl
         ·
          rintro k hC
          refine aC (fun K5 hK5=>(aB (aE aA 1 rfl (aD (hK5 _ (aC (fun K6 hK6=>(aK rfl (fun hc1=>?_) (fun hc1=>?_)))))))))
          ·
           simp only[bs] at hc1
           refine aN (hK6 _ (aC (fun K7 hK7=>(aO (aC (fun K8 hK8=>(aB ?_)))))))
           have hk:k<s.usr.length:=by omega
           have hlm:(s.usr.map usC).length=s.usr.length:=List.length_map _
           refine aE aA 2 rfl (aD (hK8 _ (iR hf (L:=#[true,true,true,true,true,true,true,true,true,true,true,true,false]) 12 1 bI (by kernel_rfl) rfl (by kernel_rfl) rfl ?_)))
           refine aX aA 6 rfl ?_
           refine bL [(30,_),(31,_)] rfl rfl ⟨⟨rfl,rfl⟩,⟨rfl,rfl⟩,trivial⟩ rfl (bN rfl rfl eL dQ (by omega)) ?_
           refine aX aA 1 rfl (bL [(33,_)] rfl rfl ⟨⟨rfl,rfl⟩,trivial⟩ rfl (zA rfl aF9 rfl ((aEm (by omega) hk 1).trans rfl)) (bT [(34,_)] rfl rfl ⟨⟨rfl,rfl⟩,trivial⟩ rfl (aQ rfl rfl sX rfl (cJ (sL s.usr[k].2 (hz.y _ (List.getElem_mem hk))))) ?_))
           refine bL [(27,_),(28,_)] rfl rfl ⟨⟨rfl,rfl⟩,⟨rfl,rfl⟩,trivial⟩ rfl (bN rfl rfl eL dQ (by omega)) ?_
           refine aX aA 1 rfl (vC [1,2,22,23,35,37] rfl rfl rfl ?_)
           refine aI 12 [] (by kernel_rfl) ⟨?_,trivial⟩
           ·
            refine⟨_,rfl,rfl,(ao rfl (aT hf rfl rfl uO rfl rfl (by simp [AV.cells,AV.one,Value.oneCell']) (by simp [AV.cells,AV.leaf,Value.oneCell']) (gE (c:=2) (k:=k) (f:=1) (enc:=usC) (v:=s.usr[k]) (by omega) (by omega) rfl (Nat.le_of_ble_eq_true rfl)) ?_))⟩
            refine aF (dC (by kernel_rfl) ?_)
            refine hK7 _ (aB ?_)
            refine aG rfl (bO rfl rfl (by omega) (by omega)) ?_
            refine aE aA 1 rfl (aD ?_)
            exact⟨k+1,by omega,by omega,cK ⟨rfl,rfl,rfl,rfl,trivial⟩ (by rw[List.set_getElem_self]; rfl)⟩
          ·
           simp only[bs] at hc1
           refine aW (hK3 _ (aC (fun K9 hK9=>(aB (aG rfl (bP (cs':=dK s 9 15) rfl lK cF rfl rfl rfl) (aT hf rfl rfl cF rfl rfl (l1 rfl) (l4 rfl) rfl (aD (hK9 _ (aJ ?_)))))))))
           exact⟨_,[(E0,9),(E1,15)],_,Le.refl _,by decide,rfl,rfl,⟨rfl,rfl⟩⟩
 refine aR 8 #[true,true,true,true,true,true,true,true,true,true,true,true,false,false,false,false,false,false,false,false] ⟨40,[(1,.ref 1 0 0 0),(2,.ref 2 0 0 0),(6,.sl 4 (s.opn.map seC)),(9,.own 9 2 0 (s.usr.map usC).length),(12,.sl 4 (s.sub.map enC)),(15,.own 15 2 0 (s.tmb.map tmC).length)],[(15,.buf 2 (s.tmb.map tmC)),(9,.buf 2 (s.usr.map usC)),(2,.box [.s (.int .i64 0),.s (.int .i64 0),.s (.slice none 0 0),.s (.slice none 0 0),.s (.slice none 0 0),.s (.slice none 0 0)]),(1,.box (aY s))]⟩ ?_ (fun hD1=>?_)
 ·
  refine aI 12 [] (by kernel_rfl) ⟨?_,trivial⟩
  ·
   refine⟨_,rfl,rfl,(ao rfl (aE aA 1 rfl (aF (ag hD0 rfl rfl rfl))))⟩
 refine aR 8 #[true,true,true,true,true,true,true,true,true,true,true,false,true,false,false,false,false,false,false,false] ⟨40,[(1,.ref 1 0 0 0),(2,.ref 2 0 0 0),(6,.sl 4 (s.opn.map seC)),(9,.own 9 2 0 (s.usr.map usC).length),(12,.sl 4 (s.sub.map enC)),(14,.sl 2 (s.tmb.map tmC)),(16,.ref 1 0 0 2)],[(9,.buf 2 (s.usr.map usC)),(2,.box [.s (.int .i64 0),.s (.int .i64 0),.s (.slice none 0 0),.s (.slice none 0 0),.s (.slice none 0 0),.s (.slice none 0 0)]),(1,.box (aY s))]⟩ ?_ (fun hD2=>?_)
 ·
  refine aI 11 [] (by kernel_rfl) ⟨?_,trivial⟩
  ·
   refine⟨_,rfl,rfl,(ao rfl (fR hf rfl rfl rfl rfl rfl wM rfl (xW s.tmb (by omega)) ?_))⟩
   rintro _ rfl
   refine aF (ag hD0 rfl rfl rfl)
 refine aR 9 #[true,true,true,true,true,true,true,true,true,true,true,false,false,false,false,false,false,false,false,false] ⟨40,[(1,.ref 1 0 0 0),(2,.ref 2 0 0 0),(6,.sl 4 (s.opn.map seC)),(9,.own 9 2 0 (s.usr.map usC).length),(12,.sl 4 (s.sub.map enC)),(14,.sl 2 (s.tmb.map tmC))],[(9,.buf 2 (s.usr.map usC)),(2,.box [.s (.int .i64 0),.s (.int .i64 0),.s (.slice none 0 0),.s (.slice none 0 0),.s (.slice none 0 0),.s (.slice none 0 0)]),(1,.box (aY s))]⟩ ?_ (fun hD3=>?_)
 ·
  refine aI 11 [12] (by kernel_rfl) ⟨?_,?_,trivial⟩
  ·
   refine⟨_,rfl,rfl,(ao rfl (fR hf rfl rfl rfl rfl rfl wM rfl (xW s.tmb (by omega)) ?_))⟩
   rintro _ rfl
   refine aF (ag hD1 rfl rfl rfl)
  ·
   refine⟨_,rfl,rfl,(ao rfl (aE aA 1 rfl (aF (ag hD2 rfl rfl rfl))))⟩
 refine aR 9 #[true,true,true,true,true,true,true,true,false,true,true,false,true,false,false,false,false,false,false,false] ⟨40,[(1,.ref 1 0 0 0),(2,.ref 2 0 0 0),(6,.sl 4 (s.opn.map seC)),(9,.own 9 2 0 (s.usr.map usC).length),(11,.sl 4 (s.sub.map enC)),(14,.sl 2 (s.tmb.map tmC)),(16,.ref 1 0 0 2)],[(9,.buf 2 (s.usr.map usC)),(2,.box [.s (.int .i64 0),.s (.int .i64 0),.s (.slice none 0 0),.s (.slice none 0 0),.s (.slice none 0 0),.s (.slice none 0 0)]),(1,.box (aY s))]⟩ ?_ (fun hD4=>?_)
 ·
  refine aI 8 [] (by kernel_rfl) ⟨?_,trivial⟩
  ·
   refine⟨_,rfl,rfl,(ao rfl (aM hf rfl (aQ rfl rfl lN rfl (cJ (nD s.sub (by omega)))) (aF (ag hD2 rfl rfl rfl))))⟩
 refine aR 10 #[true,true,true,true,true,true,true,true,true,true,false,false,false,false,false,false,false,false,false,false] ⟨40,[(1,.ref 1 0 0 0),(2,.ref 2 0 0 0),(6,.sl 4 (s.opn.map seC)),(9,.own 9 2 0 (s.usr.map usC).length),(12,.sl 4 (s.sub.map enC)),(13,.ref 1 0 0 5)],[(9,.buf 2 (s.usr.map usC)),(2,.box [.s (.int .i64 0),.s (.int .i64 0),.s (.slice none 0 0),.s (.slice none 0 0),.s (.slice none 0 0),.s (.slice none 0 0)]),(1,.box (aY s))]⟩ ?_ (fun hD5=>?_)
 ·
  refine aI 10 [] (by kernel_rfl) ⟨?_,trivial⟩
  ·
   refine⟨_,rfl,rfl,(ao rfl (aE aA 1 rfl (aF (ag hD3 rfl rfl rfl))))⟩
 refine aR 10 #[true,true,true,true,true,true,true,true,false,true,true,false,false,false,false,false,false,false,false,false] ⟨40,[(1,.ref 1 0 0 0),(2,.ref 2 0 0 0),(6,.sl 4 (s.opn.map seC)),(9,.own 9 2 0 (s.usr.map usC).length),(11,.sl 4 (s.sub.map enC)),(14,.sl 2 (s.tmb.map tmC))],[(9,.buf 2 (s.usr.map usC)),(2,.box [.s (.int .i64 0),.s (.int .i64 0),.s (.slice none 0 0),.s (.slice none 0 0),.s (.slice none 0 0),.s (.slice none 0 0)]),(1,.box (aY s))]⟩ ?_ (fun hD6=>?_)
 ·
  refine aI 8 [12] (by kernel_rfl) ⟨?_,?_,trivial⟩
  ·
   refine⟨_,rfl,rfl,(ao rfl (aM hf rfl (aQ rfl rfl lN rfl (cJ (nD s.sub (by omega)))) (aF (ag hD3 rfl rfl rfl))))⟩
  ·
   refine⟨_,rfl,rfl,(ao rfl (aE aA 1 rfl (aF (ag hD4 rfl rfl rfl))))⟩
 refine aR 10 #[true,true,true,true,true,false,true,true,false,true,true,false,true,false,false,false,false,false,false,false] ⟨40,[(1,.ref 1 0 0 0),(2,.ref 2 0 0 0),(6,.sl 4 (s.opn.map seC)),(8,.sl 2 (s.usr.map usC)),(11,.sl 4 (s.sub.map enC)),(14,.sl 2 (s.tmb.map tmC)),(16,.ref 1 0 0 2)],[(2,.box [.s (.int .i64 0),.s (.int .i64 0),.s (.slice none 0 0),.s (.slice none 0 0),.s (.slice none 0 0),.s (.slice none 0 0)]),(1,.box (aY s))]⟩ ?_ (fun hD7=>?_)
 ·
  refine aI 5 [] (by kernel_rfl) ⟨?_,trivial⟩
  ·
   refine⟨_,rfl,rfl,(ao rfl (fR hf rfl rfl rfl rfl rfl lO rfl (mK s.usr (by omega)) ?_))⟩
   rintro _ rfl
   refine aF (ag hD4 rfl rfl rfl)
 refine aR 11 #[true,true,true,true,true,true,true,true,false,true,false,false,false,false,false,false,false,false,false,false] ⟨40,[(1,.ref 1 0 0 0),(2,.ref 2 0 0 0),(6,.sl 4 (s.opn.map seC)),(9,.own 9 2 0 (s.usr.map usC).length),(11,.sl 4 (s.sub.map enC)),(13,.ref 1 0 0 5)],[(9,.buf 2 (s.usr.map usC)),(2,.box [.s (.int .i64 0),.s (.int .i64 0),.s (.slice none 0 0),.s (.slice none 0 0),.s (.slice none 0 0),.s (.slice none 0 0)]),(1,.box (aY s))]⟩ ?_ (fun hD8=>?_)
 ·
  refine aI 8 [10] (by kernel_rfl) ⟨?_,?_,trivial⟩
  ·
   refine⟨_,rfl,rfl,(ao rfl (aM hf rfl (aQ rfl rfl lN rfl (cJ (nD s.sub (by omega)))) (aF (ag hD5 rfl rfl rfl))))⟩
  ·
   refine⟨_,rfl,rfl,(ao rfl (aE aA 1 rfl (aF (ag hD6 rfl rfl rfl))))⟩
 refine aR 11 #[true,true,true,true,true,true,true,false,false,true,true,false,false,false,false,false,false,false,false,false] ⟨40,[(1,.ref 1 0 0 0),(2,.ref 2 0 0 0),(6,.sl 4 (s.opn.map seC)),(9,.own 9 2 0 (s.usr.map usC).length),(10,.ref 1 0 0 4),(14,.sl 2 (s.tmb.map tmC))],[(9,.buf 2 (s.usr.map usC)),(2,.box [.s (.int .i64 0),.s (.int .i64 0),.s (.slice none 0 0),.s (.slice none 0 0),.s (.slice none 0 0),.s (.slice none 0 0)]),(1,.box (aY s))]⟩ ?_ (fun hD9=>?_)
 ·
  refine aI 7 [] (by kernel_rfl) ⟨?_,trivial⟩
  ·
   refine⟨_,rfl,rfl,(ao rfl (aE aA 1 rfl (aF (ag hD6 rfl rfl rfl))))⟩
 refine aR 11 #[true,true,true,true,true,false,true,true,false,true,true,false,false,false,false,false,false,false,false,false] ⟨40,[(1,.ref 1 0 0 0),(2,.ref 2 0 0 0),(6,.sl 4 (s.opn.map seC)),(8,.sl 2 (s.usr.map usC)),(11,.sl 4 (s.sub.map enC)),(14,.sl 2 (s.tmb.map tmC))],[(2,.box [.s (.int .i64 0),.s (.int .i64 0),.s (.slice none 0 0),.s (.slice none 0 0),.s (.slice none 0 0),.s (.slice none 0 0)]),(1,.box (aY s))]⟩ ?_ (fun hD10=>?_)
 ·
  refine aI 5 [12] (by kernel_rfl) ⟨?_,?_,trivial⟩
  ·
   refine⟨_,rfl,rfl,(ao rfl (fR hf rfl rfl rfl rfl rfl lO rfl (mK s.usr (by omega)) ?_))⟩
   rintro _ rfl
   refine aF (ag hD6 rfl rfl rfl)
  ·
   refine⟨_,rfl,rfl,(ao rfl (aE aA 1 rfl (aF (ag hD7 rfl rfl rfl))))⟩
 refine aR 12 #[true,true,true,true,true,true,true,false,false,true,false,false,false,false,false,false,false,false,false,false] ⟨40,[(1,.ref 1 0 0 0),(2,.ref 2 0 0 0),(6,.sl 4 (s.opn.map seC)),(9,.own 9 2 0 (s.usr.map usC).length),(10,.ref 1 0 0 4),(13,.ref 1 0 0 5)],[(9,.buf 2 (s.usr.map usC)),(2,.box [.s (.int .i64 0),.s (.int .i64 0),.s (.slice none 0 0),.s (.slice none 0 0),.s (.slice none 0 0),.s (.slice none 0 0)]),(1,.box (aY s))]⟩ ?_ (fun hD11=>?_)
 ·
  refine aI 7 [10] (by kernel_rfl) ⟨?_,?_,trivial⟩
  ·
   refine⟨_,rfl,rfl,(ao rfl (aE aA 1 rfl (aF (ag hD8 rfl rfl rfl))))⟩
  ·
   refine⟨_,rfl,rfl,(ao rfl (aE aA 1 rfl (aF (ag hD9 rfl rfl rfl))))⟩
 refine aR 12 #[true,true,true,true,true,false,true,true,false,true,false,false,false,false,false,false,false,false,false,false] ⟨40,[(1,.ref 1 0 0 0),(2,.ref 2 0 0 0),(6,.sl 4 (s.opn.map seC)),(8,.sl 2 (s.usr.map usC)),(11,.sl 4 (s.sub.map enC)),(13,.ref 1 0 0 5)],[(2,.box [.s (.int .i64 0),.s (.int .i64 0),.s (.slice none 0 0),.s (.slice none 0 0),.s (.slice none 0 0),.s (.slice none 0 0)]),(1,.box (aY s))]⟩ ?_ (fun hD12=>?_)
 ·
  refine aI 5 [10] (by kernel_rfl) ⟨?_,?_,trivial⟩
  ·
   refine⟨_,rfl,rfl,(ao rfl (fR hf rfl rfl rfl rfl rfl lO rfl (mK s.usr (by omega)) ?_))⟩
   rintro _ rfl
   refine aF (ag hD8 rfl rfl rfl)
  ·
   refine⟨_,rfl,rfl,(ao rfl (aE aA 1 rfl (aF (ag hD10 rfl rfl rfl))))⟩
 refine aR 12 #[true,true,true,true,true,false,true,false,false,true,true,false,false,false,false,false,false,false,false,false] ⟨40,[(1,.ref 1 0 0 0),(2,.ref 2 0 0 0),(6,.sl 4 (s.opn.map seC)),(8,.sl 2 (s.usr.map usC)),(10,.ref 1 0 0 4),(14,.sl 2 (s.tmb.map tmC))],[(2,.box [.s (.int .i64 0),.s (.int .i64 0),.s (.slice none 0 0),.s (.slice none 0 0),.s (.slice none 0 0),.s (.slice none 0 0)]),(1,.box (aY s))]⟩ ?_ (fun hD13=>?_)
 ·
  refine aI 5 [7] (by kernel_rfl) ⟨?_,?_,trivial⟩
  ·
   refine⟨_,rfl,rfl,(ao rfl (fR hf rfl rfl rfl rfl rfl lO rfl (mK s.usr (by omega)) ?_))⟩
   rintro _ rfl
   refine aF (ag hD9 rfl rfl rfl)
  ·
   refine⟨_,rfl,rfl,(ao rfl (aE aA 1 rfl (aF (ag hD10 rfl rfl rfl))))⟩
 refine aR 12 #[true,true,true,true,false,false,true,true,false,true,true,false,false,false,false,false,false,false,false,false] ⟨40,[(1,.ref 1 0 0 0),(2,.ref 2 0 0 0),(6,.sl 4 (s.opn.map seC)),(7,.ref 1 0 0 3),(11,.sl 4 (s.sub.map enC)),(14,.sl 2 (s.tmb.map tmC))],[(2,.box [.s (.int .i64 0),.s (.int .i64 0),.s (.slice none 0 0),.s (.slice none 0 0),.s (.slice none 0 0),.s (.slice none 0 0)]),(1,.box (aY s))]⟩ ?_ (fun hD14=>?_)
 ·
  refine aI 4 [] (by kernel_rfl) ⟨?_,trivial⟩
  ·
   refine⟨_,rfl,rfl,(ao rfl (aE aA 1 rfl (aF (ag hD10 rfl rfl rfl))))⟩
 refine aR 12 #[true,true,false,true,true,false,true,true,false,true,true,false,false,false,false,false,false,false,false,false] ⟨40,[(1,.ref 1 0 0 0),(2,.ref 2 0 0 0),(5,.sl 4 (s.opn.map seC)),(8,.sl 2 (s.usr.map usC)),(11,.sl 4 (s.sub.map enC)),(14,.sl 2 (s.tmb.map tmC))],[(2,.box [.s (.int .i64 0),.s (.int .i64 0),.s (.slice none 0 0),.s (.slice none 0 0),.s (.slice none 0 0),.s (.slice none 0 0)]),(1,.box (aY s))]⟩ ?_ (fun hD15=>?_)
 ·
  refine aI 2 [] (by kernel_rfl) ⟨?_,trivial⟩
  ·
   refine⟨_,rfl,rfl,(ao rfl (aM hf rfl (aQ rfl rfl fE rfl (cJ (fU s.opn (by omega)))) (aF (ag hD10 rfl rfl rfl))))⟩
 refine aR 13 #[true,true,true,true,true,false,true,false,false,true,false,false,false,false,false,false,false,false,false,false] ⟨40,[(1,.ref 1 0 0 0),(2,.ref 2 0 0 0),(6,.sl 4 (s.opn.map seC)),(8,.sl 2 (s.usr.map usC)),(10,.ref 1 0 0 4),(13,.ref 1 0 0 5)],[(2,.box [.s (.int .i64 0),.s (.int .i64 0),.s (.slice none 0 0),.s (.slice none 0 0),.s (.slice none 0 0),.s (.slice none 0 0)]),(1,.box (aY s))]⟩ ?_ (fun hD16=>?_)
 ·
  refine aI 5 [7,10] (by kernel_rfl) ⟨?_,?_,?_,trivial⟩
  ·
   refine⟨_,rfl,rfl,(ao rfl (fR hf rfl rfl rfl rfl rfl lO rfl (mK s.usr (by omega)) ?_))⟩
   rintro _ rfl
   refine aF (ag hD11 rfl rfl rfl)
  ·
   refine⟨_,rfl,rfl,(ao rfl (aE aA 1 rfl (aF (ag hD12 rfl rfl rfl))))⟩
  ·
   refine⟨_,rfl,rfl,(ao rfl (aE aA 1 rfl (aF (ag hD13 rfl rfl rfl))))⟩
 refine aR 13 #[true,true,true,true,false,false,true,true,false,true,false,false,false,false,false,false,false,false,false,false] ⟨40,[(1,.ref 1 0 0 0),(2,.ref 2 0 0 0),(6,.sl 4 (s.opn.map seC)),(7,.ref 1 0 0 3),(11,.sl 4 (s.sub.map enC)),(13,.ref 1 0 0 5)],[(2,.box [.s (.int .i64 0),.s (.int .i64 0),.s (.slice none 0 0),.s (.slice none 0 0),.s (.slice none 0 0),.s (.slice none 0 0)]),(1,.box (aY s))]⟩ ?_ (fun hD17=>?_)
 ·
  refine aI 4 [10] (by kernel_rfl) ⟨?_,?_,trivial⟩
  ·
   refine⟨_,rfl,rfl,(ao rfl (aE aA 1 rfl (aF (ag hD12 rfl rfl rfl))))⟩
  ·
   refine⟨_,rfl,rfl,(ao rfl (aE aA 1 rfl (aF (ag hD14 rfl rfl rfl))))⟩
 refine aR 13 #[true,true,true,true,false,false,true,false,false,true,true,false,false,false,false,false,false,false,false,false] ⟨40,[(1,.ref 1 0 0 0),(2,.ref 2 0 0 0),(6,.sl 4 (s.opn.map seC)),(7,.ref 1 0 0 3),(10,.ref 1 0 0 4),(14,.sl 2 (s.tmb.map tmC))],[(2,.box [.s (.int .i64 0),.s (.int .i64 0),.s (.slice none 0 0),.s (.slice none 0 0),.s (.slice none 0 0),.s (.slice none 0 0)]),(1,.box (aY s))]⟩ ?_ (fun hD18=>?_)
 ·
  refine aI 4 [7] (by kernel_rfl) ⟨?_,?_,trivial⟩
  ·
   refine⟨_,rfl,rfl,(ao rfl (aE aA 1 rfl (aF (ag hD13 rfl rfl rfl))))⟩
  ·
   refine⟨_,rfl,rfl,(ao rfl (aE aA 1 rfl (aF (ag hD14 rfl rfl rfl))))⟩
 refine aR 13 #[true,true,false,true,true,false,true,true,false,true,false,false,false,false,false,false,false,false,false,false] ⟨40,[(1,.ref 1 0 0 0),(2,.ref 2 0 0 0),(5,.sl 4 (s.opn.map seC)),(8,.sl 2 (s.usr.map usC)),(11,.sl 4 (s.sub.map enC)),(13,.ref 1 0 0 5)],[(2,.box [.s (.int .i64 0),.s (.int .i64 0),.s (.slice none 0 0),.s (.slice none 0 0),.s (.slice none 0 0),.s (.slice none 0 0)]),(1,.box (aY s))]⟩ ?_ (fun hD19=>?_)
 ·
  refine aI 2 [10] (by kernel_rfl) ⟨?_,?_,trivial⟩
  ·
   refine⟨_,rfl,rfl,(ao rfl (aM hf rfl (aQ rfl rfl fE rfl (cJ (fU s.opn (by omega)))) (aF (ag hD12 rfl rfl rfl))))⟩
  ·
   refine⟨_,rfl,rfl,(ao rfl (aE aA 1 rfl (aF (ag hD15 rfl rfl rfl))))⟩
 refine aR 13 #[true,true,false,true,true,false,true,false,false,true,true,false,false,false,false,false,false,false,false,false] ⟨40,[(1,.ref 1 0 0 0),(2,.ref 2 0 0 0),(5,.sl 4 (s.opn.map seC)),(8,.sl 2 (s.usr.map usC)),(10,.ref 1 0 0 4),(14,.sl 2 (s.tmb.map tmC))],[(2,.box [.s (.int .i64 0),.s (.int .i64 0),.s (.slice none 0 0),.s (.slice none 0 0),.s (.slice none 0 0),.s (.slice none 0 0)]),(1,.box (aY s))]⟩ ?_ (fun hD20=>?_)
 ·
  refine aI 2 [7] (by kernel_rfl) ⟨?_,?_,trivial⟩
  ·
   refine⟨_,rfl,rfl,(ao rfl (aM hf rfl (aQ rfl rfl fE rfl (cJ (fU s.opn (by omega)))) (aF (ag hD13 rfl rfl rfl))))⟩
  ·
   refine⟨_,rfl,rfl,(ao rfl (aE aA 1 rfl (aF (ag hD15 rfl rfl rfl))))⟩
 refine aR 13 #[true,true,false,true,false,false,true,true,false,true,true,false,false,false,false,false,false,false,false,false] ⟨40,[(1,.ref 1 0 0 0),(2,.ref 2 0 0 0),(5,.sl 4 (s.opn.map seC)),(7,.ref 1 0 0 3),(11,.sl 4 (s.sub.map enC)),(14,.sl 2 (s.tmb.map tmC))],[(2,.box [.s (.int .i64 0),.s (.int .i64 0),.s (.slice none 0 0),.s (.slice none 0 0),.s (.slice none 0 0),.s (.slice none 0 0)]),(1,.box (aY s))]⟩ ?_ (fun hD21=>?_)
 ·
  refine aI 2 [4] (by kernel_rfl) ⟨?_,?_,trivial⟩
  ·
   refine⟨_,rfl,rfl,(ao rfl (aM hf rfl (aQ rfl rfl fE rfl (cJ (fU s.opn (by omega)))) (aF (ag hD14 rfl rfl rfl))))⟩
  ·
   refine⟨_,rfl,rfl,(ao rfl (aE aA 1 rfl (aF (ag hD15 rfl rfl rfl))))⟩
 refine aR 13 #[true,false,false,true,true,false,true,true,false,true,true,false,false,false,false,false,false,false,false,false] ⟨40,[(1,.ref 1 0 0 0),(2,.ref 2 0 0 0),(4,.ref 1 0 0 2),(8,.sl 2 (s.usr.map usC)),(11,.sl 4 (s.sub.map enC)),(14,.sl 2 (s.tmb.map tmC))],[(2,.box [.s (.int .i64 0),.s (.int .i64 0),.s (.slice none 0 0),.s (.slice none 0 0),.s (.slice none 0 0),.s (.slice none 0 0)]),(1,.box (aY s))]⟩ ?_ (fun hD22=>?_)
 ·
  refine aI 1 [] (by kernel_rfl) ⟨?_,trivial⟩
  ·
   refine⟨_,rfl,rfl,(ao rfl (aE aA 1 rfl (aF (ag hD15 rfl rfl rfl))))⟩
 refine aR 14 #[true,true,true,true,false,false,true,false,false,true,false,false,false,false,false,false,false,false,false,false] ⟨40,[(1,.ref 1 0 0 0),(2,.ref 2 0 0 0),(6,.sl 4 (s.opn.map seC)),(7,.ref 1 0 0 3),(10,.ref 1 0 0 4),(13,.ref 1 0 0 5)],[(2,.box [.s (.int .i64 0),.s (.int .i64 0),.s (.slice none 0 0),.s (.slice none 0 0),.s (.slice none 0 0),.s (.slice none 0 0)]),(1,.box (aY s))]⟩ ?_ (fun hD23=>?_)
 ·
  refine aI 4 [7,10] (by kernel_rfl) ⟨?_,?_,?_,trivial⟩
  ·
   refine⟨_,rfl,rfl,(ao rfl (aE aA 1 rfl (aF (ag hD16 rfl rfl rfl))))⟩
  ·
   refine⟨_,rfl,rfl,(ao rfl (aE aA 1 rfl (aF (ag hD17 rfl rfl rfl))))⟩
  ·
   refine⟨_,rfl,rfl,(ao rfl (aE aA 1 rfl (aF (ag hD18 rfl rfl rfl))))⟩
 refine aR 14 #[true,true,false,true,true,false,true,false,false,true,false,false,false,false,false,false,false,false,false,false] ⟨40,[(1,.ref 1 0 0 0),(2,.ref 2 0 0 0),(5,.sl 4 (s.opn.map seC)),(8,.sl 2 (s.usr.map usC)),(10,.ref 1 0 0 4),(13,.ref 1 0 0 5)],[(2,.box [.s (.int .i64 0),.s (.int .i64 0),.s (.slice none 0 0),.s (.slice none 0 0),.s (.slice none 0 0),.s (.slice none 0 0)]),(1,.box (aY s))]⟩ ?_ (fun hD24=>?_)
 ·
  refine aI 2 [7,10] (by kernel_rfl) ⟨?_,?_,?_,trivial⟩
  ·
   refine⟨_,rfl,rfl,(ao rfl (aM hf rfl (aQ rfl rfl fE rfl (cJ (fU s.opn (by omega)))) (aF (ag hD16 rfl rfl rfl))))⟩
  ·
   refine⟨_,rfl,rfl,(ao rfl (aE aA 1 rfl (aF (ag hD19 rfl rfl rfl))))⟩
  ·
   refine⟨_,rfl,rfl,(ao rfl (aE aA 1 rfl (aF (ag hD20 rfl rfl rfl))))⟩
 refine aR 14 #[true,true,false,true,false,false,true,true,false,true,false,false,false,false,false,false,false,false,false,false] ⟨40,[(1,.ref 1 0 0 0),(2,.ref 2 0 0 0),(5,.sl 4 (s.opn.map seC)),(7,.ref 1 0 0 3),(11,.sl 4 (s.sub.map enC)),(13,.ref 1 0 0 5)],[(2,.box [.s (.int .i64 0),.s (.int .i64 0),.s (.slice none 0 0),.s (.slice none 0 0),.s (.slice none 0 0),.s (.slice none 0 0)]),(1,.box (aY s))]⟩ ?_ (fun hD25=>?_)
 ·
  refine aI 2 [4,10] (by kernel_rfl) ⟨?_,?_,?_,trivial⟩
  ·
   refine⟨_,rfl,rfl,(ao rfl (aM hf rfl (aQ rfl rfl fE rfl (cJ (fU s.opn (by omega)))) (aF (ag hD17 rfl rfl rfl))))⟩
  ·
   refine⟨_,rfl,rfl,(ao rfl (aE aA 1 rfl (aF (ag hD19 rfl rfl rfl))))⟩
  ·
   refine⟨_,rfl,rfl,(ao rfl (aE aA 1 rfl (aF (ag hD21 rfl rfl rfl))))⟩
 refine aR 14 #[true,true,false,true,false,false,true,false,false,true,true,false,false,false,false,false,false,false,false,false] ⟨40,[(1,.ref 1 0 0 0),(2,.ref 2 0 0 0),(5,.sl 4 (s.opn.map seC)),(7,.ref 1 0 0 3),(10,.ref 1 0 0 4),(14,.sl 2 (s.tmb.map tmC))],[(2,.box [.s (.int .i64 0),.s (.int .i64 0),.s (.slice none 0 0),.s (.slice none 0 0),.s (.slice none 0 0),.s (.slice none 0 0)]),(1,.box (aY s))]⟩ ?_ (fun hD26=>?_)
 ·
  refine aI 2 [4,7] (by kernel_rfl) ⟨?_,?_,?_,trivial⟩
  ·
   refine⟨_,rfl,rfl,(ao rfl (aM hf rfl (aQ rfl rfl fE rfl (cJ (fU s.opn (by omega)))) (aF (ag hD18 rfl rfl rfl))))⟩
  ·
   refine⟨_,rfl,rfl,(ao rfl (aE aA 1 rfl (aF (ag hD20 rfl rfl rfl))))⟩
  ·
   refine⟨_,rfl,rfl,(ao rfl (aE aA 1 rfl (aF (ag hD21 rfl rfl rfl))))⟩
 refine aR 14 #[true,false,false,true,true,false,true,true,false,true,false,false,false,false,false,false,false,false,false,false] ⟨40,[(1,.ref 1 0 0 0),(2,.ref 2 0 0 0),(4,.ref 1 0 0 2),(8,.sl 2 (s.usr.map usC)),(11,.sl 4 (s.sub.map enC)),(13,.ref 1 0 0 5)],[(2,.box [.s (.int .i64 0),.s (.int .i64 0),.s (.slice none 0 0),.s (.slice none 0 0),.s (.slice none 0 0),.s (.slice none 0 0)]),(1,.box (aY s))]⟩ ?_ (fun hD27=>?_)
 ·
  refine aI 1 [10] (by kernel_rfl) ⟨?_,?_,trivial⟩
  ·
   refine⟨_,rfl,rfl,(ao rfl (aE aA 1 rfl (aF (ag hD19 rfl rfl rfl))))⟩
  ·
   refine⟨_,rfl,rfl,(ao rfl (aE aA 1 rfl (aF (ag hD22 rfl rfl rfl))))⟩
 refine aR 14 #[true,false,false,true,true,false,true,false,false,true,true,false,false,false,false,false,false,false,false,false] ⟨40,[(1,.ref 1 0 0 0),(2,.ref 2 0 0 0),(4,.ref 1 0 0 2),(8,.sl 2 (s.usr.map usC)),(10,.ref 1 0 0 4),(14,.sl 2 (s.tmb.map tmC))],[(2,.box [.s (.int .i64 0),.s (.int .i64 0),.s (.slice none 0 0),.s (.slice none 0 0),.s (.slice none 0 0),.s (.slice none 0 0)]),(1,.box (aY s))]⟩ ?_ (fun hD28=>?_)
 ·
  refine aI 1 [7] (by kernel_rfl) ⟨?_,?_,trivial⟩
  ·
   refine⟨_,rfl,rfl,(ao rfl (aE aA 1 rfl (aF (ag hD20 rfl rfl rfl))))⟩
  ·
   refine⟨_,rfl,rfl,(ao rfl (aE aA 1 rfl (aF (ag hD22 rfl rfl rfl))))⟩
 refine aR 14 #[true,false,false,true,false,false,true,true,false,true,true,false,false,false,false,false,false,false,false,false] ⟨40,[(1,.ref 1 0 0 0),(2,.ref 2 0 0 0),(4,.ref 1 0 0 2),(7,.ref 1 0 0 3),(11,.sl 4 (s.sub.map enC)),(14,.sl 2 (s.tmb.map tmC))],[(2,.box [.s (.int .i64 0),.s (.int .i64 0),.s (.slice none 0 0),.s (.slice none 0 0),.s (.slice none 0 0),.s (.slice none 0 0)]),(1,.box (aY s))]⟩ ?_ (fun hD29=>?_)
 ·
  refine aI 1 [4] (by kernel_rfl) ⟨?_,?_,trivial⟩
  ·
   refine⟨_,rfl,rfl,(ao rfl (aE aA 1 rfl (aF (ag hD21 rfl rfl rfl))))⟩
  ·
   refine⟨_,rfl,rfl,(ao rfl (aE aA 1 rfl (aF (ag hD22 rfl rfl rfl))))⟩
 refine aR 15 #[true,true,false,true,false,false,true,false,false,true,false,false,false,false,false,false,false,false,false,false] ⟨40,[(1,.ref 1 0 0 0),(2,.ref 2 0 0 0),(5,.sl 4 (s.opn.map seC)),(7,.ref 1 0 0 3),(10,.ref 1 0 0 4),(13,.ref 1 0 0 5)],[(2,.box [.s (.int .i64 0),.s (.int .i64 0),.s (.slice none 0 0),.s (.slice none 0 0),.s (.slice none 0 0),.s (.slice none 0 0)]),(1,.box (aY s))]⟩ ?_ (fun hD30=>?_)
 ·
  refine aI 2 [4,7,10] (by kernel_rfl) ⟨?_,?_,?_,?_,trivial⟩
  ·
   refine⟨_,rfl,rfl,(ao rfl (aM hf rfl (aQ rfl rfl fE rfl (cJ (fU s.opn (by omega)))) (aF (ag hD23 rfl rfl rfl))))⟩
  ·
   refine⟨_,rfl,rfl,(ao rfl (aE aA 1 rfl (aF (ag hD24 rfl rfl rfl))))⟩
  ·
   refine⟨_,rfl,rfl,(ao rfl (aE aA 1 rfl (aF (ag hD25 rfl rfl rfl))))⟩
  ·
   refine⟨_,rfl,rfl,(ao rfl (aE aA 1 rfl (aF (ag hD26 rfl rfl rfl))))⟩
 refine aR 15 #[true,false,false,true,true,false,true,false,false,true,false,false,false,false,false,false,false,false,false,false] ⟨40,[(1,.ref 1 0 0 0),(2,.ref 2 0 0 0),(4,.ref 1 0 0 2),(8,.sl 2 (s.usr.map usC)),(10,.ref 1 0 0 4),(13,.ref 1 0 0 5)],[(2,.box [.s (.int .i64 0),.s (.int .i64 0),.s (.slice none 0 0),.s (.slice none 0 0),.s (.slice none 0 0),.s (.slice none 0 0)]),(1,.box (aY s))]⟩ ?_ (fun hD31=>?_)
 ·
  refine aI 1 [7,10] (by kernel_rfl) ⟨?_,?_,?_,trivial⟩
  ·
   refine⟨_,rfl,rfl,(ao rfl (aE aA 1 rfl (aF (ag hD24 rfl rfl rfl))))⟩
  ·
   refine⟨_,rfl,rfl,(ao rfl (aE aA 1 rfl (aF (ag hD27 rfl rfl rfl))))⟩
  ·
   refine⟨_,rfl,rfl,(ao rfl (aE aA 1 rfl (aF (ag hD28 rfl rfl rfl))))⟩
 refine aR 15 #[true,false,false,true,false,false,true,true,false,true,false,false,false,false,false,false,false,false,false,false] ⟨40,[(1,.ref 1 0 0 0),(2,.ref 2 0 0 0),(4,.ref 1 0 0 2),(7,.ref 1 0 0 3),(11,.sl 4 (s.sub.map enC)),(13,.ref 1 0 0 5)],[(2,.box [.s (.int .i64 0),.s (.int .i64 0),.s (.slice none 0 0),.s (.slice none 0 0),.s (.slice none 0 0),.s (.slice none 0 0)]),(1,.box (aY s))]⟩ ?_ (fun hD32=>?_)
 ·
  refine aI 1 [4,10] (by kernel_rfl) ⟨?_,?_,?_,trivial⟩
  ·
   refine⟨_,rfl,rfl,(ao rfl (aE aA 1 rfl (aF (ag hD25 rfl rfl rfl))))⟩
  ·
   refine⟨_,rfl,rfl,(ao rfl (aE aA 1 rfl (aF (ag hD27 rfl rfl rfl))))⟩
  ·
   refine⟨_,rfl,rfl,(ao rfl (aE aA 1 rfl (aF (ag hD29 rfl rfl rfl))))⟩
 refine aR 15 #[true,false,false,true,false,false,true,false,false,true,true,false,false,false,false,false,false,false,false,false] ⟨40,[(1,.ref 1 0 0 0),(2,.ref 2 0 0 0),(4,.ref 1 0 0 2),(7,.ref 1 0 0 3),(10,.ref 1 0 0 4),(14,.sl 2 (s.tmb.map tmC))],[(2,.box [.s (.int .i64 0),.s (.int .i64 0),.s (.slice none 0 0),.s (.slice none 0 0),.s (.slice none 0 0),.s (.slice none 0 0)]),(1,.box (aY s))]⟩ ?_ (fun hD33=>?_)
 ·
  refine aI 1 [4,7] (by kernel_rfl) ⟨?_,?_,?_,trivial⟩
  ·
   refine⟨_,rfl,rfl,(ao rfl (aE aA 1 rfl (aF (ag hD26 rfl rfl rfl))))⟩
  ·
   refine⟨_,rfl,rfl,(ao rfl (aE aA 1 rfl (aF (ag hD28 rfl rfl rfl))))⟩
  ·
   refine⟨_,rfl,rfl,(ao rfl (aE aA 1 rfl (aF (ag hD29 rfl rfl rfl))))⟩
 refine kZ (aCu (sl':=[(1,.ref 1 0 0 0),(2,.ref 2 0 0 0),(4,.ref 1 0 0 2),(7,.ref 1 0 0 3),(10,.ref 1 0 0 4),(13,.ref 1 0 0 5)]) (m':=[(2,.box [.s (.int .i64 0),.s (.int .i64 0),.s (.slice none 0 0),.s (.slice none 0 0),.s (.slice none 0 0),.s (.slice none 0 0)]),(1,.box (aY s))]) rfl rfl rfl) (aI 1 [4,7,10] (by kernel_rfl) ⟨?_,?_,?_,?_,trivial⟩)
 ·
  refine⟨_,rfl,rfl,(ao rfl (aE aA 1 rfl (aF (ag hD30 rfl rfl rfl))))⟩
 ·
  refine⟨_,rfl,rfl,(ao rfl (aE aA 1 rfl (aF (ag hD31 rfl rfl rfl))))⟩
 ·
  refine⟨_,rfl,rfl,(ao rfl (aE aA 1 rfl (aF (ag hD32 rfl rfl rfl))))⟩
 ·
  refine⟨_,rfl,rfl,(ao rfl (aE aA 1 rfl (aF (ag hD33 rfl rfl rfl))))⟩
end Go.Proofs.YthapfogcaklbbaaGreat
