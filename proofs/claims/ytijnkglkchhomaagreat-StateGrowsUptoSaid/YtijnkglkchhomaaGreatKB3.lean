import Derived.WalkKit
import Derived.WalkSpells
import Derived.WalkLawsBesides
import Derived.Deep.LoopGhost
import Derived.ChangeKeysEq
import Derived.Still
import Derived.Lib.AppendZeros
import Derived.Laws.StructEq
import Derived.OpenShut
import Derived.Scope
import Derived.Shelf.SlSortCmp.Kit1
import Derived.Shelf.SlSortCmp.InsertionK
import Derived.Lib.SlicesCompact
import Derived.ProofKit
import Derived.ChangeSame
import Derived.Carry
import Derived.SliceStrings
import Derived.ChangeMaps5
import Derived.Deep.Slices
import Derived.Test.YtijnkglkchhomaaGreatRows
import Derived.Shelf.Abstract
import Derived.Deep.RegionLaw
import Derived.Lib.Walk
import Derived.Lib.Overlaps
import Derived.Lib.AppendZerosOnto
import Derived.Laws.CopyRow
import Derived.Shelf.SlSortCmp.WholeK
import Derived.Shelf.SlSortCmp.Whole1
import Derived.Shelf.SlSortCmp.NoneTotal
import Derived.Test.YtijnkglkchhomaaGreatKB1
import Derived.Test.YtijnkglkchhomaaGreatKB2
set_option maxRecDepth 20000
set_option maxHeartbeats 16000000
set_option linter.unusedVariables false
set_option linter.unusedSimpArgs false
namespace Go.Abs
abbrev Pr:=ByteArray×ByteArray
abbrev En:=Pr×Sp
def prC (p:Pr):List AV:=[.s (.string p.1),.s (.string p.2)]
def enC (e:En):List AV:=[.s (.string e.1.1),.s (.string e.1.2),.s (.int .i64 e.2.1),.s (.int .i64 e.2.2)]
theorem cmpI_tri:Tri kU:=by
  refine⟨fun x y=>?_,fun x y=>?_,fun x y z=>?_⟩ <;> unfold kU <;> (repeat' split) <;> omega
theorem cmpB_tri:Tri eG:=⟨qJ,pI,fun _ _ _=>aGd⟩
def rX (p q:Pr):Int:=vZ p.1 p.2 q.1 q.2
theorem aGw:rX=uS (fun p q:Pr=>eG p.1 q.1) (fun p q=>eG p.2 q.2):=by
  funext p q
  simp only[rX,vZ,orI,uS]
  (repeat' split) <;> simp_all
theorem pairC_tri:Tri rX:=by
  rw[aGw]
  exact(cmpB_tri.comap Prod.fst).lex (cmpB_tri.comap Prod.snd)
theorem aDz {p q:Pr}:rX p q=0↔p=q:=by
  rw[aGw,sB,tD,tD,Prod.ext_iff]
def lD (a b:En):Int:=orI [rX a.1 b.1,kU a.2.1 b.2.1]
theorem uO:lD=uS (fun a b:En=>rX a.1 b.1) (fun a b=>kU a.2.1 b.2.1):=by
  funext p q
  simp only[lD,orI,uS]
  (repeat' split) <;> simp_all
theorem ordE_tri:Tri lD:=by
  rw[uO]
  exact(pairC_tri.comap Prod.fst).lex (cmpI_tri.comap fun a:En=>a.2.1)
def fX (p:Pr) (e:En):Bool:=decide (e.1=p)&&decide (e.2.2=1099511627776)
def onB (l:List En) (p:Pr):Bool:=l.any (fX p)
theorem aH1 {l:List En} {p:Pr}:onB l p=true↔∃ e∈l,e.1=p∧e.2.2=1099511627776:=by simp [onB,fX]
def qR:List En→En→List En
  | [],e=>[e]
  | x::l,e=>if 0<lD x e then e::x::l else x::qR l e
theorem aH8 (e:En):∀ (l:List En) (k:Nat),k≤l.length→(∀ (j:Nat) (hj:j<l.length),j<k→¬ 0<lD l[j] e)→(∀ (h:k<l.length),0<lD l[k] e)→qR l e=l.take k++e::l.drop k
  | [],k,hk,_,_=>by
                          have:k=0:=by simpa using hk
                          subst this; rfl
  | x::l,0,_,_,h=>by have:=h (by simp); simp only[List.getElem_cons_zero] at this; simp [qR,this]
  | x::l,k+1,hk,h1,h2=>by
    have hx:=h1 0 (by simp) (by omega)
    simp only[List.getElem_cons_zero] at hx
    rw[qR,if_neg hx,aH8 e l k (by simpa using hk) (fun j hj hjk=>by have:=h1 (j+1) (by simpa using hj) (by omega); simpa using this) (fun h=>by have:=h2 (by simpa using h); simpa using this)]
    rfl
theorem aKr (e:En):∀ l:List En,(qR l e).length=l.length+1
  | []=>rfl
  | x::l=>by rw[qR]; split <;> simp [aKr e l]
theorem uU {e x:En}:∀ {l:List En},x∈qR l e↔x=e∨x∈l
  | []=>by simp [qR]
  | y::l=>by
    rw[qR]; split
    · simp
    · simp only[List.mem_cons,uU (l:=l)]
      constructor
      · rintro (h | h | h) <;> simp [h]
      · rintro (h | h | h) <;> simp [h]
def iQ (l:List En) (p:Pr) (t:Int):List En:=qR l (p,(t,1099511627776))
def qV (e:En) (t:Int):List En:=if t≤e.2.1 then [] else [(e.1,(e.2.1,t))]
def jA:List En→Pr→Int→List En
  | [],_,_=>[]
  | e::l,p,t=>if fX p e=true then qV e t++l else e::jA l p t
theorem aCj (p:Pr) (t:Int):∀ (l:List En) (k:Nat) (hk:k<l.length),(∀ (j:Nat) (hj:j<l.length),j<k→fX p l[j]=false)→fX p l[k]=true→jA l p t=l.take k++(qV l[k] t++l.drop (k+1))
  | [],k,hk,_,_=>by simp at hk
  | x::l,0,_,_,h=>by simp only[List.getElem_cons_zero] at h; simp [jA,h]
  | x::l,k+1,hk,h1,h2=>by
    have hx:=h1 0 (by simp) (by omega)
    simp only[List.getElem_cons_zero] at hx
    rw[jA,if_neg (by simp [hx]),aCj p t l k (by simpa using hk) (fun j hj hjk=>by have:=h1 (j+1) (by simpa using hj) (by omega); simpa using this) (by simpa using h2)]
    rfl
def lV (u:ByteArray) (e:En):Bool:=mO e.1.1 e.1.2 u
def okE (e:En):Bool:=decide (e.2.1<e.2.2)&&(cK e.1.1&&cK e.1.2)
def aGz (a b:En):Bool:=decide (lD a b<0)&&!(decide (a.1=b.1)&&decide (b.2.1<a.2.2))
def qQ (l:List En):Bool:=mK okE aGz none l
end Go.Abs
set_option linter.unusedVariables false
set_option linter.unusedSimpArgs false
namespace Go.Abs
abbrev bO:=Sp×(Int×Int)
def stC (s:bO):List AV:=[.s (.int .i64 s.1.1),.s (.int .i64 s.1.2),.s (.int .i64 s.2.1),.s (.int .i64 s.2.2)]
def iU (a b:bO):Int:=orI [kU a.1.1 b.1.1,kU a.1.2 b.1.2,kU a.2.1 b.2.1,kU a.2.2 b.2.2]
theorem aLd:iU=uS (fun a b:bO=>kU a.1.1 b.1.1) (uS (fun a b=>kU a.1.2 b.1.2) (uS (fun a b=>kU a.2.1 b.2.1) (fun a b=>kU a.2.2 b.2.2))):=by
  funext p q
  simp only[iU,orI,uS]
  (repeat' split) <;> simp_all
theorem cmpS_tri:Tri iU:=by
  rw[aLd]
  exact(cmpI_tri.comap fun a:bO=>a.1.1).lex ((cmpI_tri.comap fun a:bO=>a.1.2).lex ((cmpI_tri.comap fun a:bO=>a.2.1).lex (cmpI_tri.comap fun a:bO=>a.2.2)))
theorem rE {a b:Int}:kU a b=0↔a=b:=by unfold kU; (repeat' split) <;> omega
theorem aIn {a b:bO}:iU a b=0↔a=b:=by
  rw[aLd,sB,sB,sB,rE,rE,rE,rE,Prod.ext_iff,Prod.ext_iff,Prod.ext_iff,and_assoc]
def okS (s:bO):Bool:=decide (s.1.1<s.1.2)
def tQ (a b:bO):Bool:=decide (iU a b<0)
def tV (l:List bO):Bool:=mK okS tQ none l
theorem uJ (l:List bO):tV l=true↔(∀ x∈l,okS x=true)∧l.Pairwise fun a b=>iU a b<0:=by
  rw[tV,rW (fun a b=>iU a b<0) (fun x y=>by simp [tQ]) (fun x y z _ h1 h2=>cmpS_tri.lt_tr h1 h2)]
  simp
theorem wZ {α:Type} {c:α→α→Int} (hc:Tri c) (h0:∀ x y,c x y=0→x=y):∀ {a b:List α},Srt c a→Srt c b→a.Perm b→a=b
  | [],b,_,_,hp=>by have:=hp.length_eq; exact(List.eq_nil_of_length_eq_zero (by simpa using this.symm)).symm
  | x::a,[],_,_,hp=>by have:=hp.length_eq; simp at this
  | x::a,y::b,ha,hb,hp=>by
    have e:x=y:=by
      have h1:x∈y::b:=hp.mem_iff.1 (by simp)
      have h2:y∈x::a:=hp.mem_iff.2 (by simp)
      rcases List.mem_cons.1 h1 with e | h1
      · exact e
      · rcases List.mem_cons.1 h2 with e | h2
        · exact e.symm
        · have e1:=(List.pairwise_cons.1 ha).1 y h2
          have e2:=(List.pairwise_cons.1 hb).1 x h1
          have:=hc.swap x y
          exact h0 x y (by omega)
    subst e
    rw[wZ hc h0 (List.pairwise_cons.1 ha).2 (List.pairwise_cons.1 hb).2 (List.Perm.cons_inv hp)]
def aH9:List bO→bO→List bO
  | [],x=>[x]
  | y::r,x=>if iU x y<0 then x::y::r else y::aH9 r x
theorem aAd (x:bO):∀ l:List bO,(aH9 l x).Perm (x::l)
  | []=>.refl _
  | y::l=>by
    rw[aH9]; split
    · exact .refl _
    · exact((aAd x l).cons y).trans (List.Perm.swap x y l)
theorem aKs {x:bO}:∀ {l:List bO},Srt iU l→Srt iU (aH9 l x)
  | [],_=>List.pairwise_singleton _ _
  | y::l,h=>by
    obtain ⟨h1,h2⟩:=List.pairwise_cons.1 h
    rw[aH9]; split
    · rename_i h0
      refine List.pairwise_cons.2 ⟨fun z hz=>?_,h⟩
      rcases List.mem_cons.1 hz with rfl | hz
      · omega
      · exact cmpS_tri.tr x y z (by omega) (h1 z hz)
    · rename_i h0
      refine List.pairwise_cons.2 ⟨fun z hz=>?_,aKs h2⟩
      rcases List.mem_cons.1 ((aAd x l).mem_iff.1 hz) with rfl | hz
      · have:=cmpS_tri.swap z y; omega
      · exact h1 z hz
def aJl (l:List bO):List bO:=l.foldl aH9 []
theorem aDc:∀ (l out:List bO),Srt iU out→Srt iU (l.foldl aH9 out)∧(l.foldl aH9 out).Perm (out++l)
  | [],out,h=>⟨h,by simp⟩
  | x::l,out,h=>by
    obtain ⟨h1,h2⟩:=aDc l (aH9 out x) (aKs h)
    exact⟨h1,h2.trans (((aAd x out).append_right l).trans List.perm_middle.symm)⟩
theorem aQt (l:List bO):Srt iU (aJl l):=(aDc l [] List.Pairwise.nil).1
theorem aDd (l:List bO):(aJl l).Perm l:=(aDc l [] List.Pairwise.nil).2
theorem aSt {l t:List bO} (hp:t.Perm l) (hs:Srt iU t):t=aJl l :=
  wZ cmpS_tri (fun _ _ h=>aIn.1 h) hs (aQt l) (hp.trans (aDd l).symm)
theorem aQu (l:List bO):(aJl l).length=l.length:=(aDd l).length_eq
def aCa:List bO→bO→List bO
  | [],s=>[s]
  | x::l,s=>if (x::l).all (fun y=>decide (0<iU y s))=true then s::x::l else x::aCa l s
theorem aH6 (s:bO):∀ (l:List bO) (k:Nat),k≤l.length→(∀ (j:Nat) (hj:j<l.length),k≤j→0<iU l[j] s)→(∀ (h0:0<k) (h:k - 1<l.length),iU l[k - 1] s≤0)→aCa l s=l.take k++s::l.drop k
  | [],k,hk,_,_=>by
                          have:k=0:=by simpa using hk
                          subst this; rfl
  | x::l,0,_,h,_=>by
    rw[aCa,if_pos]
    · rfl
    · rw[List.all_eq_true]
      intro y hy
      obtain ⟨j,hj,rfl⟩:=List.mem_iff_getElem.1 hy
      simpa using h j hj (Nat.zero_le _)
  | x::l,k+1,hk,h1,h2=>by
    have hn:=h2 (by omega) (by simp at hk ⊢; omega)
    rw[aCa,if_neg]
    · rw[aH6 s l k (by simpa using hk) (fun j hj hkj=>by have:=h1 (j+1) (by simpa using hj) (by omega); simpa using this) (fun h0 h=>by
        have e:(x::l)[k+1 - 1]'(by simp at hk ⊢; omega)=l[k - 1]'h:=by
          simp only[Nat.add_sub_cancel]
          obtain ⟨k',rfl⟩:∃ k',k=k'+1:=⟨k - 1,by omega⟩
          simp
        rw[e] at hn; exact hn)]
      rfl
    · rw[List.all_eq_true]
      intro hall
      have:=hall _ (List.getElem_mem (show k+1 - 1<(x::l).length by simp at hk ⊢; omega))
      simp only[decide_eq_true_eq] at this
      omega
theorem hY (s:bO):∀ l:List bO,(aCa l s).Perm (s::l)
  | []=>.refl _
  | x::l=>by
    rw[aCa]; split
    · exact .refl _
    · exact((hY s l).cons x).trans (List.Perm.swap s x l)
theorem aEf (l:List bO) (s:bO):(aCa l s).length=l.length+1:=by simpa using (hY s l).length_eq
theorem qA {s:bO}:∀ {l:List bO},Srt iU l→Srt iU (aCa l s)
  | [],_=>List.pairwise_singleton _ _
  | x::l,h=>by
    obtain ⟨h1,h2⟩:=List.pairwise_cons.1 h
    rw[aCa]; split
    · rename_i h0
      rw[List.all_eq_true] at h0
      refine List.pairwise_cons.2 ⟨fun z hz=>?_,h⟩
      have:=h0 z hz
      simp only[decide_eq_true_eq] at this
      have:=cmpS_tri.swap z s; omega
    · rename_i h0
      refine List.pairwise_cons.2 ⟨fun z hz=>?_,qA h2⟩
      rcases List.mem_cons.1 ((hY s l).mem_iff.1 hz) with rfl | hz
      · -- some one of the row is not above it: so the first one is not
        have h3:∃ y∈x::l,¬ 0<iU y z:=by
          apply Classical.byContradiction
          intro hn
          exact h0 (List.all_eq_true.2 fun y hy=>by
            simp only[decide_eq_true_eq]
            apply Classical.byContradiction
            intro hh
            exact hn ⟨y,hy,hh⟩)
        obtain ⟨y,hy,hyz⟩:=h3
        rcases List.mem_cons.1 hy with rfl | hy
        · omega
        · exact cmpS_tri.tr x y z (h1 y hy) (by omega)
      · exact h1 z hz
def jE (l:List bO) (s:bO):List bO:=if s.1.2≤s.1.1 then l else aCa l s
theorem zF (l:List bO) (s:bO):(jE l s).length≤l.length+1:=by
  unfold jE; split
  · omega
  · rw[aEf]; omega
theorem zQ {l:List bO} (h:l.Pairwise fun a b=>iU a b<0):Srt iU l:=h.imp fun h=>by omega
theorem ris_add {l:List bO} {s:bO} (h:tV l=true):tV (jE l s)=!(l.any fun y=>decide (y=s)):=by
  obtain ⟨h1,h2⟩:=(uJ l).1 h
  unfold jE
  split
  · rename_i h0
    have:l.any (fun y=>decide (y=s))=false:=by
      rw[Bool.eq_false_iff]; intro ha
      obtain ⟨y,hy,e⟩:=List.any_eq_true.1 ha
      simp only[decide_eq_true_eq] at e
      subst e
      have:=h1 y hy
      simp only[okS,decide_eq_true_eq] at this; omega
    rw[this,h]; rfl
  · rename_i h0
    have hs:=qA (s:=s) (zQ h2)
    cases ha:l.any (fun y=>decide (y=s))
    · rw[Bool.not_false,uJ]
      refine⟨fun x hx=>?_,?_⟩
      · rcases List.mem_cons.1 ((hY s l).mem_iff.1 hx) with rfl | hx
        · simp only[okS,decide_eq_true_eq]; omega
        · exact h1 x hx
      · have hnd:(aCa l s).Nodup:=by
          rw[(hY s l).nodup_iff]
          refine List.nodup_cons.2 ⟨fun hm=>?_,?_⟩
          · rw[Bool.eq_false_iff] at ha
            exact ha (List.any_eq_true.2 ⟨s,hm,by simp⟩)
          · exact h2.imp fun {a b} h e=>by subst e; have:=cmpS_tri.self a; omega
        refine(List.Pairwise.and hs hnd).imp fun {a b} ⟨h3,h4⟩=>?_
        rcases Int.lt_or_eq_of_le h3 with e | e
        · exact e
        · exact absurd (aIn.1 e) h4
    · rw[Bool.not_true,Bool.eq_false_iff]
      intro hr
      obtain ⟨y,hy,e⟩:=List.any_eq_true.1 ha
      simp only[decide_eq_true_eq] at e
      subst e
      have hnd:(aCa l y).Nodup:=((uJ _).1 hr).2.imp fun {a b} h e=>by subst e; have:=cmpS_tri.self a; omega
      rw[(hY y l).nodup_iff] at hnd
      exact(List.nodup_cons.1 hnd).1 hy
theorem add_comm {l:List bO} {a b:bO} (h:tV l=true):jE (jE l a) b=jE (jE l b) a:=by
  have hs:=zQ ((uJ l).1 h).2
  unfold jE
  split <;> split <;> try rfl
  exact wZ cmpS_tri (fun _ _ h=>aIn.1 h) (qA (qA hs)) (qA (qA hs)) (((hY _ _).trans ((hY _ _).cons _)).trans ((List.Perm.swap _ _ _).trans (((hY _ _).trans ((hY _ _).cons _)).symm)))
theorem stC_eq (x y:bO):(((x.1.1 == y.1.1&&(x.1.2 == y.1.2&&true)))&&(x.2.1 == y.2.1&&(x.2.2 == y.2.2&&true)))=decide (x=y):=by
  rw[Bool.eq_iff_iff]
  simp only[Bool.and_eq_true,beq_iff_eq,and_true,decide_eq_true_eq,Prod.ext_iff]
theorem aCp {a b:Int}:kU a b<0↔a<b:=by unfold kU; (repeat' split) <;> omega
theorem pH (a:Int):kU a a=0:=rE.2 rfl
theorem ah1 {a b:bO} (h:¬ a.1.1=b.1.1):decide (a.1.1<b.1.1)=decide (iU a b<0):=by
  have:iU a b=kU a.1.1 b.1.1:=by rw[iU,orI,if_pos (fun e=>h (rE.1 e))]
  rw[this,Bool.eq_iff_iff,decide_eq_true_eq,decide_eq_true_eq,aCp]
theorem ah2 {a b:bO} (h1:a.1.1=b.1.1) (h:¬ a.1.2=b.1.2):decide (a.1.2<b.1.2)=decide (iU a b<0):=by
  have:iU a b=kU a.1.2 b.1.2:=by rw[iU,h1,pH,orI,if_neg (by simp),orI,if_pos (fun e=>h (rE.1 e))]
  rw[this,Bool.eq_iff_iff,decide_eq_true_eq,decide_eq_true_eq,aCp]
theorem ah3 {a b:bO} (h1:a.1.1=b.1.1) (h2:a.1.2=b.1.2) (h:¬ a.2.1=b.2.1):decide (a.2.1<b.2.1)=decide (iU a b<0):=by
  have:iU a b=kU a.2.1 b.2.1:=by rw[iU,h1,h2,pH,pH,orI,if_neg (by simp),orI,if_neg (by simp),orI,if_pos (fun e=>h (rE.1 e))]
  rw[this,Bool.eq_iff_iff,decide_eq_true_eq,decide_eq_true_eq,aCp]
theorem ah4 {a b:bO} (h1:a.1.1=b.1.1) (h2:a.1.2=b.1.2) (h3:a.2.1=b.2.1):decide (a.2.2<b.2.2)=decide (iU a b<0):=by
  have:iU a b<0↔kU a.2.2 b.2.2<0:=by
    rw[iU,h1,h2,h3,pH,pH,pH,orI,if_neg (by simp),orI,if_neg (by simp),orI,if_neg (by simp),orI,orI]
    split
    · exact Iff.rfl
    · rename_i h; omega
  rw[Bool.eq_iff_iff,decide_eq_true_eq,decide_eq_true_eq,this,aCp]
theorem sR {α β:Type} (l:List α) (f:α→List β) (k:Nat) (h:k<l.length):(l.take (k+1)).flatMap f=(l.take k).flatMap f++f l[k]:=by
  rw[← List.take_append_getElem h,List.flatMap_append]; simp
end Go.Abs
set_option linter.unusedVariables false
set_option linter.unusedSimpArgs false
namespace Go.Proofs.YtijnkglkchhomaaGreat
open Go Go.Abs
theorem uE (g:Nat) (a1 u b1 v c1:List bO) (N:Nat) (za zb zn:Int) (hN:N=a1.length+u.length+b1.length+v.length+c1.length) (huv:v.length=u.length) (hza:za=(a1.length:Nat)) (hzb:zb=((a1.length+u.length+b1.length:Nat):Int)) (hzn:zn=(u.length:Nat)) (hM:N<4611686018427387904) :DenM Tryz.prog 241 [.own E0 4 0 N,.s (.int .i64 za),.s (.int .i64 zb),.s (.int .i64 zn),.fn g []] 4 ((List.map stC (a1++(u++(b1++(v++c1)))))) (fun r ys=>ys=(List.map stC (a1++(v++(b1++(u++c1)))))):=by
 subst hza
 subst hzb
 subst hzn
 refine gK Tryz.func241 rfl (Nat.le_of_ble_eq_true rfl) (fun w0 x0 A hf=>?_)
 refine aC (fun K1 hK1=>(aB (aE aA 1 rfl (aD (hK1 _ (aU (bW (ι:=Nat) (fun i=>⟨38,[(0,.own E0 4 0 N),(1,.s (.int .i64 (a1.length:Nat))),(2,.s (.int .i64 ((a1.length+u.length+b1.length:Nat):Int))),(3,.s (.int .i64 (u.length:Nat))),(10,.s (.int .i64 (i:Nat)))],[(E0,.buf 4 (List.map stC (swr a1 u b1 v c1 i)))]⟩) (fun i=>i≤u.length) (fun i=>u.length - i) 0 ?_ ?_ ?_)))))))
 · exact Nat.zero_le _
 · exact cN ⟨rfl,rfl,rfl,rfl,rfl,trivial⟩ (by simp [swr])
 ·
  rintro i hC
  have hsl:=swr_len (A:=a1) (B:=b1) (C:=c1) (i:=i) huv
  refine aC (fun K2 hK2=>(aC (fun K3 hK3=>(aB (aE aA 3 rfl (aD (hK3 _ (aO rfl (fun hc1=>?_) (fun hc1=>?_)))))))))
  ·
   simp only[bs] at hc1
   refine aR (hK2 _ (aC (fun K4 hK4=>(aU (dK bK ?_)))))
   refine bY (listed':=#[true,false,false,false,false,false,false,false,false,false,false,false,false,false,false,false,false,false,false,false,false,false,false,false]) 0 rfl (by kernel_rfl) (by kernel_rfl) (by kernel_rfl) rfl (fun _ _ h=>h) (dL rfl) ?_
   refine bY (listed':=#[true,true,false,false,false,false,false,false,false,false,false,false,false,false,false,false,false,false,false,false,false,false,false,false]) 1 rfl (by kernel_rfl) (by kernel_rfl) (by kernel_rfl) rfl (fun _ _ h=>h) (dL rfl) ?_
   refine bY (listed':=#[true,true,true,false,false,false,false,false,false,false,false,false,false,false,false,false,false,false,false,false,false,false,false,false]) 2 rfl (by kernel_rfl) (by kernel_rfl) (by kernel_rfl) rfl (fun _ _ h=>h) (dL rfl) ?_
   refine bY (listed':=#[true,true,true,true,false,false,false,false,false,false,false,false,false,false,false,false,false,false,false,false,false,false,false,false]) 3 rfl (by kernel_rfl) (by kernel_rfl) (by kernel_rfl) rfl (fun _ _ h=>h) (aGh rfl rfl (by omega) (by omega)) ?_
   refine bY (listed':=#[true,true,true,true,true,false,false,false,false,false,false,false,false,false,false,false,false,false,false,false,false,false,false,false]) 4 rfl (by kernel_rfl) (by kernel_rfl) (by kernel_rfl) rfl (fun _ _ h=>h) (dL rfl) ?_
   refine bY (listed':=#[true,true,true,true,true,true,false,false,false,false,false,false,false,false,false,false,false,false,false,false,false,false,false,false]) 5 rfl (by kernel_rfl) (by kernel_rfl) (by kernel_rfl) rfl (fun _ _ h=>h) (dL rfl) ?_
   refine bY (listed':=#[true,true,true,true,true,true,true,false,false,false,false,false,false,false,false,false,false,false,false,false,false,false,false,false]) 6 rfl (by kernel_rfl) (by kernel_rfl) (by kernel_rfl) rfl (fun _ _ h=>h) (dL rfl) ?_
   refine bY (listed':=#[true,true,true,true,true,true,true,true,false,false,false,false,false,false,false,false,false,false,false,false,false,false,false,false]) 7 rfl (by kernel_rfl) (by kernel_rfl) (by kernel_rfl) rfl (fun _ _ h=>h) (aGh rfl rfl (by omega) (by omega)) ?_
   refine bY (listed':=#[true,true,true,true,true,true,true,true,true,false,false,false,false,false,false,false,false,false,false,false,false,false,false,false]) 8 rfl (by kernel_rfl) (by kernel_rfl) (by kernel_rfl) rfl (fun _ _ h=>h) (dL rfl) ?_
   refine bY (listed':=#[true,true,true,true,true,true,true,true,true,true,false,false,false,false,false,false,false,false,false,false,false,false,false,false]) 9 rfl (by kernel_rfl) (by kernel_rfl) (by kernel_rfl) rfl (fun _ _ h=>h) (dL rfl) ?_
   refine bY (listed':=#[true,true,true,true,true,true,true,true,true,true,true,false,false,false,false,false,false,false,false,false,false,false,false,false]) 10 rfl (by kernel_rfl) (by kernel_rfl) (by kernel_rfl) rfl (fun _ _ h=>h) (dL rfl) ?_
   refine bY (listed':=#[true,true,true,true,true,true,true,true,true,true,true,true,false,false,false,false,false,false,false,false,false,false,false,false]) 11 rfl (by kernel_rfl) (by kernel_rfl) (by kernel_rfl) rfl (fun _ _ h=>h) (aGh rfl rfl (by omega) (by omega)) ?_
   refine bY (listed':=#[true,true,true,true,true,true,true,true,true,true,true,true,true,false,false,false,false,false,false,false,false,false,false,false]) 12 rfl (by kernel_rfl) (by kernel_rfl) (by kernel_rfl) rfl (fun _ _ h=>h) (lP rfl rfl cE bB (by omega)) ?_
   refine bY (listed':=#[true,true,true,true,true,true,true,true,true,true,true,true,true,false,true,false,false,false,false,false,false,false,false,false]) 14 rfl (by kernel_rfl) (by kernel_rfl) (by kernel_rfl) rfl (fun _ _ h=>h) (dL rfl) ?_
   refine bY (listed':=#[true,true,true,true,true,true,true,true,true,true,true,true,true,false,true,true,false,false,false,false,false,false,false,false]) 15 rfl (by kernel_rfl) (by kernel_rfl) (by kernel_rfl) rfl (fun _ _ h=>h) (dL rfl) ?_
   refine bY (listed':=#[true,true,true,true,true,true,true,true,true,true,true,true,true,false,true,true,true,false,false,false,false,false,false,false]) 16 rfl (by kernel_rfl) (by kernel_rfl) (by kernel_rfl) rfl (fun _ _ h=>h) (dL rfl) ?_
   refine bY (listed':=#[true,true,true,true,true,true,true,true,true,true,true,true,true,false,true,true,true,true,false,false,false,false,false,false]) 17 rfl (by kernel_rfl) (by kernel_rfl) (by kernel_rfl) rfl (fun _ _ h=>h) (aGh rfl rfl (by omega) (by omega)) ?_
   refine bY (listed':=#[true,true,true,true,true,true,true,true,true,true,true,true,true,false,true,true,true,true,true,false,false,false,false,false]) 18 rfl (by kernel_rfl) (by kernel_rfl) (by kernel_rfl) rfl (fun _ _ h=>h) (lP rfl rfl cE bB (by omega)) ?_
   refine gZ (iK [0,1,2,3,10,16,19,20,23,28,34] rfl) (aH 13 [19] (by kernel_rfl) ⟨?_,?_,trivial⟩)
   ·
    refine⟨_,rfl,rfl,(ao rfl (aI rfl (cD rfl dO bB rfl (eL (k:=4) (enc:=stC) (z:=a1.length+u.length+b1.length+i) (by omega) (aCg huv (by omega)) rfl) (dU (k:=4) (enc:=stC) (z:=a1.length+u.length+b1.length+i) (by omega) (aCg huv (by omega)) rfl)) (aF (aH 19 [] (by kernel_rfl) ⟨?_,trivial⟩))))⟩
    ·
     refine⟨_,rfl,rfl,(ao rfl (aI rfl (cD rfl dO bB rfl (eL (k:=4) (enc:=stC) (z:=a1.length+i) (by omega) (aCh huv (by omega)) rfl) (dU (k:=4) (enc:=stC) (z:=a1.length+i) (by omega) (aCh huv (by omega)) rfl)) (aF (aH 20 [] (by kernel_rfl) ⟨?_,trivial⟩))))⟩
     ·
      refine⟨_,rfl,rfl,(ao rfl ?_)⟩
      refine aI rfl (cF rfl rfl cE bB (by omega)) ?_
      refine aF (aH 21 [] (by kernel_rfl) ⟨?_,trivial⟩)
      ·
       refine⟨_,rfl,rfl,(ao rfl (bD hf rfl rfl bB rfl rfl (by simp [stC,AV.cells,AV.one,Value.oneCell']) (by simp [stC,AV.cells,AV.leaf,Value.oneCell']) (eY (k:=4) (enc:=stC) (z:=a1.length+i) (v:=v[i]) (by omega) (by rw[hsl]; omega) rfl rfl rfl) ?_))⟩
       refine aF (aH 22 [] (by kernel_rfl) ⟨?_,trivial⟩)
       ·
        refine⟨_,rfl,rfl,(ao rfl ?_)⟩
        refine aI rfl (cF rfl rfl cE bB (by omega)) ?_
        refine aF (aH 23 [] (by kernel_rfl) ⟨?_,trivial⟩)
        ·
         refine⟨_,rfl,rfl,(ao rfl (bD hf rfl rfl bB rfl rfl (by simp [stC,AV.cells,AV.one,Value.oneCell']) (by simp [stC,AV.cells,AV.leaf,Value.oneCell']) (eY (k:=4) (enc:=stC) (z:=a1.length+u.length+b1.length+i) (v:=u[i]) (by omega) (by rw[List.length_set,hsl]; omega) rfl rfl rfl) ?_))⟩
         refine aF (dF (by kernel_rfl) ?_)
         refine hK4 _ (aB (aE aA 1 rfl ?_))
         refine aI rfl (bQ rfl rfl (by omega) (by omega)) ?_
         refine aE aA 1 rfl (aD ?_)
         exact⟨i+1,by omega,by omega,cN ⟨rfl,rfl,rfl,rfl,rfl,trivial⟩ (by rw[← aJj huv (by omega)]; rfl)⟩
   ·
    refine⟨_,rfl,rfl,(ao rfl (aI rfl (cD rfl dO bB rfl (eL (k:=4) (enc:=stC) (z:=a1.length+i) (by omega) (aCh huv (by omega)) rfl) (dU (k:=4) (enc:=stC) (z:=a1.length+i) (by omega) (aCh huv (by omega)) rfl)) (aF (aH 13 [] (by kernel_rfl) ⟨?_,trivial⟩))))⟩
    ·
     refine⟨_,rfl,rfl,(ao rfl (aI rfl (cD rfl dO bB rfl (eL (k:=4) (enc:=stC) (z:=a1.length+u.length+b1.length+i) (by omega) (aCg huv (by omega)) rfl) (dU (k:=4) (enc:=stC) (z:=a1.length+u.length+b1.length+i) (by omega) (aCg huv (by omega)) rfl)) (aF (aH 20 [] (by kernel_rfl) ⟨?_,trivial⟩))))⟩
     ·
      refine⟨_,rfl,rfl,(ao rfl ?_)⟩
      refine aI rfl (cF rfl rfl cE bB (by omega)) ?_
      refine aF (aH 21 [] (by kernel_rfl) ⟨?_,trivial⟩)
      ·
       refine⟨_,rfl,rfl,(ao rfl (bD hf rfl rfl bB rfl rfl (by simp [stC,AV.cells,AV.one,Value.oneCell']) (by simp [stC,AV.cells,AV.leaf,Value.oneCell']) (eY (k:=4) (enc:=stC) (z:=a1.length+i) (v:=v[i]) (by omega) (by rw[hsl]; omega) rfl rfl rfl) ?_))⟩
       refine aF (aH 22 [] (by kernel_rfl) ⟨?_,trivial⟩)
       ·
        refine⟨_,rfl,rfl,(ao rfl ?_)⟩
        refine aI rfl (cF rfl rfl cE bB (by omega)) ?_
        refine aF (aH 23 [] (by kernel_rfl) ⟨?_,trivial⟩)
        ·
         refine⟨_,rfl,rfl,(ao rfl (bD hf rfl rfl bB rfl rfl (by simp [stC,AV.cells,AV.one,Value.oneCell']) (by simp [stC,AV.cells,AV.leaf,Value.oneCell']) (eY (k:=4) (enc:=stC) (z:=a1.length+u.length+b1.length+i) (v:=u[i]) (by omega) (by rw[List.length_set,hsl]; omega) rfl rfl rfl) ?_))⟩
         refine aF (dF (by kernel_rfl) ?_)
         refine hK4 _ (aB (aE aA 1 rfl ?_))
         refine aI rfl (bQ rfl rfl (by omega) (by omega)) ?_
         refine aE aA 1 rfl (aD ?_)
         exact⟨i+1,by omega,by omega,cN ⟨rfl,rfl,rfl,rfl,rfl,trivial⟩ (by rw[← aJj huv (by omega)]; rfl)⟩
  ·
   simp only[bs] at hc1
   refine bI ?_
   refine⟨_,_,_,Le.refl _,rfl,rfl,?_⟩
   have hi:i=u.length:=by omega
   rw[hi,swr,← huv,List.take_length,List.drop_length,huv,List.take_length,List.drop_length,List.append_nil,List.append_nil]
theorem aNz (g:Nat) (p s1 s2 q:List bO) (N:Nat) (za zm zb:Int) (hN:N=p.length+s1.length+s2.length+q.length) (hza:za=(p.length:Nat)) (hzm:zm=((p.length+s1.length:Nat):Int)) (hzb:zb=((p.length+s1.length+s2.length:Nat):Int)) (h01:0<s1.length) (h02:0<s2.length) (hM:N<4611686018427387904) :DenM Tryz.prog 234 [.own E0 4 0 N,.s (.int .i64 za),.s (.int .i64 zm),.s (.int .i64 zb),.fn g []] 4 ((List.map stC (p++(s1++(s2++q))))) (fun r ys=>ys=(List.map stC (p++(s2++(s1++q))))):=by
 subst hza
 subst hzm
 subst hzb
 refine gK Tryz.func234 rfl (Nat.le_of_ble_eq_true rfl) (fun w0 x0 A hf=>?_)
 refine aC (fun K1 hK1=>(aB (aE aA 2 rfl ?_)))
 refine aI rfl (eU rfl rfl (by omega) (by omega)) ?_
 refine aE aA 1 rfl (aD (hK1 _ (aC (fun K2 hK2=>(aB (aE aA 2 rfl ?_))))))
 refine aI rfl (eU rfl rfl (by omega) (by omega)) ?_
 refine aE aA 1 rfl (aD (hK2 _ (aC (fun K3 hK3=>(aU (bW (ι:=(List bO×List bO)×(List bO×List bO)) (fun(⟨⟨L,u⟩,⟨v,R⟩⟩:(List bO×List bO)×(List bO×List bO))=>⟨58,[(0,.own E0 4 0 N),(2,.s (.int .i64 ((p.length+s1.length:Nat):Int))),(4,.fn g []),(10,.s (.int .i64 (u.length:Nat))),(11,.s (.int .i64 (v.length:Nat)))],[(E0,.buf 4 (List.map stC (L++(u++(v++R)))))]⟩) (fun(⟨⟨L,u⟩,⟨v,R⟩⟩:(List bO×List bO)×(List bO×List bO))=>L.length+u.length=p.length+s1.length∧0<u.length∧0<v.length∧L++(v++(u++R))=p++(s2++(s1++q))) (fun(⟨⟨L,u⟩,⟨v,R⟩⟩:(List bO×List bO)×(List bO×List bO))=>u.length+v.length) ((p,s1),(s2,q)) ?_ ?_ ?_))))))
 · exact⟨rfl,h01,h02,rfl⟩
 · exact cN ⟨rfl,rfl,rfl,aT (by omega),aT (by omega),trivial⟩ rfl
 ·
  rintro ⟨⟨L,u⟩,⟨v,R⟩⟩ hC
  obtain ⟨hl,hu,hv,ht⟩:=hC
  have htl:=congrArg List.length ht
  simp only[List.length_append] at htl
  have hf1:=List.length_take (i:=v.length) (l:=u)
  have hf2:=List.length_drop (i:=v.length) (l:=u)
  have hf3:=List.length_take (i:=v.length - u.length) (l:=v)
  have hf4:=List.length_drop (i:=v.length - u.length) (l:=v)
  refine aC (fun K4 hK4=>(aC (fun K5 hK5=>(aB (aE aA 3 rfl (aD (hK5 _ (aO rfl (fun hc1=>?_) (fun hc1=>?_)))))))))
  ·
   simp only[bs] at hc1
   refine aR (hK4 _ (aU (aC (fun K6 hK6=>(aB (aE aA 3 rfl (aD (hK6 _ (aO rfl (fun hc2=>?_) (fun hc2=>?_))))))))))
   ·
    simp only[bs] at hc2
    refine aC (fun K7 hK7=>(aB ?_))
    rw[show L++(u++(v++R))=L++(u.take v.length++(u.drop v.length++(v++R))) from by rw[← List.append_assoc (u.take v.length),List.take_append_drop]]
    refine aE aA 3 rfl ?_
    refine aI rfl (eU rfl rfl (by omega) (by omega)) ?_
    refine aE aA 3 rfl (gE hf E0 rfl rfl rfl rfl rfl vF (uE g L (u.take v.length) (u.drop v.length) v R N _ _ _ (by omega) (by omega) (by omega) (by omega) (by omega) hM) ?_)
    rintro r zs rfl
    refine aD (hK7 _ (aB (aE aA 2 rfl ?_)))
    refine aI rfl (eU rfl rfl (by omega) (by omega)) ?_
    refine aE aA 1 rfl ?_
    refine bV ?_
    exact⟨((L++v,u.drop v.length),(u.take v.length,R)),⟨by rw[List.length_append]; omega,by omega,by omega,by rw[← ht]; simp [← List.append_assoc (u.take v.length)]⟩,by simp only; omega,cN ⟨rfl,rfl,rfl,aT (by omega),aT (by omega),trivial⟩ (by rw[List.append_assoc L v]; rfl)⟩
   ·
    simp only[bs] at hc2
    refine aC (fun K8 hK8=>(aB ?_))
    rw[show L++(u++(v++R))=L++(u++(v.take (v.length - u.length)++(v.drop (v.length - u.length)++R))) from by rw[← List.append_assoc (v.take (v.length - u.length)),List.take_append_drop]]
    refine aE aA 3 rfl ?_
    refine aI rfl (eU rfl rfl (by omega) (by omega)) ?_
    refine aE aA 2 rfl ?_
    refine aI rfl (bQ rfl rfl (by omega) (by omega)) ?_
    refine aE aA 1 rfl ?_
    refine aI rfl (eU rfl rfl (by omega) (by omega)) ?_
    refine aE aA 2 rfl (gE hf E0 rfl rfl rfl rfl rfl vF (uE g L u (v.take (v.length - u.length)) (v.drop (v.length - u.length)) R N _ _ _ (by omega) (by omega) (by omega) (by omega) (by omega) hM) ?_)
    rintro r zs rfl
    refine aD (hK8 _ (aB (aE aA 2 rfl ?_)))
    refine aI rfl (eU rfl rfl (by omega) (by omega)) ?_
    refine aE aA 1 rfl ?_
    refine bV ?_
    exact⟨((L,v.drop (v.length - u.length)),(v.take (v.length - u.length),u++R)),⟨by omega,by omega,by omega,by rw[← ht]; simp [← List.append_assoc (v.take (v.length - u.length))]⟩,by simp only; omega,cN ⟨rfl,rfl,rfl,aT (by omega),aT (by omega),trivial⟩ rfl⟩
  ·
   simp only[bs] at hc1
   refine bI (hK3 _ (aB ?_))
   rw[show L++(u++(v++R))=L++(u++([]++(v++R))) from rfl]
   refine aE aA 3 rfl ?_
   refine aI rfl (eU rfl rfl (by omega) (by omega)) ?_
   refine aE aA 3 rfl (gE hf E0 rfl rfl rfl rfl rfl vF (uE g L u [] v R N _ _ _ (by simp only[List.length_nil]; omega) (by omega) (by omega) (by simp only[List.length_nil]; omega) (by omega) hM) ?_)
   rintro r zs rfl
   refine bV ?_
   refine⟨_,_,_,Le.refl _,rfl,rfl,?_⟩
   rw[← ht]; rfl
theorem aDb {g:Nat} (hent:∀ args w,(callFunc g args).run Tryz.prog w=.ok (.enter g args) w) {c:bO→bO→Int} (hc:Tri c) (hcmp:∀ x y:bO,Den Tryz.prog g [.agg (stC x),.agg (stC y)] (·=.s (.int .i64 (c x y)))) (p s0 q:List bO) (N:Nat) (za zb:Int) (hN:N=p.length+s0.length+q.length) (hza:za=(p.length:Nat)) (hzb:zb=((p.length+s0.length:Nat):Int)) (hM:N<4611686018427387904) :DenM Tryz.prog 216 [.own E0 4 0 N,.s (.int .i64 za),.s (.int .i64 zb),.fn g []] 4 ((List.map stC (p++(s0++q)))) (fun r ys=>∃ t:List bO,t.Perm s0∧Srt c t∧ys=(List.map stC (p++(t++q)))):=by
 subst hza
 subst hzb
 refine gK Tryz.func216 rfl (Nat.le_of_ble_eq_true rfl) (fun w0 x0 A hf=>?_)
 refine aC (fun K1 hK1=>(aB (aE aA 1 rfl ?_)))
 refine aI rfl (bQ rfl rfl (by omega) (by omega)) ?_
 refine aE aA 1 rfl (aD (hK1 _ (aU (bW (ι:=List bO×List bO) (fun(⟨s1,s2⟩:List bO×List bO)=>⟨53,[(0,.own E0 4 0 N),(1,.s (.int .i64 (p.length:Nat))),(2,.s (.int .i64 ((p.length+s0.length:Nat):Int))),(3,.fn g []),(8,.s (.int .i64 ((p.length+1+(s1.length - 1):Nat):Int)))],[(E0,.buf 4 (List.map stC (p++(s1++(s2++q)))))]⟩) (fun(⟨s1,s2⟩:List bO×List bO)=>Srt c s1∧(s1++s2).Perm s0∧(0<s1.length∨s0=[])) (fun(⟨s1,s2⟩:List bO×List bO)=>s2.length) (s0.take 1,s0.drop 1) ?_ ?_ ?_))))
 · exact⟨srt_one (by simp; omega),by rw[List.take_append_drop],by cases s0 <;> simp⟩
 · exact cN ⟨rfl,rfl,rfl,rfl,aT (by have:=List.length_take (i:=1) (l:=s0); omega),trivial⟩ (by rw[← List.append_assoc (s0.take 1),List.take_append_drop])
 ·
  rintro ⟨s1,s2⟩ hC
  obtain ⟨hs1,hp12,hne⟩:=hC
  have hpl:=hp12.length_eq
  rw[List.length_append] at hpl
  have hnl:s0=[]→s0.length=0:=fun h=>by rw[h]; rfl
  refine aC (fun K2 hK2=>(aC (fun K3 hK3=>(aB (aE aA 3 rfl (aD (hK3 _ (aO rfl (fun hc1=>?_) (fun hc1=>?_)))))))))
  ·
   simp only[bs] at hc1
   refine aR (hK2 _ (aC (fun K4 hK4=>(aU (aC (fun K5 hK5=>(aB ?_)))))))
   have h0:0<s1.length:=by rcases hne with h | h; exact h; exfalso; have:=hnl h; omega
   obtain ⟨e,s3,rfl⟩:∃ e s3,s2=e::s3:=by
    cases s2 with
    | nil=>exfalso; simp only[List.length_nil] at hpl; omega
    | cons e r=>exact⟨e,r,rfl⟩
   simp only[List.length_cons] at hpl
   refine aE aA 2 rfl (aD (hK5 _ (aU (bW (ι:=List bO×List bO) (fun(⟨u,v⟩:List bO×List bO)=>⟨53,[(0,.own E0 4 0 N),(1,.s (.int .i64 (p.length:Nat))),(2,.s (.int .i64 ((p.length+s0.length:Nat):Int))),(3,.fn g []),(8,.s (.int .i64 ((p.length+1+(s1.length - 1):Nat):Int))),(9,.s (.int .i64 ((p.length+u.length:Nat):Int)))],[(E0,.buf 4 (List.map stC (p++(u++(e::(v++(s3++q)))))))]⟩) (fun(⟨u,v⟩:List bO×List bO)=>u++v=s1∧∀ y∈v,c e y≤0) (fun(⟨u,v⟩:List bO×List bO)=>u.length) (s1,[]) ?_ ?_ ?_))))
   · exact⟨List.append_nil _,by simp⟩
   · exact cN ⟨rfl,rfl,rfl,rfl,rfl,aT (by omega),trivial⟩ rfl
   ·
    rintro ⟨u,v⟩ hC
    obtain ⟨huv,hv⟩:=hC
    have hul:=congrArg List.length huv
    rw[List.length_append] at hul
    refine aC (fun K6 hK6=>(aC (fun K7 hK7=>(dE hf bK (by kernel_rfl) rfl (bC aA 4 rfl (eI 21 true rfl (fun hg2=>?_) (fun hg2=>?_)))))))
    ·
     simp only[bs] at hg2
     obtain ⟨u1,z,hu1⟩:=last_of (u:=u) (by omega)
     have hu2:=congrArg List.length hu1
     simp only[List.length_append,List.length_cons,List.length_nil] at hu2
     refine bC aA 3 rfl ?_
     refine bN [(23,_),(24,_)] rfl rfl ⟨⟨rfl,rfl⟩,⟨rfl,rfl⟩,trivial⟩ rfl (cF rfl rfl cE bB (by omega)) ?_
     refine bN [(25,_)] rfl rfl ⟨⟨rfl,rfl⟩,trivial⟩ rfl (cD rfl dO bB rfl (eL (k:=4) (enc:=stC) (z:=p.length+u.length) (by omega) (atQ (p:=p++u) (q:=v++(s3++q)) (x:=e) (by simp) (by simp)) rfl) (dU (k:=4) (enc:=stC) (z:=p.length+u.length) (by omega) (atQ (p:=p++u) (q:=v++(s3++q)) (x:=e) (by simp) (by simp)) rfl)) ?_
     refine bC aA 2 rfl ?_
     refine bN [(28,_)] rfl rfl ⟨⟨rfl,rfl⟩,trivial⟩ rfl (eU rfl rfl (by omega) (by omega)) ?_
     refine bN [(27,_),(29,_)] rfl rfl ⟨⟨rfl,rfl⟩,⟨rfl,rfl⟩,trivial⟩ rfl (cF rfl rfl cE bB (by omega)) ?_
     refine bN [(30,_)] rfl rfl ⟨⟨rfl,rfl⟩,trivial⟩ rfl (cD rfl dO bB rfl (eL (k:=4) (enc:=stC) (z:=p.length+u1.length) (by omega) (atQ (p:=p++u1) (q:=e::(v++(s3++q))) (x:=z) (by rw[hu1]; simp) (by simp)) rfl) (dU (k:=4) (enc:=stC) (z:=p.length+u1.length) (by omega) (atQ (p:=p++u1) (q:=e::(v++(s3++q))) (x:=z) (by rw[hu1]; simp) (by simp)) rfl)) ?_
     refine bT [(22,_),(26,_),(31,_)] rfl rfl ⟨⟨rfl,rfl⟩,⟨rfl,rfl⟩,⟨rfl,rfl⟩,trivial⟩ rfl (aP rfl rfl hent rfl (hcmp e z)) (bC aA 2 rfl (dC [0,1,2,3,8,9,34] rfl rfl rfl (hK7 _ (aO rfl (fun hc3=>?_) (fun hc3=>?_)))))
     ·
      simp only[bs] at hc3
      refine aR (hK6 _ (aC (fun K8 hK8=>(aU (dK bK ?_)))))
      refine bY (listed':=#[true,false,false,false,false,false,false,false,false,false,false,false,false,false,false,false,false,false]) 0 rfl (by kernel_rfl) (by kernel_rfl) (by kernel_rfl) rfl (fun _ _ h=>h) (dL rfl) ?_
      refine bY (listed':=#[true,true,false,false,false,false,false,false,false,false,false,false,false,false,false,false,false,false]) 1 rfl (by kernel_rfl) (by kernel_rfl) (by kernel_rfl) rfl (fun _ _ h=>h) (dL rfl) ?_
      refine bY (listed':=#[true,true,true,false,false,false,false,false,false,false,false,false,false,false,false,false,false,false]) 2 rfl (by kernel_rfl) (by kernel_rfl) (by kernel_rfl) rfl (fun _ _ h=>h) (dL rfl) ?_
      refine bY (listed':=#[true,true,true,true,false,false,false,false,false,false,false,false,false,false,false,false,false,false]) 3 rfl (by kernel_rfl) (by kernel_rfl) (by kernel_rfl) rfl (fun _ _ h=>h) (dL rfl) ?_
      refine bY (listed':=#[true,true,true,true,true,false,false,false,false,false,false,false,false,false,false,false,false,false]) 4 rfl (by kernel_rfl) (by kernel_rfl) (by kernel_rfl) rfl (fun _ _ h=>h) (aPs rfl rfl (by omega) (by omega)) ?_
      refine bY (listed':=#[true,true,true,true,true,true,false,false,false,false,false,false,false,false,false,false,false,false]) 5 rfl (by kernel_rfl) (by kernel_rfl) (by kernel_rfl) rfl (fun _ _ h=>h) (dL rfl) ?_
      refine bY (listed':=#[true,true,true,true,true,true,true,false,false,false,false,false,false,false,false,false,false,false]) 6 rfl (by kernel_rfl) (by kernel_rfl) (by kernel_rfl) rfl (fun _ _ h=>h) (dL rfl) ?_
      refine bY (listed':=#[true,true,true,true,true,true,true,true,false,false,false,false,false,false,false,false,false,false]) 7 rfl (by kernel_rfl) (by kernel_rfl) (by kernel_rfl) rfl (fun _ _ h=>h) (aPs rfl rfl (by omega) (by omega)) ?_
      refine bY (listed':=#[true,true,true,true,true,true,true,true,true,false,false,false,false,false,false,false,false,false]) 8 rfl (by kernel_rfl) (by kernel_rfl) (by kernel_rfl) rfl (fun _ _ h=>h) (lP rfl rfl cE bB (by omega)) ?_
      refine bY (listed':=#[true,true,true,true,true,true,true,true,true,false,true,false,false,false,false,false,false,false]) 10 rfl (by kernel_rfl) (by kernel_rfl) (by kernel_rfl) rfl (fun _ _ h=>h) (dL rfl) ?_
      refine bY (listed':=#[true,true,true,true,true,true,true,true,true,false,true,true,false,false,false,false,false,false]) 11 rfl (by kernel_rfl) (by kernel_rfl) (by kernel_rfl) rfl (fun _ _ h=>h) (dL rfl) ?_
      refine bY (listed':=#[true,true,true,true,true,true,true,true,true,false,true,true,true,false,false,false,false,false]) 12 rfl (by kernel_rfl) (by kernel_rfl) (by kernel_rfl) rfl (fun _ _ h=>h) (lP rfl rfl cE bB (by omega)) ?_
      refine gZ (iK [0,1,2,3,8,9,37,38,39,41,45,49] rfl) (aH 9 [13] (by kernel_rfl) ⟨?_,?_,trivial⟩)
      ·
       refine⟨_,rfl,rfl,(ao rfl (aI rfl (cD rfl dO bB rfl (eL (k:=4) (enc:=stC) (z:=p.length+u1.length) (by omega) (atQ (p:=p++u1) (q:=e::(v++(s3++q))) (x:=z) (by rw[hu1]; simp) (by simp)) rfl) (dU (k:=4) (enc:=stC) (z:=p.length+u1.length) (by omega) (atQ (p:=p++u1) (q:=e::(v++(s3++q))) (x:=z) (by rw[hu1]; simp) (by simp)) rfl)) ?_))⟩
       refine aF (aH 13 [] (by kernel_rfl) ⟨?_,trivial⟩)
       ·
        refine⟨_,rfl,rfl,(ao rfl (aI rfl (cD rfl dO bB rfl (eL (k:=4) (enc:=stC) (z:=p.length+u.length) (by omega) (atQ (p:=p++u) (q:=v++(s3++q)) (x:=e) (by simp) (by simp)) rfl) (dU (k:=4) (enc:=stC) (z:=p.length+u.length) (by omega) (atQ (p:=p++u) (q:=v++(s3++q)) (x:=e) (by simp) (by simp)) rfl)) ?_))⟩
        refine aF (aH 14 [] (by kernel_rfl) ⟨?_,trivial⟩)
        ·
         refine⟨_,rfl,rfl,(ao rfl ?_)⟩
         refine aI rfl (cF rfl rfl cE bB (by omega)) ?_
         refine aF (aH 15 [] (by kernel_rfl) ⟨?_,trivial⟩)
         ·
          refine⟨_,rfl,rfl,(ao rfl (bD hf rfl rfl bB rfl rfl (by simp [stC,AV.cells,AV.one,Value.oneCell']) (by simp [stC,AV.cells,AV.leaf,Value.oneCell']) (eY (k:=4) (enc:=stC) (z:=p.length+u.length) (v:=z) (by omega) (by simp only[List.length_append,List.length_cons,List.length_set]; omega) rfl rfl rfl) ?_))⟩
          refine aF (aH 16 [] (by kernel_rfl) ⟨?_,trivial⟩)
          ·
           refine⟨_,rfl,rfl,(ao rfl ?_)⟩
           refine aI rfl (cF rfl rfl cE bB (by omega)) ?_
           refine aF (aH 17 [] (by kernel_rfl) ⟨?_,trivial⟩)
           ·
            refine⟨_,rfl,rfl,(ao rfl (bD hf rfl rfl bB rfl rfl (by simp [stC,AV.cells,AV.one,Value.oneCell']) (by simp [stC,AV.cells,AV.leaf,Value.oneCell']) (eY (k:=4) (enc:=stC) (z:=p.length+u1.length) (v:=e) (by omega) (by simp only[List.length_append,List.length_cons,List.length_set]; omega) rfl rfl rfl) ?_))⟩
            refine aF (dF (by kernel_rfl) ?_)
            refine hK8 _ (aB (aE aA 1 rfl ?_))
            refine aI rfl (eU rfl rfl (by omega) (by omega)) ?_
            refine aE aA 1 rfl (aD ?_)
            exact⟨(u1,z::v),⟨by rw[← huv,hu1]; simp,fun y hy=>by
             rcases List.mem_cons.1 hy with rfl | hy
             · omega
             · exact hv y hy⟩,by simp only; omega,cN ⟨rfl,rfl,rfl,rfl,rfl,aT (by omega),trivial⟩ (congrArg (fun l=>[(E0,AM.buf 4 (List.map stC l))]) ((vU (p:=p++u1) (x:=z) (y:=e) (q:=v++(s3++q)) (by rw[hu1]; simp) (by simp; omega) (by simp)).trans (by simp)))⟩
      ·
       refine⟨_,rfl,rfl,(ao rfl (aI rfl (cD rfl dO bB rfl (eL (k:=4) (enc:=stC) (z:=p.length+u.length) (by omega) (atQ (p:=p++u) (q:=v++(s3++q)) (x:=e) (by simp) (by simp)) rfl) (dU (k:=4) (enc:=stC) (z:=p.length+u.length) (by omega) (atQ (p:=p++u) (q:=v++(s3++q)) (x:=e) (by simp) (by simp)) rfl)) ?_))⟩
       refine aF (aH 9 [] (by kernel_rfl) ⟨?_,trivial⟩)
       ·
        refine⟨_,rfl,rfl,(ao rfl (aI rfl (cD rfl dO bB rfl (eL (k:=4) (enc:=stC) (z:=p.length+u1.length) (by omega) (atQ (p:=p++u1) (q:=e::(v++(s3++q))) (x:=z) (by rw[hu1]; simp) (by simp)) rfl) (dU (k:=4) (enc:=stC) (z:=p.length+u1.length) (by omega) (atQ (p:=p++u1) (q:=e::(v++(s3++q))) (x:=z) (by rw[hu1]; simp) (by simp)) rfl)) ?_))⟩
        refine aF (aH 14 [] (by kernel_rfl) ⟨?_,trivial⟩)
        ·
         refine⟨_,rfl,rfl,(ao rfl ?_)⟩
         refine aI rfl (cF rfl rfl cE bB (by omega)) ?_
         refine aF (aH 15 [] (by kernel_rfl) ⟨?_,trivial⟩)
         ·
          refine⟨_,rfl,rfl,(ao rfl (bD hf rfl rfl bB rfl rfl (by simp [stC,AV.cells,AV.one,Value.oneCell']) (by simp [stC,AV.cells,AV.leaf,Value.oneCell']) (eY (k:=4) (enc:=stC) (z:=p.length+u.length) (v:=z) (by omega) (by simp only[List.length_append,List.length_cons,List.length_set]; omega) rfl rfl rfl) ?_))⟩
          refine aF (aH 16 [] (by kernel_rfl) ⟨?_,trivial⟩)
          ·
           refine⟨_,rfl,rfl,(ao rfl ?_)⟩
           refine aI rfl (cF rfl rfl cE bB (by omega)) ?_
           refine aF (aH 17 [] (by kernel_rfl) ⟨?_,trivial⟩)
           ·
            refine⟨_,rfl,rfl,(ao rfl (bD hf rfl rfl bB rfl rfl (by simp [stC,AV.cells,AV.one,Value.oneCell']) (by simp [stC,AV.cells,AV.leaf,Value.oneCell']) (eY (k:=4) (enc:=stC) (z:=p.length+u1.length) (v:=e) (by omega) (by simp only[List.length_append,List.length_cons,List.length_set]; omega) rfl rfl rfl) ?_))⟩
            refine aF (dF (by kernel_rfl) ?_)
            refine hK8 _ (aB (aE aA 1 rfl ?_))
            refine aI rfl (eU rfl rfl (by omega) (by omega)) ?_
            refine aE aA 1 rfl (aD ?_)
            exact⟨(u1,z::v),⟨by rw[← huv,hu1]; simp,fun y hy=>by
             rcases List.mem_cons.1 hy with rfl | hy
             · omega
             · exact hv y hy⟩,by simp only; omega,cN ⟨rfl,rfl,rfl,rfl,rfl,aT (by omega),trivial⟩ (congrArg (fun l=>[(E0,AM.buf 4 (List.map stC l))]) ((vU (p:=p++u1) (x:=z) (y:=e) (q:=v++(s3++q)) (by rw[hu1]; simp) (by simp; omega) (by simp)).trans (by simp)))⟩
     ·
      simp only[bs] at hc3
      refine bI (hK4 _ (aB (aE aA 1 rfl ?_)))
      refine aI rfl (bQ rfl rfl (by omega) (by omega)) ?_
      refine aE aA 1 rfl (aD ?_)
      exact⟨(u++e::v,s3),⟨aEe hc (by rw[huv]; exact hs1) hv (fun z' hz'=>by rw[hu1] at hz'; simp at hz'; subst hz'; have:=hc.swap e z; omega),aKo huv hp12,.inl (by simp only[List.length_append,List.length_cons]; omega)⟩,by simp,cN ⟨rfl,rfl,rfl,rfl,aT (by simp only[List.length_append,List.length_cons]; omega),trivial⟩ (by simp)⟩
    ·
     simp only[bs] at hg2
     refine bC aA 13 rfl (dC [0,1,2,3,8,9,34] rfl rfl rfl (hK7 _ (bZ rfl (bI (hK4 _ (aB (aE aA 1 rfl ?_)))))))
     refine aI rfl (bQ rfl rfl (by omega) (by omega)) ?_
     refine aE aA 1 rfl (aD ?_)
     exact⟨(u++e::v,s3),⟨aEe hc (by rw[huv]; exact hs1) hv (fun z' hz'=>by rw[List.eq_nil_of_length_eq_zero (show u.length=0 by omega)] at hz'; simp at hz'),aKo huv hp12,.inl (by simp only[List.length_append,List.length_cons]; omega)⟩,by simp,cN ⟨rfl,rfl,rfl,rfl,aT (by simp only[List.length_append,List.length_cons]; omega),trivial⟩ (by simp)⟩
  ·
   simp only[bs] at hc1
   refine bI ?_
   have hs2:s2=[]:=List.eq_nil_of_length_eq_zero (by rcases hne with h | h; omega; have:=hnl h; omega)
   subst hs2
   exact⟨_,_,_,Le.refl _,rfl,rfl,s1,by simpa using hp12,hs1,rfl⟩
theorem aDa {g:Nat} (hent:∀ args w,(callFunc g args).run Tryz.prog w=.ok (.enter g args) w) {c:bO→bO→Int} (hc:Tri c) (hcmp:∀ x y:bO,Den Tryz.prog g [.agg (stC x),.agg (stC y)] (·=.s (.int .i64 (c x y)))) (NN:Nat) (ih:∀ (p s1 s2 q:List bO) (N:Nat) (za zm zb:Int),s1.length+s2.length≤NN→N=p.length+s1.length+s2.length+q.length→za=(p.length:Nat)→zm=((p.length+s1.length:Nat):Int)→zb=((p.length+s1.length+s2.length:Nat):Int)→0<s1.length→0<s2.length→Srt c s1→Srt c s2→N<4611686018427387904→DenM Tryz.prog 217 [.own E0 4 0 N,.s (.int .i64 za),.s (.int .i64 zm),.s (.int .i64 zb),.fn g []] 4 (List.map stC (p++(s1++(s2++q)))) (fun r ys=>∃ t:List bO,t.Perm (s1++s2)∧Srt c t∧ys=(List.map stC (p++(t++q))))) (p s1 s2 q:List bO) (N:Nat) (za zm zb:Int) (hle:s1.length+s2.length≤NN+1) (hN:N=p.length+s1.length+s2.length+q.length) (hza:za=(p.length:Nat)) (hzm:zm=((p.length+s1.length:Nat):Int)) (hzb:zb=((p.length+s1.length+s2.length:Nat):Int)) (h01:0<s1.length) (h02:0<s2.length) (hs1:Srt c s1) (hs2:Srt c s2) (hM:N<4611686018427387904) :DenM Tryz.prog 217 [.own E0 4 0 N,.s (.int .i64 za),.s (.int .i64 zm),.s (.int .i64 zb),.fn g []] 4 ((List.map stC (p++(s1++(s2++q))))) (fun r ys=>∃ t:List bO,t.Perm (s1++s2)∧Srt c t∧ys=(List.map stC (p++(t++q)))):=by
 subst hza
 subst hzm
 subst hzb
 refine gK Tryz.func217 rfl (Nat.le_of_ble_eq_true rfl) (fun w0 x0 A hf=>?_)
 refine aC (fun K1 hK1=>(aC (fun K2 hK2=>(aB (aE aA 2 rfl ?_)))))
 refine aI rfl (eU rfl rfl (by omega) (by omega)) ?_
 refine aE aA 1 rfl (aD (hK2 _ (aO rfl (fun hc1=>?_) (fun hc1=>?_))))
 ·
  simp only[bs] at hc1
  obtain ⟨x,hx1⟩:∃ x,s1=[x]:=List.length_eq_one_iff.1 (by omega)
  have hl1:s1.length=1:=by rw[hx1]; rfl
  refine aC (fun K3 hK3=>(aB (aE aA 2 rfl (aD (hK3 _ (aC (fun K4 hK4=>(aB (aE aA 2 rfl (aD (hK4 _ (aC (fun K5 hK5=>(aU (bW (ι:=Nat×Nat) (fun(⟨i,j⟩:Nat×Nat)=>⟨220,[(0,.own E0 4 0 N),(1,.s (.int .i64 (p.length:Nat))),(4,.fn g []),(10,.s (.int .i64 ((p.length+s1.length+i:Nat):Int))),(11,.s (.int .i64 ((p.length+s1.length+j:Nat):Int)))],[(E0,.buf 4 (List.map stC (p++(s1++(s2++q)))))]⟩) (fun(⟨i,j⟩:Nat×Nat)=>i≤j∧j≤s2.length∧(∀ z,s2[i - 1]?=some z→0<i→c z x≤0)∧(∀ z,s2[j]?=some z→c x z≤0)) (fun(⟨i,j⟩:Nat×Nat)=>j - i) (0,s2.length) ?_ ?_ ?_)))))))))))))))
  · exact⟨Nat.zero_le _,Nat.le_refl _,fun _ _ h=>absurd h (by omega),fun z hz=>by rw[List.getElem?_eq_none (Nat.le_refl _)] at hz; cases hz⟩
  · exact cN ⟨(by first | rfl | exact aT (by omega)),(by first | rfl | exact aT (by omega)),(by first | rfl | exact aT (by omega)),(by first | rfl | exact aT (by omega)),(by first | rfl | exact aT (by omega)),trivial⟩ rfl
  ·
   rintro ⟨i,j⟩ hC
   obtain ⟨q1,q2,q3,q4⟩:=hC
   refine aC (fun K6 hK6=>(aC (fun K7 hK7=>(aB (aE aA 3 rfl (aD (hK7 _ (aO rfl (fun hc2=>?_) (fun hc2=>?_)))))))))
   ·
    simp only[bs] at hc2
    refine aR (hK6 _ (aU (aC (fun K8 hK8=>(aB ?_)))))
    obtain ⟨h,eh⟩:∃ h,h=(i+j) / 2:=⟨_,rfl⟩
    have hz:=aAf (a:=((p.length+s1.length+i:Nat):Int)+((p.length+s1.length+j:Nat):Int)) (b:=((p.length+s1.length+h:Nat):Int)) (by omega) (by omega) (by omega)
    refine aE aA 2 rfl ?_
    refine aI rfl (bQ rfl rfl (by omega) (by omega)) ?_
    refine aI rfl (oM rfl Tryz.underlying3 Tryz.underlying234 hz.1) (aI rfl (zX rfl hz.2.1 (by decide)) (aI rfl (oM rfl Tryz.underlying234 Tryz.underlying3 hz.2.2) (aE aA 1 rfl (aD (hK8 _ (aC (fun K9 hK9=>(dE hf bK (by kernel_rfl) rfl ?_))))))))
    have hh2:h<s2.length:=by omega
    refine bC aA 3 rfl ?_
    refine bN [(41,_),(42,_)] rfl rfl ⟨⟨rfl,rfl⟩,⟨rfl,rfl⟩,trivial⟩ rfl (cF rfl rfl cE bB (by omega)) ?_
    refine bN [(43,_)] rfl rfl ⟨⟨rfl,rfl⟩,trivial⟩ rfl (cD rfl dO bB rfl (eL (k:=4) (enc:=stC) (z:=p.length+s1.length+h) (by omega) (atM hh2) rfl) (dU (k:=4) (enc:=stC) (z:=p.length+s1.length+h) (by omega) (atM hh2) rfl)) (bC aA 2 rfl ?_)
    refine bN [(45,_),(46,_)] rfl rfl ⟨⟨rfl,rfl⟩,⟨rfl,rfl⟩,trivial⟩ rfl (cF rfl rfl cE bB (by omega)) ?_
    refine bN [(47,_)] rfl rfl ⟨⟨rfl,rfl⟩,trivial⟩ rfl (cD rfl dO bB rfl (eL (k:=4) (enc:=stC) (z:=p.length) (by omega) (atQ (p:=p) (q:=s2++q) (by rw[hx1]; rfl) rfl) rfl) (dU (k:=4) (enc:=stC) (z:=p.length) (by omega) (atQ (p:=p) (q:=s2++q) (by rw[hx1]; rfl) rfl) rfl)) ?_
    refine bT [(40,_),(44,_),(48,_)] rfl rfl ⟨⟨rfl,rfl⟩,⟨rfl,rfl⟩,⟨rfl,rfl⟩,trivial⟩ rfl (aP rfl rfl hent rfl (hcmp s2[h] x)) (bC aA 1 rfl (dC [0,1,4,10,11,12,50] rfl rfl rfl (hK9 _ (aO rfl (fun hc3=>?_) (fun hc3=>?_)))))
    ·
     simp only[bs] at hc3
     refine aB (aE aA 1 rfl ?_)
     refine aI rfl (bQ rfl rfl (by omega) (by omega)) ?_
     refine aE aA 1 rfl ?_
     refine bV ?_
     exact⟨(h+1,j),⟨by omega,by omega,fun z hz _=>by rw[Nat.add_sub_cancel,List.getElem?_eq_getElem hh2] at hz; cases hz; omega,q4⟩,by simp only; omega,cN ⟨(by first | rfl | exact aT (by omega)),(by first | rfl | exact aT (by omega)),(by first | rfl | exact aT (by omega)),(by first | rfl | exact aT (by omega)),(by first | rfl | exact aT (by omega)),trivial⟩ rfl⟩
    ·
     simp only[bs] at hc3
     refine aB (aE aA 2 rfl ?_)
     refine bV ?_
     exact⟨(i,h),⟨by omega,by omega,q3,fun z hz=>by rw[List.getElem?_eq_getElem hh2] at hz; cases hz; have:=hc.swap s2[h] x; omega⟩,by simp only; omega,cN ⟨(by first | rfl | exact aT (by omega)),(by first | rfl | exact aT (by omega)),(by first | rfl | exact aT (by omega)),(by first | rfl | exact aT (by omega)),(by first | rfl | exact aT (by omega)),trivial⟩ rfl⟩
   ·
    simp only[bs] at hc2
    refine bI (hK5 _ (aC (fun K10 hK10=>(aC (fun K11 hK11=>(aB (aE aA 2 rfl (aD (hK11 _ (aU (bW (ι:=Nat) (fun t=>⟨220,[(0,.own E0 4 0 N),(10,.s (.int .i64 ((p.length+s1.length+i:Nat):Int))),(13,.s (.int .i64 ((p.length+t:Nat):Int)))],[(E0,.buf 4 (List.map stC (p++(s2.take t++(x::(s2.drop t++q))))))]⟩) (fun t=>t≤i) (fun t=>i - t) 0 ?_ ?_ ?_)))))))))))
    · exact Nat.zero_le _
    · exact cN ⟨(by first | rfl | exact aT (by omega)),(by first | rfl | exact aT (by omega)),(by first | rfl | exact aT (by omega)),trivial⟩ (by rw[hx1]; rfl)
    ·
     rintro t hC
     have hq:=hC
     refine aC (fun K12 hK12=>(aC (fun K13 hK13=>(aB (aE aA 2 rfl ?_)))))
     refine aI rfl (eU rfl rfl (by omega) (by omega)) ?_
     refine aE aA 1 rfl (aD (hK13 _ (aO rfl (fun hc4=>?_) (fun hc4=>?_))))
     ·
      simp only[bs] at hc4
      refine aR (hK12 _ (aC (fun K14 hK14=>(aU (dK bK ?_)))))
      refine bY (listed':=#[true,false,false,false,false,false,false,false,false,false,false,false,false,false,false,false,false,false]) 0 rfl (by kernel_rfl) (by kernel_rfl) (by kernel_rfl) rfl (fun _ _ h=>h) (dL rfl) ?_
      refine bY (listed':=#[true,true,false,false,false,false,false,false,false,false,false,false,false,false,false,false,false,false]) 1 rfl (by kernel_rfl) (by kernel_rfl) (by kernel_rfl) rfl (fun _ _ h=>h) (dL rfl) ?_
      refine bY (listed':=#[true,true,true,false,false,false,false,false,false,false,false,false,false,false,false,false,false,false]) 2 rfl (by kernel_rfl) (by kernel_rfl) (by kernel_rfl) rfl (fun _ _ h=>h) (dL rfl) ?_
      refine bY (listed':=#[true,true,true,true,false,false,false,false,false,false,false,false,false,false,false,false,false,false]) 3 rfl (by kernel_rfl) (by kernel_rfl) (by kernel_rfl) rfl (fun _ _ h=>h) (dL rfl) ?_
      refine bY (listed':=#[true,true,true,true,true,false,false,false,false,false,false,false,false,false,false,false,false,false]) 4 rfl (by kernel_rfl) (by kernel_rfl) (by kernel_rfl) rfl (fun _ _ h=>h) (aGh rfl rfl (by omega) (by omega)) ?_
      refine bY (listed':=#[true,true,true,true,true,true,false,false,false,false,false,false,false,false,false,false,false,false]) 5 rfl (by kernel_rfl) (by kernel_rfl) (by kernel_rfl) rfl (fun _ _ h=>h) (dL rfl) ?_
      refine bY (listed':=#[true,true,true,true,true,true,true,false,false,false,false,false,false,false,false,false,false,false]) 6 rfl (by kernel_rfl) (by kernel_rfl) (by kernel_rfl) rfl (fun _ _ h=>h) (dL rfl) ?_
      refine bY (listed':=#[true,true,true,true,true,true,true,true,false,false,false,false,false,false,false,false,false,false]) 7 rfl (by kernel_rfl) (by kernel_rfl) (by kernel_rfl) rfl (fun _ _ h=>h) (aGh rfl rfl (by omega) (by omega)) ?_
      refine bY (listed':=#[true,true,true,true,true,true,true,true,true,false,false,false,false,false,false,false,false,false]) 8 rfl (by kernel_rfl) (by kernel_rfl) (by kernel_rfl) rfl (fun _ _ h=>h) (lP rfl rfl cE bB (by omega)) ?_
      refine bY (listed':=#[true,true,true,true,true,true,true,true,true,false,true,false,false,false,false,false,false,false]) 10 rfl (by kernel_rfl) (by kernel_rfl) (by kernel_rfl) rfl (fun _ _ h=>h) (dL rfl) ?_
      refine bY (listed':=#[true,true,true,true,true,true,true,true,true,false,true,true,false,false,false,false,false,false]) 11 rfl (by kernel_rfl) (by kernel_rfl) (by kernel_rfl) rfl (fun _ _ h=>h) (dL rfl) ?_
      refine bY (listed':=#[true,true,true,true,true,true,true,true,true,false,true,true,true,false,false,false,false,false]) 12 rfl (by kernel_rfl) (by kernel_rfl) (by kernel_rfl) rfl (fun _ _ h=>h) (lP rfl rfl cE bB (by omega)) ?_
      refine gZ (iK [0,10,13,61,62,63,65,69,73] rfl) (aH 9 [13] (by kernel_rfl) ⟨?_,?_,trivial⟩)
      ·
       refine⟨_,rfl,rfl,(ao rfl (aI rfl (cD rfl dO bB rfl (eL (k:=4) (enc:=stC) (z:=p.length+t+1) (by omega) (atQ (p:=p++(s2.take t++[x])) (q:=s2.drop (t+1)++q) (x:=s2[t]) (by rw[List.drop_eq_getElem_cons (show t<s2.length by omega)]; simp only[List.append_assoc,List.cons_append,List.nil_append]) (by simp only[List.length_append,List.length_take,List.length_cons,List.length_nil]; omega)) rfl) (dU (k:=4) (enc:=stC) (z:=p.length+t+1) (by omega) (atQ (p:=p++(s2.take t++[x])) (q:=s2.drop (t+1)++q) (x:=s2[t]) (by rw[List.drop_eq_getElem_cons (show t<s2.length by omega)]; simp only[List.append_assoc,List.cons_append,List.nil_append]) (by simp only[List.length_append,List.length_take,List.length_cons,List.length_nil]; omega)) rfl)) ?_))⟩
       refine aF (aH 13 [] (by kernel_rfl) ⟨?_,trivial⟩)
       ·
        refine⟨_,rfl,rfl,(ao rfl (aI rfl (cD rfl dO bB rfl (eL (k:=4) (enc:=stC) (z:=p.length+t) (by omega) (atQ (p:=p++s2.take t) (q:=s2.drop t++q) (x:=x) (by simp only[List.append_assoc]) (by(try simp only[List.length_take,List.length_drop,List.length_append]); omega)) rfl) (dU (k:=4) (enc:=stC) (z:=p.length+t) (by omega) (atQ (p:=p++s2.take t) (q:=s2.drop t++q) (x:=x) (by simp only[List.append_assoc]) (by(try simp only[List.length_take,List.length_drop,List.length_append]); omega)) rfl)) ?_))⟩
        refine aF (aH 14 [] (by kernel_rfl) ⟨?_,trivial⟩)
        ·
         refine⟨_,rfl,rfl,(ao rfl ?_)⟩
         refine aI rfl (cF rfl rfl cE bB (by omega)) ?_
         refine aF (aH 15 [] (by kernel_rfl) ⟨?_,trivial⟩)
         ·
          refine⟨_,rfl,rfl,(ao rfl (bD hf rfl rfl bB rfl rfl (by simp [stC,AV.cells,AV.one,Value.oneCell']) (by simp [stC,AV.cells,AV.leaf,Value.oneCell']) (eY (k:=4) (enc:=stC) (z:=p.length+t) (v:=s2[t]) (by omega) (by simp only[List.length_append,List.length_cons,List.length_set,List.length_take,List.length_drop]; omega) rfl rfl rfl) ?_))⟩
          refine aF (aH 16 [] (by kernel_rfl) ⟨?_,trivial⟩)
          ·
           refine⟨_,rfl,rfl,(ao rfl ?_)⟩
           refine aI rfl (cF rfl rfl cE bB (by omega)) ?_
           refine aF (aH 17 [] (by kernel_rfl) ⟨?_,trivial⟩)
           ·
            refine⟨_,rfl,rfl,(ao rfl (bD hf rfl rfl bB rfl rfl (by simp [stC,AV.cells,AV.one,Value.oneCell']) (by simp [stC,AV.cells,AV.leaf,Value.oneCell']) (eY (k:=4) (enc:=stC) (z:=p.length+t+1) (v:=x) (by omega) (by simp only[List.length_append,List.length_cons,List.length_set,List.length_take,List.length_drop]; omega) rfl rfl rfl) ?_))⟩
            refine aF (dF (by kernel_rfl) ?_)
            refine hK14 _ (aB (aE aA 1 rfl ?_))
            refine aI rfl (bQ rfl rfl (by omega) (by omega)) ?_
            refine aE aA 1 rfl (aD ?_)
            exact⟨t+1,by omega,by omega,cN ⟨(by first | rfl | exact aT (by omega)),(by first | rfl | exact aT (by omega)),(by first | rfl | exact aT (by omega)),trivial⟩ (congrArg (fun l=>[(E0,AM.buf 4 (List.map stC l))]) ((aPv (p:=p++s2.take t) (x:=x) (y:=s2[t]) (q:=s2.drop (t+1)++q) (by rw[List.drop_eq_getElem_cons (show t<s2.length by omega)]; simp only[List.append_assoc,List.cons_append]) (by(try simp only[List.length_take,List.length_drop,List.length_append]); omega) (by(try simp only[List.length_take,List.length_drop,List.length_append]); omega)).trans (by rw[← List.take_append_getElem (show t<s2.length by omega)]; simp only[List.append_assoc,List.cons_append,List.nil_append])))⟩
      ·
       refine⟨_,rfl,rfl,(ao rfl (aI rfl (cD rfl dO bB rfl (eL (k:=4) (enc:=stC) (z:=p.length+t) (by omega) (atQ (p:=p++s2.take t) (q:=s2.drop t++q) (x:=x) (by simp only[List.append_assoc]) (by(try simp only[List.length_take,List.length_drop,List.length_append]); omega)) rfl) (dU (k:=4) (enc:=stC) (z:=p.length+t) (by omega) (atQ (p:=p++s2.take t) (q:=s2.drop t++q) (x:=x) (by simp only[List.append_assoc]) (by(try simp only[List.length_take,List.length_drop,List.length_append]); omega)) rfl)) ?_))⟩
       refine aF (aH 9 [] (by kernel_rfl) ⟨?_,trivial⟩)
       ·
        refine⟨_,rfl,rfl,(ao rfl (aI rfl (cD rfl dO bB rfl (eL (k:=4) (enc:=stC) (z:=p.length+t+1) (by omega) (atQ (p:=p++(s2.take t++[x])) (q:=s2.drop (t+1)++q) (x:=s2[t]) (by rw[List.drop_eq_getElem_cons (show t<s2.length by omega)]; simp only[List.append_assoc,List.cons_append,List.nil_append]) (by simp only[List.length_append,List.length_take,List.length_cons,List.length_nil]; omega)) rfl) (dU (k:=4) (enc:=stC) (z:=p.length+t+1) (by omega) (atQ (p:=p++(s2.take t++[x])) (q:=s2.drop (t+1)++q) (x:=s2[t]) (by rw[List.drop_eq_getElem_cons (show t<s2.length by omega)]; simp only[List.append_assoc,List.cons_append,List.nil_append]) (by simp only[List.length_append,List.length_take,List.length_cons,List.length_nil]; omega)) rfl)) ?_))⟩
        refine aF (aH 14 [] (by kernel_rfl) ⟨?_,trivial⟩)
        ·
         refine⟨_,rfl,rfl,(ao rfl ?_)⟩
         refine aI rfl (cF rfl rfl cE bB (by omega)) ?_
         refine aF (aH 15 [] (by kernel_rfl) ⟨?_,trivial⟩)
         ·
          refine⟨_,rfl,rfl,(ao rfl (bD hf rfl rfl bB rfl rfl (by simp [stC,AV.cells,AV.one,Value.oneCell']) (by simp [stC,AV.cells,AV.leaf,Value.oneCell']) (eY (k:=4) (enc:=stC) (z:=p.length+t) (v:=s2[t]) (by omega) (by simp only[List.length_append,List.length_cons,List.length_set,List.length_take,List.length_drop]; omega) rfl rfl rfl) ?_))⟩
          refine aF (aH 16 [] (by kernel_rfl) ⟨?_,trivial⟩)
          ·
           refine⟨_,rfl,rfl,(ao rfl ?_)⟩
           refine aI rfl (cF rfl rfl cE bB (by omega)) ?_
           refine aF (aH 17 [] (by kernel_rfl) ⟨?_,trivial⟩)
           ·
            refine⟨_,rfl,rfl,(ao rfl (bD hf rfl rfl bB rfl rfl (by simp [stC,AV.cells,AV.one,Value.oneCell']) (by simp [stC,AV.cells,AV.leaf,Value.oneCell']) (eY (k:=4) (enc:=stC) (z:=p.length+t+1) (v:=x) (by omega) (by simp only[List.length_append,List.length_cons,List.length_set,List.length_take,List.length_drop]; omega) rfl rfl rfl) ?_))⟩
            refine aF (dF (by kernel_rfl) ?_)
            refine hK14 _ (aB (aE aA 1 rfl ?_))
            refine aI rfl (bQ rfl rfl (by omega) (by omega)) ?_
            refine aE aA 1 rfl (aD ?_)
            exact⟨t+1,by omega,by omega,cN ⟨(by first | rfl | exact aT (by omega)),(by first | rfl | exact aT (by omega)),(by first | rfl | exact aT (by omega)),trivial⟩ (congrArg (fun l=>[(E0,AM.buf 4 (List.map stC l))]) ((aPv (p:=p++s2.take t) (x:=x) (y:=s2[t]) (q:=s2.drop (t+1)++q) (by rw[List.drop_eq_getElem_cons (show t<s2.length by omega)]; simp only[List.append_assoc,List.cons_append]) (by(try simp only[List.length_take,List.length_drop,List.length_append]); omega) (by(try simp only[List.length_take,List.length_drop,List.length_append]); omega)).trans (by rw[← List.take_append_getElem (show t<s2.length by omega)]; simp only[List.append_assoc,List.cons_append,List.nil_append])))⟩
     ·
      simp only[bs] at hc4
      refine bI (hK10 _ (aM ?_))
      have hti:t=i:=by omega
      subst hti
      have hij:t=j:=by omega
      subst hij
      exact⟨_,_,_,Le.refl _,rfl,rfl,s2.take t++x::s2.drop t,by rw[hx1]; exact put_perm,aJ4 hc hs2 (by omega) q3 q4,by simp only[List.append_assoc,List.cons_append]⟩
 ·
  simp only[bs] at hc1
  refine aR (hK1 _ (aC (fun K15 hK15=>(aC (fun K16 hK16=>(aB (aE aA 2 rfl ?_)))))))
  refine aI rfl (eU rfl rfl (by omega) (by omega)) ?_
  refine aE aA 1 rfl (aD (hK16 _ (aO rfl (fun hc5=>?_) (fun hc5=>?_))))
  ·
   simp only[bs] at hc5
   obtain ⟨x,hx2⟩:∃ x,s2=[x]:=List.length_eq_one_iff.1 (by omega)
   have hl2:s2.length=1:=by rw[hx2]; rfl
   refine aC (fun K17 hK17=>(aB (aE aA 2 rfl (aD (hK17 _ (aC (fun K18 hK18=>(aB (aE aA 2 rfl (aD (hK18 _ (aC (fun K19 hK19=>(aU (bW (ι:=Nat×Nat) (fun(⟨i,j⟩:Nat×Nat)=>⟨220,[(0,.own E0 4 0 N),(2,.s (.int .i64 ((p.length+s1.length:Nat):Int))),(4,.fn g []),(14,.s (.int .i64 ((p.length+i:Nat):Int))),(15,.s (.int .i64 ((p.length+j:Nat):Int)))],[(E0,.buf 4 (List.map stC (p++(s1++(s2++q)))))]⟩) (fun(⟨i,j⟩:Nat×Nat)=>i≤j∧j≤s1.length∧(∀ z,s1[i - 1]?=some z→0<i→c z x≤0)∧(∀ z,s1[j]?=some z→c x z≤0)) (fun(⟨i,j⟩:Nat×Nat)=>j - i) (0,s1.length) ?_ ?_ ?_)))))))))))))))
   · exact⟨Nat.zero_le _,Nat.le_refl _,fun _ _ h=>absurd h (by omega),fun z hz=>by rw[List.getElem?_eq_none (Nat.le_refl _)] at hz; cases hz⟩
   · exact cN ⟨(by first | rfl | exact aT (by omega)),(by first | rfl | exact aT (by omega)),(by first | rfl | exact aT (by omega)),(by first | rfl | exact aT (by omega)),(by first | rfl | exact aT (by omega)),trivial⟩ rfl
   ·
    rintro ⟨i,j⟩ hC
    obtain ⟨q1,q2,q3,q4⟩:=hC
    refine aC (fun K20 hK20=>(aC (fun K21 hK21=>(aB (aE aA 3 rfl (aD (hK21 _ (aO rfl (fun hc6=>?_) (fun hc6=>?_)))))))))
    ·
     simp only[bs] at hc6
     refine aR (hK20 _ (aU (aC (fun K22 hK22=>(aB ?_)))))
     obtain ⟨h,eh⟩:∃ h,h=(i+j) / 2:=⟨_,rfl⟩
     have hz:=aAf (a:=((p.length+i:Nat):Int)+((p.length+j:Nat):Int)) (b:=((p.length+h:Nat):Int)) (by omega) (by omega) (by omega)
     refine aE aA 2 rfl ?_
     refine aI rfl (bQ rfl rfl (by omega) (by omega)) ?_
     refine aI rfl (oM rfl Tryz.underlying3 Tryz.underlying234 hz.1) (aI rfl (zX rfl hz.2.1 (by decide)) (aI rfl (oM rfl Tryz.underlying234 Tryz.underlying3 hz.2.2) (aE aA 1 rfl (aD (hK22 _ (aC (fun K23 hK23=>(dE hf bK (by kernel_rfl) rfl ?_))))))))
     have hh2:h<s1.length:=by omega
     refine bC aA 3 rfl ?_
     refine bN [(93,_),(94,_)] rfl rfl ⟨⟨rfl,rfl⟩,⟨rfl,rfl⟩,trivial⟩ rfl (cF rfl rfl cE bB (by omega)) ?_
     refine bN [(95,_)] rfl rfl ⟨⟨rfl,rfl⟩,trivial⟩ rfl (cD rfl dO bB rfl (eL (k:=4) (enc:=stC) (z:=p.length+s1.length) (by omega) (atQ (p:=p++s1) (q:=q) (x:=x) (by rw[hx2]; simp) (by simp)) rfl) (dU (k:=4) (enc:=stC) (z:=p.length+s1.length) (by omega) (atQ (p:=p++s1) (q:=q) (x:=x) (by rw[hx2]; simp) (by simp)) rfl)) ?_
     refine bC aA 2 rfl ?_
     refine bN [(97,_),(98,_)] rfl rfl ⟨⟨rfl,rfl⟩,⟨rfl,rfl⟩,trivial⟩ rfl (cF rfl rfl cE bB (by omega)) ?_
     refine bN [(99,_)] rfl rfl ⟨⟨rfl,rfl⟩,trivial⟩ rfl (cD rfl dO bB rfl (eL (k:=4) (enc:=stC) (z:=p.length+h) (by omega) (atL hh2) rfl) (dU (k:=4) (enc:=stC) (z:=p.length+h) (by omega) (atL hh2) rfl)) (bT [(92,_),(96,_),(100,_)] rfl rfl ⟨⟨rfl,rfl⟩,⟨rfl,rfl⟩,⟨rfl,rfl⟩,trivial⟩ rfl (aP rfl rfl hent rfl (hcmp x s1[h])) (bC aA 2 rfl (dC [0,2,4,14,15,16,103] rfl rfl rfl (hK23 _ (aO rfl (fun hc7=>?_) (fun hc7=>?_))))))
     ·
      simp only[bs] at hc7
      refine aB (aE aA 1 rfl ?_)
      refine aI rfl (bQ rfl rfl (by omega) (by omega)) ?_
      refine aE aA 1 rfl ?_
      refine bV ?_
      exact⟨(h+1,j),⟨by omega,by omega,fun z hz _=>by rw[Nat.add_sub_cancel,List.getElem?_eq_getElem hh2] at hz; cases hz; have:=hc.swap x s1[h]; omega,q4⟩,by simp only; omega,cN ⟨(by first | rfl | exact aT (by omega)),(by first | rfl | exact aT (by omega)),(by first | rfl | exact aT (by omega)),(by first | rfl | exact aT (by omega)),(by first | rfl | exact aT (by omega)),trivial⟩ rfl⟩
     ·
      simp only[bs] at hc7
      refine aB (aE aA 2 rfl ?_)
      refine bV ?_
      exact⟨(i,h),⟨by omega,by omega,q3,fun z hz=>by rw[List.getElem?_eq_getElem hh2] at hz; cases hz; omega⟩,by simp only; omega,cN ⟨(by first | rfl | exact aT (by omega)),(by first | rfl | exact aT (by omega)),(by first | rfl | exact aT (by omega)),(by first | rfl | exact aT (by omega)),(by first | rfl | exact aT (by omega)),trivial⟩ rfl⟩
    ·
     simp only[bs] at hc6
     refine bI (hK19 _ (aC (fun K24 hK24=>(aC (fun K25 hK25=>(aB (aE aA 2 rfl (aD (hK25 _ (aU (bW (ι:=Nat) (fun t=>⟨220,[(0,.own E0 4 0 N),(14,.s (.int .i64 ((p.length+i:Nat):Int))),(17,.s (.int .i64 ((p.length+t:Nat):Int)))],[(E0,.buf 4 (List.map stC (p++(s1.take t++(x::(s1.drop t++q))))))]⟩) (fun t=>i≤t∧t≤s1.length) (fun t=>t) s1.length ?_ ?_ ?_)))))))))))
     · exact⟨by omega,Nat.le_refl _⟩
     · exact cN ⟨(by first | rfl | exact aT (by omega)),(by first | rfl | exact aT (by omega)),(by first | rfl | exact aT (by omega)),trivial⟩ (by rw[hx2,List.take_length,List.drop_length]; rfl)
     ·
      rintro t hC
      obtain ⟨hq,hq2⟩:=hC
      refine aC (fun K26 hK26=>(aC (fun K27 hK27=>(aB (aE aA 3 rfl (aD (hK27 _ (aO rfl (fun hc8=>?_) (fun hc8=>?_)))))))))
      ·
       simp only[bs] at hc8
       refine aR (hK26 _ (aC (fun K28 hK28=>(aU (dK bK ?_)))))
       have hsp:p++(s1.take t++(x::(s1.drop t++q)))=(p++s1.take (t - 1))++s1[t - 1]::x::(s1.drop t++q):=by
        rw[show s1.take t=s1.take (t - 1)++[s1[t - 1]] from by rw[List.take_append_getElem (show t - 1<s1.length by omega),show t - 1+1=t by omega]]
        simp only[List.append_assoc,List.cons_append,List.nil_append]
       refine bY (listed':=#[true,false,false,false,false,false,false,false,false,false,false,false,false,false,false,false,false,false]) 0 rfl (by kernel_rfl) (by kernel_rfl) (by kernel_rfl) rfl (fun _ _ h=>h) (dL rfl) ?_
       refine bY (listed':=#[true,true,false,false,false,false,false,false,false,false,false,false,false,false,false,false,false,false]) 1 rfl (by kernel_rfl) (by kernel_rfl) (by kernel_rfl) rfl (fun _ _ h=>h) (dL rfl) ?_
       refine bY (listed':=#[true,true,true,false,false,false,false,false,false,false,false,false,false,false,false,false,false,false]) 2 rfl (by kernel_rfl) (by kernel_rfl) (by kernel_rfl) rfl (fun _ _ h=>h) (dL rfl) ?_
       refine bY (listed':=#[true,true,true,true,false,false,false,false,false,false,false,false,false,false,false,false,false,false]) 3 rfl (by kernel_rfl) (by kernel_rfl) (by kernel_rfl) rfl (fun _ _ h=>h) (dL rfl) ?_
       refine bY (listed':=#[true,true,true,true,true,false,false,false,false,false,false,false,false,false,false,false,false,false]) 4 rfl (by kernel_rfl) (by kernel_rfl) (by kernel_rfl) rfl (fun _ _ h=>h) (aPs rfl rfl (by omega) (by omega)) ?_
       refine bY (listed':=#[true,true,true,true,true,true,false,false,false,false,false,false,false,false,false,false,false,false]) 5 rfl (by kernel_rfl) (by kernel_rfl) (by kernel_rfl) rfl (fun _ _ h=>h) (dL rfl) ?_
       refine bY (listed':=#[true,true,true,true,true,true,true,false,false,false,false,false,false,false,false,false,false,false]) 6 rfl (by kernel_rfl) (by kernel_rfl) (by kernel_rfl) rfl (fun _ _ h=>h) (dL rfl) ?_
       refine bY (listed':=#[true,true,true,true,true,true,true,true,false,false,false,false,false,false,false,false,false,false]) 7 rfl (by kernel_rfl) (by kernel_rfl) (by kernel_rfl) rfl (fun _ _ h=>h) (aPs rfl rfl (by omega) (by omega)) ?_
       refine bY (listed':=#[true,true,true,true,true,true,true,true,true,false,false,false,false,false,false,false,false,false]) 8 rfl (by kernel_rfl) (by kernel_rfl) (by kernel_rfl) rfl (fun _ _ h=>h) (lP rfl rfl cE bB (by omega)) ?_
       refine bY (listed':=#[true,true,true,true,true,true,true,true,true,false,true,false,false,false,false,false,false,false]) 10 rfl (by kernel_rfl) (by kernel_rfl) (by kernel_rfl) rfl (fun _ _ h=>h) (dL rfl) ?_
       refine bY (listed':=#[true,true,true,true,true,true,true,true,true,false,true,true,false,false,false,false,false,false]) 11 rfl (by kernel_rfl) (by kernel_rfl) (by kernel_rfl) rfl (fun _ _ h=>h) (dL rfl) ?_
       refine bY (listed':=#[true,true,true,true,true,true,true,true,true,false,true,true,true,false,false,false,false,false]) 12 rfl (by kernel_rfl) (by kernel_rfl) (by kernel_rfl) rfl (fun _ _ h=>h) (lP rfl rfl cE bB (by omega)) ?_
       refine gZ (iK [0,14,17,113,114,115,117,121,125] rfl) (aH 9 [13] (by kernel_rfl) ⟨?_,?_,trivial⟩)
       ·
        refine⟨_,rfl,rfl,(ao rfl (aI rfl (cD rfl dO bB rfl (eL (k:=4) (enc:=stC) (z:=p.length+(t - 1)) (by omega) (atQ (p:=p++s1.take (t - 1)) (q:=x::(s1.drop t++q)) (x:=s1[t - 1]) hsp (by(try simp only[List.length_take,List.length_drop,List.length_append]); omega)) rfl) (dU (k:=4) (enc:=stC) (z:=p.length+(t - 1)) (by omega) (atQ (p:=p++s1.take (t - 1)) (q:=x::(s1.drop t++q)) (x:=s1[t - 1]) hsp (by(try simp only[List.length_take,List.length_drop,List.length_append]); omega)) rfl)) ?_))⟩
        refine aF (aH 13 [] (by kernel_rfl) ⟨?_,trivial⟩)
        ·
         refine⟨_,rfl,rfl,(ao rfl (aI rfl (cD rfl dO bB rfl (eL (k:=4) (enc:=stC) (z:=p.length+t) (by omega) (atQ (p:=p++s1.take t) (q:=s1.drop t++q) (x:=x) (by simp only[List.append_assoc]) (by(try simp only[List.length_take,List.length_drop,List.length_append]); omega)) rfl) (dU (k:=4) (enc:=stC) (z:=p.length+t) (by omega) (atQ (p:=p++s1.take t) (q:=s1.drop t++q) (x:=x) (by simp only[List.append_assoc]) (by(try simp only[List.length_take,List.length_drop,List.length_append]); omega)) rfl)) ?_))⟩
         refine aF (aH 14 [] (by kernel_rfl) ⟨?_,trivial⟩)
         ·
          refine⟨_,rfl,rfl,(ao rfl ?_)⟩
          refine aI rfl (cF rfl rfl cE bB (by omega)) ?_
          refine aF (aH 15 [] (by kernel_rfl) ⟨?_,trivial⟩)
          ·
           refine⟨_,rfl,rfl,(ao rfl (bD hf rfl rfl bB rfl rfl (by simp [stC,AV.cells,AV.one,Value.oneCell']) (by simp [stC,AV.cells,AV.leaf,Value.oneCell']) (eY (k:=4) (enc:=stC) (z:=p.length+t) (v:=s1[t - 1]) (by omega) (by simp only[List.length_append,List.length_cons,List.length_set,List.length_take,List.length_drop]; omega) rfl rfl rfl) ?_))⟩
           refine aF (aH 16 [] (by kernel_rfl) ⟨?_,trivial⟩)
           ·
            refine⟨_,rfl,rfl,(ao rfl ?_)⟩
            refine aI rfl (cF rfl rfl cE bB (by omega)) ?_
            refine aF (aH 17 [] (by kernel_rfl) ⟨?_,trivial⟩)
            ·
             refine⟨_,rfl,rfl,(ao rfl (bD hf rfl rfl bB rfl rfl (by simp [stC,AV.cells,AV.one,Value.oneCell']) (by simp [stC,AV.cells,AV.leaf,Value.oneCell']) (eY (k:=4) (enc:=stC) (z:=p.length+(t - 1)) (v:=x) (by omega) (by simp only[List.length_append,List.length_cons,List.length_set,List.length_take,List.length_drop]; omega) rfl rfl rfl) ?_))⟩
             refine aF (dF (by kernel_rfl) ?_)
             refine hK28 _ (aB (aE aA 1 rfl ?_))
             refine aI rfl (eU rfl rfl (by omega) (by omega)) ?_
             refine aE aA 1 rfl (aD ?_)
             exact⟨t - 1,⟨by omega,by omega⟩,by omega,cN ⟨(by first | rfl | exact aT (by omega)),(by first | rfl | exact aT (by omega)),(by first | rfl | exact aT (by omega)),trivial⟩ (congrArg (fun l=>[(E0,AM.buf 4 (List.map stC l))]) ((vU (p:=p++s1.take (t - 1)) (x:=s1[t - 1]) (y:=x) (q:=s1.drop t++q) hsp (by(try simp only[List.length_take,List.length_drop,List.length_append]); omega) (by(try simp only[List.length_take,List.length_drop,List.length_append]); omega)).trans (by rw[List.drop_eq_getElem_cons (show t - 1<s1.length by omega),show t - 1+1=t by omega]; simp only[List.append_assoc,List.cons_append])))⟩
       ·
        refine⟨_,rfl,rfl,(ao rfl (aI rfl (cD rfl dO bB rfl (eL (k:=4) (enc:=stC) (z:=p.length+t) (by omega) (atQ (p:=p++s1.take t) (q:=s1.drop t++q) (x:=x) (by simp only[List.append_assoc]) (by(try simp only[List.length_take,List.length_drop,List.length_append]); omega)) rfl) (dU (k:=4) (enc:=stC) (z:=p.length+t) (by omega) (atQ (p:=p++s1.take t) (q:=s1.drop t++q) (x:=x) (by simp only[List.append_assoc]) (by(try simp only[List.length_take,List.length_drop,List.length_append]); omega)) rfl)) ?_))⟩
        refine aF (aH 9 [] (by kernel_rfl) ⟨?_,trivial⟩)
        ·
         refine⟨_,rfl,rfl,(ao rfl (aI rfl (cD rfl dO bB rfl (eL (k:=4) (enc:=stC) (z:=p.length+(t - 1)) (by omega) (atQ (p:=p++s1.take (t - 1)) (q:=x::(s1.drop t++q)) (x:=s1[t - 1]) hsp (by(try simp only[List.length_take,List.length_drop,List.length_append]); omega)) rfl) (dU (k:=4) (enc:=stC) (z:=p.length+(t - 1)) (by omega) (atQ (p:=p++s1.take (t - 1)) (q:=x::(s1.drop t++q)) (x:=s1[t - 1]) hsp (by(try simp only[List.length_take,List.length_drop,List.length_append]); omega)) rfl)) ?_))⟩
         refine aF (aH 14 [] (by kernel_rfl) ⟨?_,trivial⟩)
         ·
          refine⟨_,rfl,rfl,(ao rfl ?_)⟩
          refine aI rfl (cF rfl rfl cE bB (by omega)) ?_
          refine aF (aH 15 [] (by kernel_rfl) ⟨?_,trivial⟩)
          ·
           refine⟨_,rfl,rfl,(ao rfl (bD hf rfl rfl bB rfl rfl (by simp [stC,AV.cells,AV.one,Value.oneCell']) (by simp [stC,AV.cells,AV.leaf,Value.oneCell']) (eY (k:=4) (enc:=stC) (z:=p.length+t) (v:=s1[t - 1]) (by omega) (by simp only[List.length_append,List.length_cons,List.length_set,List.length_take,List.length_drop]; omega) rfl rfl rfl) ?_))⟩
           refine aF (aH 16 [] (by kernel_rfl) ⟨?_,trivial⟩)
           ·
            refine⟨_,rfl,rfl,(ao rfl ?_)⟩
            refine aI rfl (cF rfl rfl cE bB (by omega)) ?_
            refine aF (aH 17 [] (by kernel_rfl) ⟨?_,trivial⟩)
            ·
             refine⟨_,rfl,rfl,(ao rfl (bD hf rfl rfl bB rfl rfl (by simp [stC,AV.cells,AV.one,Value.oneCell']) (by simp [stC,AV.cells,AV.leaf,Value.oneCell']) (eY (k:=4) (enc:=stC) (z:=p.length+(t - 1)) (v:=x) (by omega) (by simp only[List.length_append,List.length_cons,List.length_set,List.length_take,List.length_drop]; omega) rfl rfl rfl) ?_))⟩
             refine aF (dF (by kernel_rfl) ?_)
             refine hK28 _ (aB (aE aA 1 rfl ?_))
             refine aI rfl (eU rfl rfl (by omega) (by omega)) ?_
             refine aE aA 1 rfl (aD ?_)
             exact⟨t - 1,⟨by omega,by omega⟩,by omega,cN ⟨(by first | rfl | exact aT (by omega)),(by first | rfl | exact aT (by omega)),(by first | rfl | exact aT (by omega)),trivial⟩ (congrArg (fun l=>[(E0,AM.buf 4 (List.map stC l))]) ((vU (p:=p++s1.take (t - 1)) (x:=s1[t - 1]) (y:=x) (q:=s1.drop t++q) hsp (by(try simp only[List.length_take,List.length_drop,List.length_append]); omega) (by(try simp only[List.length_take,List.length_drop,List.length_append]); omega)).trans (by rw[List.drop_eq_getElem_cons (show t - 1<s1.length by omega),show t - 1+1=t by omega]; simp only[List.append_assoc,List.cons_append])))⟩
      ·
       simp only[bs] at hc8
       refine bI (hK24 _ (aM ?_))
       have hti:t=i:=by omega
       subst hti
       have hij:t=j:=by omega
       subst hij
       exact⟨_,_,_,Le.refl _,rfl,rfl,s1.take t++x::s1.drop t,by rw[hx2]; exact put_perm.trans (List.perm_append_comm (l₁:=[x])),aJ4 hc hs1 (by omega) q3 q4,by simp only[List.append_assoc,List.cons_append]⟩
  ·
   simp only[bs] at hc5
   refine aR (hK15 _ (aC (fun K29 hK29=>(aB ?_))))
   obtain ⟨M,eM⟩:∃ M,M=(s1.length+s2.length) / 2:=⟨_,rfl⟩
   have hz:=aAf (a:=((p.length:Nat):Int)+((p.length+s1.length+s2.length:Nat):Int)) (b:=((p.length+M:Nat):Int)) (by omega) (by omega) (by omega)
   refine aE aA 2 rfl ?_
   refine aI rfl (bQ rfl rfl (by omega) (by omega)) ?_
   refine aI rfl (oM rfl Tryz.underlying3 Tryz.underlying234 hz.1) (aI rfl (zX rfl hz.2.1 (by decide)) (aI rfl (oM rfl Tryz.underlying234 Tryz.underlying3 hz.2.2) (aE aA 1 rfl (aD (hK29 _ (aC (fun K30 hK30=>(aB (aE aA 2 rfl ?_)))))))))
   refine aI rfl (bQ rfl rfl (by omega) (by omega)) ?_
   refine aE aA 1 rfl (aD (hK30 _ (aC (fun K31 hK31=>(aB (aE aA 2 rfl (aD (hK31 _ (aIr (ι:=Nat×Nat) (fun w=>⟨220,[(0,.own E0 4 0 N),(1,.s (.int .i64 (p.length:Nat))),(2,.s (.int .i64 ((p.length+s1.length:Nat):Int))),(3,.s (.int .i64 ((p.length+s1.length+s2.length:Nat):Int))),(4,.fn g []),(18,.s (.int .i64 ((p.length+M:Nat):Int))),(19,.s (.int .i64 ((p.length+M:Nat)+(p.length+s1.length:Nat)))),(20,.s (.int .i64 ((p.length+w.1:Nat):Int))),(21,.s (.int .i64 ((p.length+w.2:Nat):Int)))],[(E0,.buf 4 (List.map stC (p++(s1++(s2++q)))))]⟩) (fun w=>(w.1=0∨M - w.1=s2.length)∧(w.2=s1.length∨w.2=M)∧w.1≤w.2∧w.2≤s1.length∧w.2≤M∧M - w.1≤s2.length) ?_ ?_)))))))))
   ·
    refine aC (fun K33 hK33=>(aB (aE aA 3 rfl (aD (hK33 _ (aO rfl (fun hc9=>?_) (fun hc9=>?_)))))))
    ·
     simp only[bs] at hc9
     refine aC (fun K34 hK34=>(aB (aE aA 2 rfl ?_)))
     refine aI rfl (eU rfl rfl (by omega) (by omega)) ?_
     refine aE aA 1 rfl (aD (hK34 _ (aB (aE aA 2 rfl ?_))))
     refine aD ?_
     exact⟨(M - s2.length,M),⟨.inr (by simp only; omega),.inr rfl,by simp only; omega,by simp only; omega,Nat.le_refl _,by simp only; omega⟩,cN ⟨(by first | rfl | exact aT (by omega)),(by first | rfl | exact aT (by omega)),(by first | rfl | exact aT (by omega)),(by first | rfl | exact aT (by omega)),(by first | rfl | exact aT (by omega)),(by first | rfl | exact aT (by omega)),(by first | rfl | exact aT (by omega)),(by first | rfl | exact aT (by omega)),(by first | rfl | exact aT (by omega)),trivial⟩ rfl⟩
    ·
     simp only[bs] at hc9
     refine aC (fun K35 hK35=>(aB (aE aA 2 rfl (aD (hK35 _ (aB (aE aA 2 rfl ?_)))))))
     refine aD ?_
     exact⟨(0,s1.length),⟨.inl rfl,.inl rfl,Nat.zero_le _,Nat.le_refl _,by simp only; omega,by simp only; omega⟩,cN ⟨(by first | rfl | exact aT (by omega)),(by first | rfl | exact aT (by omega)),(by first | rfl | exact aT (by omega)),(by first | rfl | exact aT (by omega)),(by first | rfl | exact aT (by omega)),(by first | rfl | exact aT (by omega)),(by first | rfl | exact aT (by omega)),(by first | rfl | exact aT (by omega)),(by first | rfl | exact aT (by omega)),trivial⟩ rfl⟩
   ·
    intro w hj
    obtain ⟨S0,R0⟩:=w
    obtain ⟨j1,j2,j3,j4,j5,j6⟩:=hj
    simp only at j1 j2 j3 j4 j5 j6
    refine aC (fun K36 hK36=>(aB (aE aA 1 rfl ?_)))
    refine aI rfl (eU rfl rfl (by omega) (by omega)) ?_
    refine aE aA 1 rfl (aD (hK36 _ (aC (fun K37 hK37=>(aU (bW (ι:=Nat×Nat) (fun(⟨S,R⟩:Nat×Nat)=>⟨220,[(0,.own E0 4 0 N),(1,.s (.int .i64 (p.length:Nat))),(2,.s (.int .i64 ((p.length+s1.length:Nat):Int))),(3,.s (.int .i64 ((p.length+s1.length+s2.length:Nat):Int))),(4,.fn g []),(18,.s (.int .i64 ((p.length+M:Nat):Int))),(19,.s (.int .i64 ((p.length+M:Nat)+(p.length+s1.length:Nat)))),(20,.s (.int .i64 ((p.length+S:Nat):Int))),(21,.s (.int .i64 ((p.length+R:Nat):Int))),(22,.s (.int .i64 ((p.length+M:Nat)+(p.length+s1.length:Nat) - 1)))],[(E0,.buf 4 (List.map stC (p++(s1++(s2++q)))))]⟩) (fun(⟨S,R⟩:Nat×Nat)=>S0≤S∧S≤R∧R≤R0∧(S=S0∨∀ z w,s1[S - 1]?=some z→s2[M - S]?=some w→c z w≤0)∧(R=R0∨∀ z w,s2[M - 1 - R]?=some z→s1[R]?=some w→c z w≤0)) (fun(⟨S,R⟩:Nat×Nat)=>R - S) (S0,R0) ?_ ?_ ?_))))))
    · exact⟨Nat.le_refl _,j3,Nat.le_refl _,.inl rfl,.inl rfl⟩
    · exact cN ⟨(by first | rfl | exact aT (by omega)),(by first | rfl | exact aT (by omega)),(by first | rfl | exact aT (by omega)),(by first | rfl | exact aT (by omega)),(by first | rfl | exact aT (by omega)),(by first | rfl | exact aT (by omega)),(by first | rfl | exact aT (by omega)),(by first | rfl | exact aT (by omega)),(by first | rfl | exact aT (by omega)),(by first | rfl | exact aT (by omega)),trivial⟩ rfl
    ·
     rintro ⟨S,R⟩ hC
     obtain ⟨q1,q2,q3,q4,q5⟩:=hC
     refine aC (fun K38 hK38=>(aC (fun K39 hK39=>(aB (aE aA 3 rfl (aD (hK39 _ (aO rfl (fun hc10=>?_) (fun hc10=>?_)))))))))
     ·
      simp only[bs] at hc10
      refine aR (hK38 _ (aU (aC (fun K40 hK40=>(aB ?_)))))
      obtain ⟨h,eh⟩:∃ h,h=(S+R) / 2:=⟨_,rfl⟩
      have hz:=aAf (a:=((p.length+S:Nat):Int)+((p.length+R:Nat):Int)) (b:=((p.length+h:Nat):Int)) (by omega) (by omega) (by omega)
      refine aE aA 2 rfl ?_
      refine aI rfl (bQ rfl rfl (by omega) (by omega)) ?_
      refine aI rfl (oM rfl Tryz.underlying3 Tryz.underlying234 hz.1) (aI rfl (zX rfl hz.2.1 (by decide)) (aI rfl (oM rfl Tryz.underlying234 Tryz.underlying3 hz.2.2) (aE aA 1 rfl (aD (hK40 _ (aC (fun K41 hK41=>(dE hf bK (by kernel_rfl) rfl ?_))))))))
      have hh1:h<s1.length:=by omega
      have hh2:M - 1 - h<s2.length:=by omega
      refine bC aA 4 rfl ?_
      refine bN [(160,_),(161,_)] rfl rfl ⟨⟨rfl,rfl⟩,⟨rfl,rfl⟩,trivial⟩ rfl (eU rfl rfl (by omega) (by omega)) ?_
      refine bN [(159,_),(162,_)] rfl rfl ⟨⟨rfl,rfl⟩,⟨rfl,rfl⟩,trivial⟩ rfl (cF rfl rfl cE bB (by omega)) ?_
      refine bN [(163,_)] rfl rfl ⟨⟨rfl,rfl⟩,trivial⟩ rfl (cD rfl dO bB rfl (eL (k:=4) (enc:=stC) (z:=p.length+s1.length+(M - 1 - h)) (by omega) (atM hh2) rfl) (dU (k:=4) (enc:=stC) (z:=p.length+s1.length+(M - 1 - h)) (by omega) (atM hh2) rfl)) (bC aA 2 rfl ?_)
      refine bN [(165,_),(166,_)] rfl rfl ⟨⟨rfl,rfl⟩,⟨rfl,rfl⟩,trivial⟩ rfl (cF rfl rfl cE bB (by omega)) ?_
      refine bN [(167,_)] rfl rfl ⟨⟨rfl,rfl⟩,trivial⟩ rfl (cD rfl dO bB rfl (eL (k:=4) (enc:=stC) (z:=p.length+h) (by omega) (atL hh1) rfl) (dU (k:=4) (enc:=stC) (z:=p.length+h) (by omega) (atL hh1) rfl)) (bT [(158,_),(164,_),(168,_)] rfl rfl ⟨⟨rfl,rfl⟩,⟨rfl,rfl⟩,⟨rfl,rfl⟩,trivial⟩ rfl (aP rfl rfl hent rfl (hcmp s2[M - 1 - h] s1[h])) (bC aA 2 rfl (dC [0,1,2,3,4,18,19,20,21,22,23,171] rfl rfl rfl (hK41 _ (aO rfl (fun hc11=>?_) (fun hc11=>?_))))))
      ·
       simp only[bs] at hc11
       refine aB (aE aA 1 rfl ?_)
       refine aI rfl (bQ rfl rfl (by omega) (by omega)) ?_
       refine aE aA 1 rfl ?_
       refine bV ?_
       exact⟨(h+1,R),⟨by omega,by omega,q3,.inr (fun z w hz hw=>by rw[Nat.add_sub_cancel,List.getElem?_eq_getElem hh1] at hz; rw[show M - (h+1)=M - 1 - h by omega,List.getElem?_eq_getElem hh2] at hw; cases hz; cases hw; have:=hc.swap s1[h] s2[M - 1 - h]; omega),q5⟩,by simp only; omega,cN ⟨(by first | rfl | exact aT (by omega)),(by first | rfl | exact aT (by omega)),(by first | rfl | exact aT (by omega)),(by first | rfl | exact aT (by omega)),(by first | rfl | exact aT (by omega)),(by first | rfl | exact aT (by omega)),(by first | rfl | exact aT (by omega)),(by first | rfl | exact aT (by omega)),(by first | rfl | exact aT (by omega)),(by first | rfl | exact aT (by omega)),trivial⟩ rfl⟩
      ·
       simp only[bs] at hc11
       refine aB (aE aA 2 rfl ?_)
       refine bV ?_
       exact⟨(S,h),⟨q1,by omega,by omega,q4,.inr (fun z w hz hw=>by rw[List.getElem?_eq_getElem hh2] at hz; rw[List.getElem?_eq_getElem hh1] at hw; cases hz; cases hw; omega)⟩,by simp only; omega,cN ⟨(by first | rfl | exact aT (by omega)),(by first | rfl | exact aT (by omega)),(by first | rfl | exact aT (by omega)),(by first | rfl | exact aT (by omega)),(by first | rfl | exact aT (by omega)),(by first | rfl | exact aT (by omega)),(by first | rfl | exact aT (by omega)),(by first | rfl | exact aT (by omega)),(by first | rfl | exact aT (by omega)),(by first | rfl | exact aT (by omega)),trivial⟩ rfl⟩
     ·
      simp only[bs] at hc10
      refine bI (hK37 _ (aC (fun K42 hK42=>(aB ?_))))
      obtain ⟨K,hK⟩:∃ K,K=M - S:=⟨_,rfl⟩
      have hA:∀ (h0:0<S) (h3:K<s2.length),c (s1[S - 1]'(by omega)) s2[K]≤0:=fun h0 h3=>by
       rcases q4 with e | e
       · exfalso; omega
       · exact e _ _ (List.getElem?_eq_getElem (by omega)) (by rw[← hK]; exact List.getElem?_eq_getElem h3)
      have hB:∀ (h0:0<K) (h3:S<s1.length),c (s2[K - 1]'(by omega)) s1[S]≤0:=fun h0 h3=>by
       have hSR:S=R:=by omega
       rw[← hSR] at q5
       rcases q5 with e | e
       · exfalso; omega
       · exact e _ _ (by rw[show M - 1 - S=K - 1 by omega]; exact List.getElem?_eq_getElem (by omega)) (List.getElem?_eq_getElem h3)
      have hsep:=sym_sep hc hs1 hs2 (show S≤s1.length by omega) (show K≤s2.length by omega) hA hB
      refine aE aA 2 rfl ?_
      refine aI rfl (eU rfl rfl (by omega) (by omega)) ?_
      rw[show (((p.length+M:Nat):Int)+((p.length+s1.length:Nat):Int)) - ((p.length+S:Nat):Int)=((p.length+s1.length+K:Nat):Int) from by omega]
      refine aE aA 1 rfl (aD (hK42 _ (aIr (ι:=Unit) (fun w=>⟨220,[(0,.own E0 4 0 N),(1,.s (.int .i64 (p.length:Nat))),(3,.s (.int .i64 ((p.length+s1.length+s2.length:Nat):Int))),(4,.fn g []),(18,.s (.int .i64 ((p.length+M:Nat):Int))),(20,.s (.int .i64 ((p.length+S:Nat):Int))),(24,.s (.int .i64 ((p.length+s1.length+K:Nat):Int)))],[(E0,.buf 4 (List.map stC (p++((s1.take S++s2.take K)++((s1.drop S++s2.drop K)++q)))))]⟩) (fun w=>True) ?_ ?_)))
      ·
       refine aC (fun K44 hK44=>(aB (aE aA 4 rfl (bA rfl rfl rfl (fun hg12=>?_) (fun hg12=>?_)))))
       ·
        simp only[bs] at hg12
        refine aI rfl (fV rfl) (aE aA 3 rfl (aD (hK44 _ (aO rfl (fun hc13=>?_) (fun hc13=>?_)))))
        ·
         simp only[bs] at hc13
         refine aB ?_
         rw[aSq (p:=p) (s1:=s1) (s2:=s2) (q:=q) S K]
         refine aE aA 5 rfl (gE hf E0 rfl rfl rfl rfl rfl aLx (aNz g (p++s1.take S) (s1.drop S) (s2.take K) (s2.drop K++q) N _ _ _ (by(try simp only[List.length_take,List.length_drop,List.length_append]); omega) (by(try simp only[List.length_take,List.length_drop,List.length_append]); omega) (by(try simp only[List.length_take,List.length_drop,List.length_append]); omega) (by(try simp only[List.length_take,List.length_drop,List.length_append]); omega) (by(try simp only[List.length_take,List.length_drop,List.length_append]); omega) (by(try simp only[List.length_take,List.length_drop,List.length_append]); omega) hM) ?_)
         rintro r zs rfl
         refine aD ?_
         exact⟨(),trivial,cN ⟨(by first | rfl | exact aT (by omega)),(by first | rfl | exact aT (by omega)),(by first | rfl | exact aT (by omega)),(by first | rfl | exact aT (by omega)),(by first | rfl | exact aT (by omega)),(by first | rfl | exact aT (by omega)),(by first | rfl | exact aT (by omega)),trivial⟩ (congrArg (fun l=>[(E0,AM.buf 4 (List.map stC l))]) (by simp only[List.append_assoc]))⟩
        ·
         simp only[bs] at hc13
         refine aR ?_
         exact⟨(),trivial,cN ⟨(by first | rfl | exact aT (by omega)),(by first | rfl | exact aT (by omega)),(by first | rfl | exact aT (by omega)),(by first | rfl | exact aT (by omega)),(by first | rfl | exact aT (by omega)),(by first | rfl | exact aT (by omega)),(by first | rfl | exact aT (by omega)),trivial⟩ (by rw[aJi (p:=p) (s1:=s1) (s2:=s2) (q:=q) (S:=S) (K:=K) (by omega)])⟩
       ·
        simp only[bs] at hg12
        refine aE aA 3 rfl (aD (hK44 _ (bZ rfl (aR ?_))))
        exact⟨(),trivial,cN ⟨(by first | rfl | exact aT (by omega)),(by first | rfl | exact aT (by omega)),(by first | rfl | exact aT (by omega)),(by first | rfl | exact aT (by omega)),(by first | rfl | exact aT (by omega)),(by first | rfl | exact aT (by omega)),(by first | rfl | exact aT (by omega)),trivial⟩ (by rw[aJi (p:=p) (s1:=s1) (s2:=s2) (q:=q) (S:=S) (K:=K) (by omega)])⟩
      ·
       intro w hj
       refine aIr (ι:=List bO) (fun l=>⟨220,[(0,.own E0 4 0 N),(3,.s (.int .i64 ((p.length+s1.length+s2.length:Nat):Int))),(4,.fn g []),(18,.s (.int .i64 ((p.length+M:Nat):Int))),(24,.s (.int .i64 ((p.length+s1.length+K:Nat):Int)))],[(E0,.buf 4 (List.map stC (p++(l++((s1.drop S++s2.drop K)++q)))))]⟩) (fun l=>l.Perm (s1.take S++s2.take K)∧Srt c l) ?_ ?_
       ·
        refine aC (fun K46 hK46=>(aB (aE aA 4 rfl (bA rfl rfl rfl (fun hg15=>?_) (fun hg15=>?_)))))
        ·
         simp only[bs] at hg15
         refine aI rfl (fV rfl) (aE aA 3 rfl (aD (hK46 _ (aO rfl (fun hc16=>?_) (fun hc16=>?_)))))
         ·
          simp only[bs] at hc16
          refine aB ?_
          rw[List.append_assoc (s1.take S)]
          refine aE aA 5 rfl (gE hf E0 rfl rfl rfl rfl rfl rL (ih p (s1.take S) (s2.take K) ((s1.drop S++s2.drop K)++q) N _ _ _ (by(try simp only[List.length_take,List.length_drop,List.length_append]); omega) (by(try simp only[List.length_take,List.length_drop,List.length_append]); omega) rfl (by(try simp only[List.length_take,List.length_drop,List.length_append]); omega) (by(try simp only[List.length_take,List.length_drop,List.length_append]); omega) (by(try simp only[List.length_take,List.length_drop,List.length_append]); omega) (by(try simp only[List.length_take,List.length_drop,List.length_append]); omega) (hs1.take S) (hs2.take K) hM) ?_)
          rintro r zs ⟨lq,hl1,hl2,rfl⟩
          refine aD ?_
          exact⟨lq,⟨hl1,hl2⟩,cN ⟨(by first | rfl | exact aT (by omega)),(by first | rfl | exact aT (by omega)),(by first | rfl | exact aT (by omega)),(by first | rfl | exact aT (by omega)),(by first | rfl | exact aT (by omega)),trivial⟩ rfl⟩
         ·
          simp only[bs] at hc16
          refine aR ?_
          exact⟨s1.take S++s2.take K,⟨.refl _,aJk hs1 hs2 (by omega)⟩,cN ⟨(by first | rfl | exact aT (by omega)),(by first | rfl | exact aT (by omega)),(by first | rfl | exact aT (by omega)),(by first | rfl | exact aT (by omega)),(by first | rfl | exact aT (by omega)),trivial⟩ rfl⟩
        ·
         simp only[bs] at hg15
         refine aE aA 3 rfl (aD (hK46 _ (bZ rfl (aR ?_))))
         exact⟨s1.take S++s2.take K,⟨.refl _,aJk hs1 hs2 (by omega)⟩,cN ⟨(by first | rfl | exact aT (by omega)),(by first | rfl | exact aT (by omega)),(by first | rfl | exact aT (by omega)),(by first | rfl | exact aT (by omega)),(by first | rfl | exact aT (by omega)),trivial⟩ rfl⟩
       ·
        intro l hj
        obtain ⟨hl1,hl2⟩:=hj
        have hll:=hl1.length_eq
        rw[List.length_append,List.length_take,List.length_take] at hll
        refine aC (fun K47 hK47=>(aB (aE aA 4 rfl (bA rfl rfl rfl (fun hg18=>?_) (fun hg18=>?_)))))
        ·
         simp only[bs] at hg18
         refine aI rfl (fV rfl) (aE aA 3 rfl (aD (hK47 _ (aO rfl (fun hc19=>?_) (fun hc19=>?_)))))
         ·
          simp only[bs] at hc19
          refine aB ?_
          rw[show p++(l++((s1.drop S++s2.drop K)++q))=(p++l)++(s1.drop S++(s2.drop K++q)) from by simp only[List.append_assoc]]
          refine aE aA 5 rfl (gE hf E0 rfl rfl rfl rfl rfl rL (ih (p++l) (s1.drop S) (s2.drop K) q N _ _ _ (by(try simp only[List.length_take,List.length_drop,List.length_append]); omega) (by(try simp only[List.length_take,List.length_drop,List.length_append]); omega) (by(try simp only[List.length_take,List.length_drop,List.length_append]); omega) (by(try simp only[List.length_take,List.length_drop,List.length_append]); omega) (by(try simp only[List.length_take,List.length_drop,List.length_append]); omega) (by(try simp only[List.length_take,List.length_drop,List.length_append]); omega) (by(try simp only[List.length_take,List.length_drop,List.length_append]); omega) (hs1.drop S) (hs2.drop K) hM) ?_)
          rintro r zs ⟨rq,hr1,hr2,rfl⟩
          refine bV ?_
          exact⟨_,_,_,Le.refl _,rfl,rfl,l++rq,uV hl1 hr1,Srt.append hl2 hr2 (aDe hl1 hr1 hsep),by simp only[List.append_assoc]⟩
         ·
          simp only[bs] at hc19
          refine aR ?_
          exact⟨_,_,_,Le.refl _,rfl,rfl,l++(s1.drop S++s2.drop K),uV hl1 (.refl _),Srt.append hl2 (aGk hs1 hs2 (by omega)) (aDe hl1 (.refl _) hsep),by simp only[List.append_assoc]⟩
        ·
         simp only[bs] at hg18
         refine aE aA 3 rfl (aD (hK47 _ (bZ rfl (aR ?_))))
         exact⟨_,_,_,Le.refl _,rfl,rfl,l++(s1.drop S++s2.drop K),uV hl1 (.refl _),Srt.append hl2 (aGk hs1 hs2 (by omega)) (aDe hl1 (.refl _) hsep),by simp only[List.append_assoc]⟩
theorem wY {g:Nat} (hent:∀ args w,(callFunc g args).run Tryz.prog w=.ok (.enter g args) w) {c:bO→bO→Int} (hc:Tri c) (hcmp:∀ x y:bO,Den Tryz.prog g [.agg (stC x),.agg (stC y)] (·=.s (.int .i64 (c x y)))):∀ (NN:Nat) (p s1 s2 q:List bO) (N:Nat) (za zm zb:Int),s1.length+s2.length≤NN→N=p.length+s1.length+s2.length+q.length→za=(p.length:Nat)→zm=((p.length+s1.length:Nat):Int)→zb=((p.length+s1.length+s2.length:Nat):Int)→0<s1.length→0<s2.length→Srt c s1→Srt c s2→N<4611686018427387904→DenM Tryz.prog 217 [.own E0 4 0 N,.s (.int .i64 za),.s (.int .i64 zm),.s (.int .i64 zb),.fn g []] 4 (List.map stC (p++(s1++(s2++q)))) (fun r ys=>∃ t:List bO,t.Perm (s1++s2)∧Srt c t∧ys=(List.map stC (p++(t++q))))
 | 0,p,s1,s2,q,N,za,zm,zb,hle,_,_,_,_,h01,_,_,_,_=>by exfalso; omega
 | NN+1,p,s1,s2,q,N,za,zm,zb,hle,hN,hza,hzm,hzb,h01,h02,hs1,hs2,hM=>aDa hent hc hcmp NN (wY hent hc hcmp NN) p s1 s2 q N za zm zb hle hN hza hzm hzb h01 h02 hs1 hs2 hM
theorem aFt {g:Nat} (hent:∀ args w,(callFunc g args).run Tryz.prog w=.ok (.enter g args) w) {c:bO→bO→Int} (hc:Tri c) (hcmp:∀ x y:bO,Den Tryz.prog g [.agg (stC x),.agg (stC y)] (·=.s (.int .i64 (c x y)))) (s0:List bO) (N:Nat) (hN:N=s0.length) (hM:N<4611686018427387904) :DenM Tryz.prog 175 [.own E0 4 0 N,.s (.int .i64 (N:Nat)),.fn g []] 4 ((List.map stC (s0))) (fun r ys=>∃ t:List bO,t.Perm s0∧Srt c t∧ys=(List.map stC (t))):=by
 refine gK Tryz.func175 rfl (Nat.le_of_ble_eq_true rfl) (fun w0 x0 A hf=>?_)
 refine aC (fun K1 hK1=>(aB (aE aA 1 rfl (aD (hK1 _ (aC (fun K2 hK2=>(aB (aE aA 3 rfl (aD (hK2 _ (aC (fun K3 hK3=>(aU (bW (ι:=List bO×List bO) (fun(⟨x,y⟩:List bO×List bO)=>⟨63,[(0,.own E0 4 0 N),(1,.s (.int .i64 (N:Nat))),(2,.fn g []),(6,.s (.int .i64 20)),(7,.s (.int .i64 (x.length:Nat))),(8,.s (.int .i64 ((x.length+20:Nat):Int)))],[(E0,.buf 4 (List.map stC (x++y)))]⟩) (fun(⟨x,y⟩:List bO×List bO)=>Fu c 20 x∧(x++y).Perm s0) (fun(⟨x,y⟩:List bO×List bO)=>y.length) ([],s0) ?_ ?_ ?_)))))))))))))))
 · exact⟨.nil,.refl _⟩
 · exact cU rfl
 ·
  rintro ⟨x,y⟩ hC
  obtain ⟨hd,hp⟩:=hC
  have hpl:=hp.length_eq
  rw[List.length_append] at hpl
  refine aC (fun K4 hK4=>(aC (fun K5 hK5=>(aB (aE aA 3 rfl (aD (hK5 _ (aO rfl (fun hc1=>?_) (fun hc1=>?_)))))))))
  ·
   simp only[bs] at hc1
   refine aR (hK4 _ (aU (aC (fun K6 hK6=>(aB ?_)))))
   have htk:=List.length_take (i:=20) (l:=y)
   have hdk:=List.length_drop (i:=20) (l:=y)
   rw[show x++y=x++(y.take 20++y.drop 20) from by rw[List.take_append_drop]]
   refine aE aA 4 rfl (gE hf E0 rfl rfl rfl rfl rfl aBm (aDb hent hc hcmp x (y.take 20) (y.drop 20) N _ _ (by omega) (by omega) (by omega) hM) ?_)
   rintro r zs ⟨t,ht1,ht2,rfl⟩
   have htl:=ht1.length_eq
   refine aD (hK6 _ (aC (fun K7 hK7=>(aB (aE aA 2 rfl (aD (hK7 _ (aB (aE aA 2 rfl ?_)))))))))
   refine aI rfl (bQ rfl rfl (by omega) (by omega)) ?_
   refine aE aA 1 rfl ?_
   refine bV ?_
   exact⟨(x++t,y.drop 20),⟨.cons hd ht2 (by have:=ht1.length_eq; rw[List.length_take] at this; omega),(show ((x++t)++y.drop 20).Perm s0 from (by rw[List.append_assoc]; exact(List.Perm.append_left x ((List.Perm.append_right _ ht1).trans (by rw[List.take_append_drop]))).trans hp))⟩,by simp only[List.length_drop]; omega,cN ⟨(by first | rfl | exact aT (by simp only[List.length_append]; omega)),(by first | rfl | exact aT (by simp only[List.length_append]; omega)),(by first | rfl | exact aT (by simp only[List.length_append]; omega)),(by first | rfl | exact aT (by simp only[List.length_append]; omega)),(by first | rfl | exact aT (by simp only[List.length_append]; omega)),(by first | rfl | exact aT (by simp only[List.length_append]; omega)),trivial⟩ (by rw[List.append_assoc]; rfl)⟩
  ·
   simp only[bs] at hc1
   refine bI (hK3 _ (aC (fun K8 hK8=>(aB ?_))))
   rw[show x++y=x++(y++[]) from by rw[List.append_nil]]
   refine aE aA 4 rfl (gE hf E0 rfl rfl rfl rfl rfl aBm (aDb hent hc hcmp x y [] N _ _ (by simp only[List.length_nil]; omega) (by omega) (by omega) hM) ?_)
   rintro r zs ⟨t0,ht01,ht02,rfl⟩
   refine aD (hK8 _ (aU (bW (ι:=Nat×List bO) (fun(⟨bz,l⟩:Nat×List bO)=>⟨63,[(0,.own E0 4 0 N),(1,.s (.int .i64 (N:Nat))),(2,.fn g []),(6,.s (.int .i64 (bz:Nat)))],[(E0,.buf 4 (List.map stC (l)))]⟩) (fun(⟨bz,l⟩:Nat×List bO)=>0<bz∧bz<9223372036854775808∧Ch c bz l∧l.Perm s0) (fun(⟨bz,l⟩:Nat×List bO)=>N - bz) (20,x++t0) ?_ ?_ ?_)))
   · exact⟨by decide,by decide,hd.ch (.last ht02 (by have:=ht01.length_eq; omega)),(List.Perm.append_left x ht01).trans hp⟩
   · exact cN ⟨rfl,rfl,rfl,rfl,trivial⟩ (by rw[List.append_nil]; rfl)
   ·
    rintro ⟨bz,l⟩ hC
    obtain ⟨hb0,hb1,hch,hlp⟩:=hC
    have hll:=hlp.length_eq
    refine aC (fun K9 hK9=>(aC (fun K10 hK10=>(aB (aE aA 3 rfl (aD (hK10 _ (aO rfl (fun hc2=>?_) (fun hc2=>?_)))))))))
    ·
     simp only[bs] at hc2
     refine aR (hK9 _ (aU (aC (fun K11 hK11=>(aB (aE aA 1 rfl (aI rfl (aP6 rfl rfl rfl (by omega) (by omega)) (aE aA 2 rfl (aD (hK11 _ (aC (fun K12 hK12=>(aU (bW (ι:=List bO×List bO) (fun(⟨x,y⟩:List bO×List bO)=>⟨63,[(0,.own E0 4 0 N),(1,.s (.int .i64 (N:Nat))),(2,.fn g []),(6,.s (.int .i64 (bz:Nat))),(7,.s (.int .i64 (x.length:Nat))),(8,.s (.int .i64 ((x.length+2*bz:Nat):Int)))],[(E0,.buf 4 (List.map stC (x++y)))]⟩) (fun(⟨x,y⟩:List bO×List bO)=>Fu c (2*bz) x∧Ch c bz y∧(x++y).Perm s0) (fun(⟨x,y⟩:List bO×List bO)=>y.length) ([],l) ?_ ?_ ?_))))))))))))))
     · exact⟨.nil,hch,hlp⟩
     · exact cN ⟨rfl,rfl,rfl,rfl,rfl,aT (by simp only[List.length_nil]; omega),trivial⟩ rfl
     ·
      rintro ⟨x,y⟩ hC
      obtain ⟨hd2,hr2,hp2⟩:=hC
      have hpl2:=hp2.length_eq
      rw[List.length_append] at hpl2
      refine aC (fun K13 hK13=>(aC (fun K14 hK14=>(aB (aE aA 3 rfl (aD (hK14 _ (aO rfl (fun hc3=>?_) (fun hc3=>?_)))))))))
      ·
       simp only[bs] at hc3
       refine aR (hK13 _ (aU (aC (fun K15 hK15=>(aB ?_)))))
       obtain ⟨sa,sb,r3,hy,hsa1,hsa2,hsb1,hsb2,hr3⟩:=hr2.pair hb0 (by omega)
       subst hy
       simp only[List.length_append] at hpl2
       refine aE aA 4 rfl ?_
       refine aI rfl (bQ rfl rfl (by omega) (by omega)) ?_
       refine aE aA 2 rfl (gE hf E0 rfl rfl rfl rfl rfl rL (wY hent hc hcmp (sa.length+sb.length) x sa sb r3 N _ _ _ (Nat.le_refl _) (by omega) (by omega) (by omega) (by omega) (by omega) (by omega) hsa1 hsb1 hM) ?_)
       rintro r zs ⟨tt,htt1,htt2,rfl⟩
       have httl:=htt1.length_eq
       rw[List.length_append] at httl
       refine aD (hK15 _ (aC (fun K16 hK16=>(aB (aE aA 2 rfl (aD (hK16 _ (aB (aE aA 2 rfl (aI rfl (aP6 rfl rfl rfl (by omega) (by omega)) ?_))))))))))
       refine aI rfl (bQ rfl rfl (by omega) (by omega)) ?_
       refine aE aA 1 rfl ?_
       refine bV ?_
       exact⟨(x++tt,r3),⟨.cons hd2 htt2 (by have:=htt1.length_eq; rw[List.length_append] at this; omega),hr3,(show ((x++tt)++r3).Perm s0 from (by rw[List.append_assoc]; exact(List.Perm.append_left x ((List.Perm.append_right r3 htt1).trans (by rw[List.append_assoc]))).trans hp2))⟩,by simp only[List.length_append]; omega,cN ⟨(by first | rfl | exact aT (by simp only[List.length_append]; omega)),(by first | rfl | exact aT (by simp only[List.length_append]; omega)),(by first | rfl | exact aT (by simp only[List.length_append]; omega)),(by first | rfl | exact aT (by simp only[List.length_append]; omega)),(by first | rfl | exact aT (by simp only[List.length_append]; omega)),(by first | rfl | exact aT (by simp only[List.length_append]; omega)),trivial⟩ (by rw[List.append_assoc]; rfl)⟩
      ·
       simp only[bs] at hc3
       refine bI (hK12 _ (aC (fun K17 hK17=>(aC (fun K18 hK18=>(aB (aE aA 2 rfl ?_)))))))
       refine aI rfl (bQ rfl rfl (by omega) (by omega)) ?_
       refine aE aA 1 rfl (aD (hK18 _ (aC (fun K19 hK19=>(aB (aE aA 3 rfl (aD (hK19 _ (aO rfl (fun hc4=>?_) (fun hc4=>?_))))))))))
       ·
        simp only[bs] at hc4
        refine aB ?_
        obtain ⟨sa,sb,hy,hsa1,hsa2,hsb1,hsb2⟩:=hr2.rest (by omega) (by omega)
        subst hy
        simp only[List.length_append] at hpl2
        rw[show x++(sa++sb)=x++(sa++(sb++[])) from by rw[List.append_nil]]
        refine aE aA 5 rfl (gE hf E0 rfl rfl rfl rfl rfl rL (wY hent hc hcmp (sa.length+sb.length) x sa sb [] N _ _ _ (Nat.le_refl _) (by simp only[List.length_nil]; omega) (by omega) (by omega) (by omega) (by omega) (by omega) hsa1 hsb1 hM) ?_)
        rintro r zs ⟨tq,htq1,htq2,rfl⟩
        refine aD (hK17 _ (aB (aE aA 1 rfl (aI rfl (aP6 rfl rfl rfl (by omega) (by omega)) (aE aA 1 rfl ?_)))))
        refine bV ?_
        exact⟨(2*bz,x++tq),⟨by omega,by omega,hd2.ch (.last htq2 (by have:=htq1.length_eq; rw[List.length_append] at this; omega)),(List.Perm.append_left x htq1).trans hp2⟩,by simp only; omega,cN ⟨(by first | rfl | exact aT (by omega)),(by first | rfl | exact aT (by omega)),(by first | rfl | exact aT (by omega)),(by first | rfl | exact aT (by omega)),trivial⟩ (by rw[List.append_nil]; rfl)⟩
       ·
        simp only[bs] at hc4
        refine aR (hK17 _ (aB (aE aA 1 rfl (aI rfl (aP6 rfl rfl rfl (by omega) (by omega)) (aE aA 1 rfl ?_)))))
        refine bV ?_
        exact⟨(2*bz,x++y),⟨by omega,by omega,hd2.ch (.last (hr2.short (by omega)) (by omega)),hp2⟩,by simp only; omega,cN ⟨(by first | rfl | exact aT (by omega)),(by first | rfl | exact aT (by omega)),(by first | rfl | exact aT (by omega)),(by first | rfl | exact aT (by omega)),trivial⟩ rfl⟩
    ·
     simp only[bs] at hc2
     refine bI ?_
     exact⟨_,_,_,Le.refl _,rfl,rfl,l,hlp,hch.short (by omega),rfl⟩
theorem yF {g:Nat} (hent:∀ args w,(callFunc g args).run Tryz.prog w=.ok (.enter g args) w) {c:bO→bO→Int} (hc:Tri c) (hcmp:∀ x y:bO,Den Tryz.prog g [.agg (stC x),.agg (stC y)] (·=.s (.int .i64 (c x y)))) (s0:List bO) (N:Nat) (hN:N=s0.length) (hM:N<4611686018427387904) :DenM Tryz.prog 116 [.own E0 4 0 N,.fn g []] 4 ((List.map stC (s0))) (fun r ys=>∃ t:List bO,t.Perm s0∧Srt c t∧ys=(List.map stC (t))):=by
 refine gK Tryz.func116 rfl (Nat.le_of_ble_eq_true rfl) (fun w0 x0 A hf=>?_)
 refine aB (aE aA 4 rfl (gE hf E0 rfl rfl rfl rfl rfl aMo (aFt hent hc hcmp s0 N hN hM) ?_))
 rintro r zs ⟨t,ht1,ht2,rfl⟩
 refine bV ?_
 exact⟨_,_,_,Le.refl _,rfl,rfl,t,ht1,ht2,rfl⟩
end Go.Proofs.YtijnkglkchhomaaGreat
set_option linter.unusedVariables false
set_option linter.unusedSimpArgs false
namespace Go.Proofs.YtijnkglkchhomaaGreat
open Go Go.Abs
end Go.Proofs.YtijnkglkchhomaaGreat
set_option linter.unusedVariables false
set_option linter.unusedSimpArgs false
namespace Go.Proofs.YtijnkglkchhomaaGreat
open Go Go.Abs
theorem sC (a:Int) :Den Tryz.prog 109 [.s (.int .i64 a)]  (·=.s (.bool false)):=by
 refine aY Tryz.func109 rfl (Nat.le_of_ble_eq_true rfl) (fun w0 A hf=>(aC (fun K1 hK1=>(aB (aE aA 1 rfl (aD (hK1 _ (aC (fun K2 hK2=>(aB (aE aA 4 rfl (aD (hK2 _ (aM ?_))))))))))))))
 refine⟨_,rfl,?_⟩
 refine aQ ?_
 simp
theorem iV (a b:Int) :Den Tryz.prog 57 [.s (.int .i64 a),.s (.int .i64 b)]  (·=.s (.int .i64 (kU a b))):=by
 refine aY Tryz.func57 rfl (Nat.le_of_ble_eq_true rfl) (fun w0 A hf=>(aC (fun K1 hK1=>(aB (aE aA 1 rfl (aD (hK1 _ (aC (fun K2 hK2=>(aB (aE aA 1 rfl (aN hf rfl (aP rfl rfl aB0 rfl (sC _)) (aE aA 1 rfl (aD (hK2 _ ?_)))))))))))))))
 refine aC (fun K3 hK3=>(aB (aE aA 1 rfl (aN hf rfl (aP rfl rfl aB0 rfl (sC _)) (aE aA 1 rfl (aD (hK3 _ (aC (fun K4 hK4=>(aC (fun K5 hK5=>(aB (aE aA 1 rfl (aD (hK5 _ ?_)))))))))))))))
 refine bZ rfl (aR (hK4 _ (aC (fun K6 hK6=>(aC (fun K7 hK7=>(aB (aE aA 1 rfl (aD (hK7 _ (bZ rfl (aR (hK6 _ (aC (fun K8 hK8=>?_)))))))))))))))
 refine aC (fun K9 hK9=>(aB (aE aA 3 rfl (aD (hK9 _ (aO rfl (fun hc3=>?_) (fun hc3=>?_)))))))
 ·
  simp only[bs] at hc3
  refine aC (fun K10 hK10=>(aB (aE aA 1 rfl (aD (hK10 _ (aM ?_))))))
  refine⟨_,rfl,?_⟩
  refine eP ?_
  unfold kU
  (repeat' split) <;> first | rfl | omega
 ·
  simp only[bs] at hc3
  refine aR (hK8 _ (aC (fun K11 hK11=>(aC (fun K12 hK12=>(aB (aE aA 3 rfl (aD (hK12 _ (aO rfl (fun hc4=>?_) (fun hc4=>?_)))))))))))
  ·
   simp only[bs] at hc4
   refine aC (fun K13 hK13=>(aB (aE aA 1 rfl (aD (hK13 _ (aM ?_))))))
   refine⟨_,rfl,?_⟩
   refine eP ?_
   unfold kU
   (repeat' split) <;> first | rfl | omega
  ·
   simp only[bs] at hc4
   refine aR (hK11 _ (aC (fun K14 hK14=>(aB (aE aA 1 rfl (aD (hK14 _ (aM ?_))))))))
   refine⟨_,rfl,?_⟩
   refine eP ?_
   unfold kU
   (repeat' split) <;> first | rfl | omega
theorem sA (s:Sp) :Den Tryz.prog 115 [.agg (spC s)]  (·=.s (.bool (decide (s.2≤s.1)))):=by
 refine aY Tryz.func115 rfl (Nat.le_of_ble_eq_true rfl) (fun w0 A hf=>(aC (fun K1 hK1=>(aB (aN hf rfl (cS rfl rfl (lf rfl)) (aE aA 1 rfl (aD (hK1 _ (aC (fun K2 hK2=>(aB (aE aA 6 rfl (aD (hK2 _ (aM ?_)))))))))))))))
 refine⟨_,rfl,?_⟩
 rfl
end Go.Proofs.YtijnkglkchhomaaGreat
namespace Go.Proofs
open Go.Shelf
end Go.Proofs
set_option linter.unusedVariables false
set_option linter.unusedSimpArgs false
namespace Go.Proofs.YtijnkglkchhomaaGreat
open Go Go.Abs
end Go.Proofs.YtijnkglkchhomaaGreat
set_option linter.unusedVariables false
set_option linter.unusedSimpArgs false
namespace Go.Proofs.YtijnkglkchhomaaGreat
open Go Go.Abs
theorem uH {g:Nat} {cap:List AV} (hent:∀ args w,(callFunc g args).run Tryz.prog w=.ok (.enter g args) w) (hcl:cleanL (fun _=>false) cap=true) (p:bO→Bool) (l:List bO) (hl:l.length≤9223372036854775807) (hp:∀ x∈l,Den Tryz.prog g (.agg (stC x)::cap) (·=.s (.bool (p x)))) :Den Tryz.prog 189 [.sl 4 (l.map stC),.fn g cap]  (·=.s (.int .i64 (oO p l))):=by
 refine aY Tryz.func189 rfl (Nat.le_of_ble_eq_true rfl) (fun w0 A hf=>(aC (fun K1 hK1=>(aB (aE aA 1 rfl (aD (hK1 _ (aC (fun K2 hK2=>(aC (fun K3 hK3=>(aB (aE aA 3 rfl (aD (hK3 _ (aU ?_))))))))))))))))
 refine bW (ι:=Nat) (fun k=>⟨19,[(0,.sl 4 (l.map stC)),(1,.fn g cap),(7,.s (.int .i64 ((l.map stC).length:Nat))),(8,.s (.int .i64 (k:Nat)))],[]⟩) (fun k=>k≤l.length∧∀ (j:Nat) (hj:j<l.length),j<k→p l[j]=false) (fun k=>l.length - k) 0 ?_ ?_ ?_
 · exact⟨by omega,by omega⟩
 · exact cU rfl
 ·
  rintro k hC
  obtain ⟨h1,h2⟩:=hC
  refine aC (fun K4 hK4=>(aB (aE aA 1 rfl (aD (hK4 _ (aC (fun K5 hK5=>(aO rfl (fun hc1=>?_) (fun hc1=>?_)))))))))
  ·
   simp only[bs] at hc1
   refine aR (hK5 _ (aC (fun K6 hK6=>(aU (aC (fun K7 hK7=>(aB (aE aA 2 rfl (aD (hK7 _ (aC (fun K8 hK8=>(aB (aE aA 3 rfl ?_))))))))))))))
   refine aI rfl (bJ rfl rfl cE bB (by first | exact ixm (by omega) | assumption | exact⟨by decide,rfl⟩)) ?_
   refine aE aA 1 rfl (aN hf rfl (aP rfl rfl hent (by rw[fT,hcl]; rfl) (hp _ (List.getElem_mem _))) ?_)
   refine aD (hK8 _ (aO rfl (fun hc2=>?_) (fun hc2=>?_)))
   ·
    refine aC (fun K9 hK9=>(aB (aE aA 2 rfl (aD (hK9 _ (aM ?_))))))
    refine⟨_,rfl,?_⟩
    refine eP ?_
    rw[nG (by omega) h2 (by assumption)]
   ·
    refine aR (hK6 _ (aB ?_))
    refine aI rfl (bQ rfl rfl (by omega) (by omega)) ?_
    refine aE aA 1 rfl (aD ?_)
    exact⟨k+1,⟨by omega,fun j hj hjk=>by
      by_cases e:j=k
      · subst e; simp_all
      · exact h2 j hj (by omega)⟩,by omega,cU rfl⟩
  ·
   simp only[bs] at hc1
   refine bI (hK2 _ (aC (fun K10 hK10=>(aB (aE aA 1 rfl (aD (hK10 _ (aM ?_))))))))
   refine⟨_,rfl,?_⟩
   refine eP ?_
   rw[pF (fun j hj=>h2 j hj (by omega))]
theorem aB6 {g:Nat} {cap:List AV} (hent:∀ args w,(callFunc g args).run Tryz.prog w=.ok (.enter g args) w) (hcl:cleanL (fun _=>false) cap=true) (hcv:∀ m,convL m cap=cap) (p:bO→Bool) (l:List bO) (n:Nat) (hn:n=l.length) (hl:l.length≤9223372036854775807) (hp:∀ x∈l,Den Tryz.prog g (.agg (stC x)::cap) (·=.s (.bool (p x)))) :DenM Tryz.prog 163 [.own E0 4 0 n,.fn g cap] 4 ((l.map stC)) (fun r ys=>r=.own E0 4 0 (l.filter fun x=>!p x).length∧ys=((l.filter fun x=>!p x).map stC)):=by
 subst hn
 have hq0:∀ j,((l.take j).filter fun x=>!p x).length≤j:=fun j=>gV _ l j
 have hq1:∀ j,((l.take j).filter fun x=>!p x).length≤l.length:=fun j=>gJ _ l j
 refine gK Tryz.func163 rfl (Nat.le_of_ble_eq_true rfl) (fun w0 x0 A hf=>?_)
 refine aC (fun K1 hK1=>(aB (aI rfl (bX) (aD (hK1 _ (aC (fun K2 hK2=>(aB (aE aA 2 rfl (aN hf rfl (qW rfl rfl (by show [AV.conv _ _,AV.fn g (convL _ cap)]=_; rw[hcv,cL (g:=E0) rfl (by simp)]) aBt (uH hent hcl p l hl hp) rfl) ?_))))))))))
 refine aE aA 1 rfl (aD (hK2 _ (aC (fun K3 hK3=>(aC (fun K4 hK4=>(aB (aE aA 2 rfl (aD (hK4 _ (aO rfl (fun hc1=>?_) (fun hc1=>?_))))))))))))
 ·
  simp only[bs] at hc1
  refine aC (fun K5 hK5=>(aB (aE aA 2 rfl (aD (hK5 _ (aM ?_))))))
  have hno:oO p l=-1:=by simpa using hc1
  rcases eE p l with ⟨_,hn⟩ | ⟨k,hk,e,_⟩
  · exact⟨_,.own E0 4 0 l.length,(l.map stC),Le.refl _,rfl,rfl,by rw[fS p l hn],by rw[fS p l hn]⟩
  · exfalso; omega
 ·
  simp only[bs] at hc1
  refine aR (hK3 _ (aC (fun K6 hK6=>(aC (fun K7 hK7=>(aB ?_))))))
  rcases eE p l with ⟨e0,_⟩ | ⟨k0,hk0,ek0,hpk0,hbef⟩
  · exact absurd e0 (by simpa using hc1)
  have hst:=kT (fun x=>!p x) l k0 hk0 (fun j hj hjk=>by simp [hbef j hj hjk]) (by simp [hpk0])
  rw[ek0]
  refine aE aA 1 rfl ?_
  refine aI rfl (bQ rfl rfl (by omega) (by omega)) ?_
  refine aE aA 1 rfl (aD (hK7 _ (aU (bW (ι:=Nat) (fun j=>⟨42,[(0,.own E0 4 0 l.length),(1,.fn g cap),(5,.s (.int .i64 (((l.take j).filter fun x=>!p x).length:Nat))),(6,.s (.int .i64 (j:Nat)))],[(E0,.buf 4 ((iR (fun x=>!p x) l j).map stC))]⟩) (fun j=>j≤l.length) (fun j=>l.length - j) (k0+1) ?_ ?_ ?_))))
  · exact hk0
  · rw[hst.1,hst.2]; exact jU ⟨rfl,rfl,rfl,rfl,trivial⟩
  ·
   rintro j hC
   let q:=fun x=>!p x
   have hle:((l.take j).filter q).length≤j:=hq0 j
   have hle2:((l.take j).filter fun x=>!p x).length≤j:=hq0 j
   refine aC (fun K8 hK8=>(aC (fun K9 hK9=>(aB (aE aA 4 rfl (aD (hK9 _ (aO rfl (fun hc2=>?_) (fun hc2=>?_)))))))))
   ·
    simp only[bs] at hc2
    refine aR (hK8 _ (aC (fun K10 hK10=>(aU (aC (fun K11 hK11=>(aB (aE aA 2 rfl ?_))))))))
    refine aI rfl (cF rfl rfl cE bB (by omega)) ?_
    refine aI rfl (cD rfl dO bB rfl (qZ (c:=4) (k:=j) (enc:=stC) (by omega) (by rw[eF]; omega) rfl) (cs':=stC l[j]) (by rw[oD (c:=4) (k:=j) (enc:=stC) (by omega) (by rw[eF]; omega) rfl,pG q l j j (by omega) hle])) ?_
    refine cC hf rfl dX rfl bB rfl rfl rfl rfl (lf rfl) (aD (hK11 _ (aC (fun K12 hK12=>(aB (aE aA 2 rfl (aN hf rfl (aP rfl rfl hent (by rw[fT,hcl]; rfl) (hp _ (List.getElem_mem _))) ?_)))))))
    refine aE aA 1 rfl (aD (hK12 _ (aO rfl (fun hc3=>?_) (fun hc3=>?_))))
    ·
     simp only[bs] at hc3
     refine aC (fun K13 hK13=>(aB (aE aA 3 rfl ?_)))
     refine aI rfl (cF rfl rfl cE bB (by omega)) ?_
     refine bD hf rfl rfl bB rfl rfl (by simp [stC,AV.cells,AV.one,Value.oneCell',splice]) (by simp [stC,AV.cells,AV.leaf,Value.oneCell',splice]) (hU (c:=4) (k:=((l.take j).filter fun x=>!p x).length) (enc:=stC) (v:=l[j]) (by omega) (by rw[eF]; omega) rfl (Nat.le_refl _)) ?_
     refine aD (hK13 _ (aB ?_))
     rw[jJ (fun x=>!p x) l j (by omega) (by simp_all)]
     refine aE aA 1 rfl ?_
     refine aI rfl (bQ rfl rfl (by omega) (by omega)) ?_
     rw[lW (fun x=>!p x) l j (by omega) (by simp_all)]
     refine aE aA 1 rfl ?_
     refine bV ?_
     refine hK10 _ (aB (aE aA 1 rfl ?_))
     refine aI rfl (bQ rfl rfl (by omega) (by omega)) ?_
     refine aE aA 1 rfl (aD ?_)
     exact⟨j+1,(by omega),by omega,cU rfl⟩
    ·
     simp only[bs] at hc3
     rw[jK (fun x=>!p x) l j (by omega) (by simp_all),lX (fun x=>!p x) l j (by omega) (by simp_all)]
     refine aR (hK10 _ (aB (aE aA 1 rfl ?_)))
     refine aI rfl (bQ rfl rfl (by omega) (by omega)) ?_
     refine aE aA 1 rfl (aD ?_)
     exact⟨j+1,(by omega),by omega,cU rfl⟩
   ·
    simp only[bs] at hc2
    refine bI (hK6 _ (aC (fun K14 hK14=>(aB (aE aA 2 rfl ?_)))))
    refine aI rfl (eJ rfl cE bB rfl rfl (by omega) (by omega)) ?_
    refine vN hf hZ dX (by simp [Value.oneCell']) rfl rfl ?_
    refine aD (hK14 _ (aC (fun K15 hK15=>(aB (aE aA 2 rfl ?_)))))
    refine aI rfl (eJ rfl cE bB rfl rfl (by omega) (by omega)) ?_
    refine aE aA 1 rfl (aD (hK15 _ (aM ?_)))
    have hjl:l.length≤j:=by omega
    have he:=nJ (fun x=>!p x) l j hjl
    refine⟨_,_,_,Le.refl _,rfl,rfl,?_,?_⟩
    · rw[List.take_of_length_le hjl]; rfl
    · rw[List.take_of_length_le hjl,Nat.zero_add,Int.toNat_natCast,← List.map_take,he]
theorem sV (l:List bO) (hl:l.length*32≤140737488355328) :DenO Tryz.prog 69 [.sl 4 (l.map stC)] 4 (·=(l.map stC)):=by
 refine fP Tryz.func69 rfl (Nat.le_of_ble_eq_true rfl) (fun w0 A hf=>?_)
 refine aC (fun K1 hK1=>(aB (aI rfl (bX) (aD (hK1 _ (aC (fun K2 hK2=>(aC (fun K3 hK3=>(aB (aE aA 1 rfl ?_)))))))))))
 refine nD rfl rfl rfl cE (fun b hb1=>?_)
 refine aD (hK3 _ (aO rfl (fun hc2=>?_) (fun hc2=>?_)))
 ·
  have hl0:l=[]:=by simpa using hb1 (by assumption)
  refine aC (fun K4 hK4=>(aB (qS hf 4 rfl rfl rfl (aD (hK4 _ (aM ?_))))))
  exact⟨2,[],by decide,rfl,rfl,by rw[hl0]; rfl⟩
 ·
  refine aR (hK2 _ (aC (fun K5 hK5=>(aB (cR hf rfl rfl rfl hZ rfl rfl rfl rfl (l2 rfl) ?_)))))
  refine aE aA 1 rfl (dQ hf rfl hZ rfl rfl rfl (.inl rfl) rfl rfl (by first | rfl | simp [iS,bU]) (by first | (simp only[maxLen,List.length_map,List.length_append,List.length_cons,List.length_nil]; omega) | (simp [maxLen] <;> omega)) (by first | (simp only[List.length_map,List.length_append,List.length_cons,List.length_nil]; omega) | (simp <;> omega)) ?_)
  refine cB (iK [7] rfl) (aE aA 1 rfl (aD (hK5 _ (aM ?_))))
  refine⟨5,(l.map stC),by decide,rfl,?_,rfl⟩
  show some (AV.own 5 4 0 (0+(l.map stC).length))=_
  rw[Nat.zero_add]
theorem aQy (n:Nat) (hn:n*32≤140737488355328) :DenO Tryz.prog 177 [.s (.slice none 0 0),.s (.int .i64 (n:Nat))] 4 (·=[]):=by
 refine fP Tryz.func177 rfl (Nat.le_of_ble_eq_true rfl) (fun w0 A hf=>?_)
 refine aC (fun K1 hK1=>(aB (aI rfl (bX) (aD (hK1 _ (aC (fun K2 hK2=>(aC (fun K3 hK3=>(aB (aE aA 2 rfl (aD (hK3 _ (aO rfl (fun hc1=>?_) (fun hc1=>?_)))))))))))))))
 ·
  simp only[bs] at hc1
  omega
 ·
  simp only[bs] at hc1
  refine aR (hK2 _ (aC (fun K4 hK4=>(aC (fun K5 hK5=>(aB (aE aA 2 rfl (aI rfl (lS rfl cE) (aE aA 2 rfl ?_)))))))))
  refine aI rfl (eU rfl rfl (by omega) (by omega)) ?_
  refine aI rfl (eU rfl rfl (by omega) (by omega)) ?_
  refine aE aA 1 rfl (aD (hK5 _ (aC (fun K6 hK6=>(aB (aE aA 2 rfl (aD (hK6 _ (aO rfl (fun hc2=>?_) (fun hc2=>?_))))))))))
  ·
   simp only[bs] at hc2
   refine aB (aE aA 2 rfl (aI rfl (lS rfl cE) ?_))
   refine aI rfl (qY rfl cE bB rfl) ?_
   refine aE aA 1 rfl (vO hf rfl rfl rfl hZ Tryz.underlying3 rfl rfl (by omega) (by omega) (by simp only[maxLen]; omega) ?_)
   refine aE aA 2 rfl ?_
   refine aI rfl (eJ rfl cE bB rfl rfl (by omega) (by omega)) ?_
   refine aE aA 1 rfl (aD (hK4 _ (aC (fun K7 hK7=>(aB (aE aA 1 rfl ?_))))))
   refine aI rfl (uN rfl) ?_
   refine aD (hK7 _ (aM ?_))
   exact⟨22,[],by decide,rfl,rfl,rfl⟩
  ·
   simp only[bs] at hc2
   refine aR (hK4 _ (aC (fun K8 hK8=>(aB (aE aA 1 rfl ?_)))))
   refine aHl hf 4 rfl rfl rfl rfl ?_
   refine aD (hK8 _ (aM ?_))
   exact⟨4,[],by decide,rfl,rfl,rfl⟩
theorem aAu (rows:List (List bO)) (hl:rows.length≤9223372036854775807) (hb:rows.flatten.length*32≤140737488355328) :DenO Tryz.prog 118 [.sl 1 (rows.map fun r=>[AV.sl 4 (r.map stC)])] 4 (·=(rows.flatten.map stC)):=by
 refine fP Tryz.func118 rfl (Nat.le_of_ble_eq_true rfl) (fun w0 A hf=>?_)
 refine aC (fun K1 hK1=>(aB (aI rfl (bX) (aD (hK1 _ (aC (fun K2 hK2=>(aB (aE aA 1 rfl (aD (hK2 _ (aC (fun K3 hK3=>(aC (fun K4 hK4=>(aB ?_))))))))))))))))
 refine aE aA 3 rfl (aD (hK4 _ (aU (bW (ι:=Nat) (fun k=>⟨36,[(0,.sl 1 (rows.map fun r=>[AV.sl 4 (r.map stC)])),(3,.s (.int .i64 ((rows.take k).flatten.length:Nat))),(9,.sl 1 (rows.map fun r=>[AV.sl 4 (r.map stC)])),(10,.s (.int .i64 ((rows.map fun r=>[AV.sl 4 (r.map stC)]).length:Nat))),(11,.s (.int .i64 (k:Nat)))],[]⟩) (fun k=>k≤rows.length) (fun k=>rows.length - k) 0 ?_ ?_ ?_))))
 · exact Nat.zero_le _
 · exact cU rfl
 ·
  rintro k hC
  refine aC (fun K5 hK5=>(aB (aE aA 1 rfl (aD (hK5 _ (aC (fun K6 hK6=>(aO rfl (fun hc1=>?_) (fun hc1=>?_)))))))))
  ·
   simp only[bs] at hc1
   refine aR (hK6 _ (aC (fun K7 hK7=>(aU (aC (fun K8 hK8=>(aB ?_)))))))
   refine aI rfl (bJ rfl rfl aHj qO (by first | exact ixm (by omega) | assumption | exact⟨by decide,rfl⟩)) ?_
   refine aE aA 2 rfl (aD (hK8 _ (aC (fun K9 hK9=>(aB ?_)))))
   have hk:k<rows.length:=by omega
   have e1:=congrArg List.length (hJ rows k hk)
   rw[List.length_append] at e1
   have e2:=rD rows (k+1)
   have e3:(rows[k].map stC).length=rows[k].length:=List.length_map _
   refine aE aA 3 rfl ?_
   refine aI rfl (bQ rfl rfl (by omega) (by omega)) ?_
   rw[show ((((rows.take k).flatten.length:Nat):Int)+(((rows[k].map stC).length:Nat):Int))=(((rows.take (k+1)).flatten.length:Nat):Int) from by omega]
   refine aE aA 1 rfl (aD (hK9 _ (aC (fun K10 hK10=>(aB (aE aA 2 rfl (aD (hK10 _ (aO rfl (fun hc2=>?_) (fun hc2=>?_))))))))))
   ·
    simp only[bs] at hc2
    omega
   ·
    simp only[bs] at hc2
    refine aR (hK7 _ (aB ?_))
    refine aI rfl (bQ rfl rfl (by omega) (by omega)) ?_
    refine aE aA 1 rfl (aD ?_)
    exact⟨k+1,(by omega),by omega,cU rfl⟩
  ·
   simp only[bs] at hc1
   refine bI (hK3 _ (aC (fun K11 hK11=>(aB ?_))))
   rw[List.take_of_length_le (show rows.length≤k by omega)]
   refine aE aA 1 rfl (gP hf rfl rfl rfl rfl rfl aMn rfl (aQy rows.flatten.length (by omega)) ?_)
   rintro _ rfl
   refine aE aA 1 rfl (aD (hK11 _ (aC (fun K12 hK12=>(aC (fun K13 hK13=>(aB (aE aA 3 rfl (aD (hK13 _ (aU (bW (ι:=Nat) (fun j=>⟨36,[(6,.own 24 4 0 (rows.take j).flatten.length),(25,.sl 1 (rows.map fun r=>[AV.sl 4 (r.map stC)])),(26,.s (.int .i64 ((rows.map fun r=>[AV.sl 4 (r.map stC)]).length:Nat))),(27,.s (.int .i64 (j:Nat)))],[(24,.buf 4 ((rows.take j).flatten.map stC))]⟩) (fun j=>j≤rows.length) (fun j=>rows.length - j) 0 ?_ ?_ ?_))))))))))))
   · exact Nat.zero_le _
   · exact cU rfl
   ·
    rintro j hC
    refine aC (fun K14 hK14=>(aB (aE aA 1 rfl (aD (hK14 _ (aC (fun K15 hK15=>(aO rfl (fun hc3=>?_) (fun hc3=>?_)))))))))
    ·
     simp only[bs] at hc3
     refine aR (hK15 _ (aC (fun K16 hK16=>(aU (aC (fun K17 hK17=>(aB ?_)))))))
     refine aI rfl (bJ rfl rfl aHj qO (by first | exact ixm (by omega) | assumption | exact⟨by decide,rfl⟩)) ?_
     refine aE aA 2 rfl (aD (hK17 _ (aB ?_)))
     have hj:j<rows.length:=by omega
     have e1:=congrArg List.length (hJ rows j hj)
     rw[List.length_append] at e1
     have e2:=rD rows (j+1)
     have e3:(rows[j].map stC).length=rows[j].length:=List.length_map _
     refine aE aA 2 rfl (dQ hf rfl hZ rfl rfl rfl (.inl rfl) (by simp only[List.length_map]) rfl (by first | rfl | simp [iS,bU]) (by first | (simp only[maxLen,List.length_map,List.length_append,List.length_cons,List.length_nil]; omega) | (simp [maxLen] <;> omega)) (by first | (simp only[List.length_map,List.length_append,List.length_cons,List.length_nil]; omega) | (simp <;> omega)) ?_)
     refine cB (iK [25,26,27,33] rfl) ?_
     rw[show (rows.take j).flatten.length+(rows[j].map stC).length=(rows.take (j+1)).flatten.length from by omega,← List.map_append,← hJ rows j hj]
     refine aE aA 1 rfl ?_
     refine bV ?_
     refine hK16 _ (aB ?_)
     refine aI rfl (bQ rfl rfl (by omega) (by omega)) ?_
     refine aE aA 1 rfl (aD ?_)
     exact⟨j+1,(by omega),by omega,cU rfl⟩
    ·
     simp only[bs] at hc3
     refine bI (hK12 _ (aC (fun K18 hK18=>(aB (aE aA 2 rfl (aD (hK18 _ (aM ?_))))))))
     refine⟨24,(rows.flatten.map stC),by decide,?_,?_,rfl⟩
     · rw[List.take_of_length_le (show rows.length≤j by omega)]; rfl
     · rw[List.take_of_length_le (show rows.length≤j by omega)]
       show some (AV.own 24 4 0 rows.flatten.length)=_
       rw[List.length_map]
theorem aN2 (a b:List bO) (ha:a.length≤9223372036854775807) (hb:b.length≤9223372036854775807) :Den Tryz.prog 121 [.sl 4 (a.map stC),.sl 4 (b.map stC)]  (·=.s (.bool (decide (a=b)))):=by
 refine aY Tryz.func121 rfl (Nat.le_of_ble_eq_true rfl) (fun w0 A hf=>(aC (fun K1 hK1=>(aB (aE aA 1 rfl (aD (hK1 _ (aC (fun K2 hK2=>(aC (fun K3 hK3=>(aB (aE aA 5 rfl (aD (hK3 _ (aO rfl (fun hc1=>?_) (fun hc1=>?_)))))))))))))))))
 ·
  simp only[bs] at hc1
  refine aC (fun K4 hK4=>(aB (aE aA 1 rfl (aD (hK4 _ (aM ?_))))))
  refine⟨_,rfl,?_⟩
  refine aQ ?_
  rw[sF (by omega)]
 ·
  simp only[bs] at hc1
  refine aR (hK2 _ (aC (fun K5 hK5=>(aC (fun K6 hK6=>(aB (aE aA 3 rfl (aD (hK6 _ (aU (bW (ι:=Nat) (fun k=>⟨26,[(0,.sl 4 (a.map stC)),(1,.sl 4 (b.map stC)),(12,.s (.int .i64 ((a.map stC).length:Nat))),(13,.s (.int .i64 (k:Nat)))],[]⟩) (fun k=>k≤a.length∧a.take k=b.take k) (fun k=>a.length - k) 0 ?_ ?_ ?_)))))))))))
  · exact⟨Nat.zero_le _,rfl⟩
  · exact cU rfl
  ·
   rintro k hC
   obtain ⟨h1,h2⟩:=hC
   refine aC (fun K7 hK7=>(aB (aE aA 1 rfl (aD (hK7 _ (aC (fun K8 hK8=>(aO rfl (fun hc2=>?_) (fun hc2=>?_)))))))))
   ·
    simp only[bs] at hc2
    refine aR (hK8 _ (aC (fun K9 hK9=>(aU (aC (fun K10 hK10=>(aB (aE aA 2 rfl (aD (hK10 _ (aC (fun K11 hK11=>(dE hf bK (by kernel_rfl) rfl (bC aA 2 rfl ?_))))))))))))))
    refine bN [(16,_),(17,_)] rfl rfl ⟨⟨rfl,rfl⟩,⟨rfl,rfl⟩,trivial⟩ rfl (bJ rfl rfl cE bB (by first | exact ixm (by omega) | assumption | exact⟨by decide,rfl⟩)) ?_
    refine bC aA 3 rfl ?_
    refine bN [(20,_),(21,_)] rfl rfl ⟨⟨rfl,rfl⟩,⟨rfl,rfl⟩,trivial⟩ rfl (bJ rfl rfl cE bB (by first | exact ixm (by omega) | assumption | exact⟨by decide,rfl⟩)) ?_
    refine bC aA 1 rfl (bN [(19,_),(23,_)] rfl rfl ⟨⟨rfl,rfl⟩,⟨rfl,rfl⟩,trivial⟩ rfl (aCk rfl rfl aSd rfl) ?_)
    rw[stC_eq]
    refine dC [0,1,12,13,24] rfl rfl rfl (hK11 _ (aO rfl (fun hc3=>?_) (fun hc3=>?_)))
    ·
     simp only[bs] at hc3
     refine aC (fun K12 hK12=>(aB (aE aA 1 rfl (aD (hK12 _ (aM ?_))))))
     refine⟨_,rfl,?_⟩
     refine aQ ?_
     rw[qG (by omega) (by omega) (by assumption)]
    ·
     simp only[bs] at hc3
     refine aR (hK9 _ (aB ?_))
     refine aI rfl (bQ rfl rfl (by omega) (by omega)) ?_
     refine aE aA 1 rfl (aD ?_)
     exact⟨k+1,⟨by omega,qF (by omega) (by omega) h2 (by assumption)⟩,by omega,cU rfl⟩
   ·
    simp only[bs] at hc2
    refine bI (hK5 _ (aC (fun K13 hK13=>(aB (aE aA 1 rfl (aD (hK13 _ (aM ?_))))))))
    refine⟨_,rfl,?_⟩
    refine aQ ?_
    rw[sG (by omega) (by omega) h2]
theorem aTb (a b c d:Int) :Den Tryz.prog 167 [.s (.int .i64 a),.s (.int .i64 b),.s (.int .i64 c),.s (.int .i64 d)]  (·=.agg (stC ((a,b),(c,d)))):=by
 refine aY Tryz.func167 rfl (Nat.le_of_ble_eq_true rfl) (fun w0 A hf=>(aC (fun K1 hK1=>(aB (aZ hf rfl rfl rfl dX (aD (hK1 _ (aC (fun K2 hK2=>(aB (aE aA 2 rfl (aI rfl (dD rfl wB tJ (l3 rfl) rfl) (aE aA 2 rfl (aI rfl (dD rfl dX tI (l3 rfl) rfl) (bD hf rfl rfl bB rfl rfl (l1 rfl) (l4 rfl) rfl ?_)))))))))))))))
 refine aD (hK2 _ (aM ?_))
 refine⟨_,rfl,?_⟩
 rfl
theorem aTh (s:bO) :Den Tryz.prog 100 [.agg (stC s)]  (·=.agg (stC s)):=by
 refine aY Tryz.func100 rfl (Nat.le_of_ble_eq_true rfl) (fun w0 A hf=>(aC (fun K1 hK1=>(aB (aN hf rfl (cS rfl rfl (lf rfl)) (aZ hf rfl rfl rfl dX (aD (hK1 _ (aC (fun K2 hK2=>(aB (aE aA 8 rfl (aN hf rfl (aP rfl rfl aMq rfl (aTb _ _ _ _)) (bD hf rfl rfl bB rfl rfl (l1 rfl) (l4 rfl) rfl (aD ?_)))))))))))))))
 refine hK2 _ (aM ?_)
 refine⟨_,rfl,?_⟩
 rfl
theorem aEt (a b:bO) :Den Tryz.prog 117 [.agg (stC a),.agg (stC b)]  (·=.s (.int .i64 (iU a b))):=by
 refine aY Tryz.func117 rfl (Nat.le_of_ble_eq_true rfl) (fun w0 A hf=>(aC (fun K1 hK1=>(aB (aN hf rfl (cS rfl rfl (lf rfl)) (aN hf rfl (cS rfl rfl (lf rfl)) (aE aA 1 rfl (aD (hK1 _ (aC (fun K2 hK2=>(dE hf bK (by kernel_rfl) rfl (bC aA 6 rfl (bT [(7,_),(10,_)] rfl rfl ⟨⟨rfl,rfl⟩,⟨rfl,rfl⟩,trivial⟩ rfl (aP rfl rfl nN rfl (iV _ _)) (bC aA 6 rfl ?_)))))))))))))))
 refine bT [(14,_),(17,_)] rfl rfl ⟨⟨rfl,rfl⟩,⟨rfl,rfl⟩,trivial⟩ rfl (aP rfl rfl nN rfl (iV _ _)) (bC aA 4 rfl (bT [(20,_),(22,_)] rfl rfl ⟨⟨rfl,rfl⟩,⟨rfl,rfl⟩,trivial⟩ rfl (aP rfl rfl nN rfl (iV _ _)) (bC aA 4 rfl (bT [(25,_),(27,_)] rfl rfl ⟨⟨rfl,rfl⟩,⟨rfl,rfl⟩,trivial⟩ rfl (aP rfl rfl nN rfl (iV _ _)) (bT [(11,_),(18,_),(23,_),(28,_)] rfl rfl ⟨⟨rfl,rfl⟩,⟨rfl,rfl⟩,⟨rfl,rfl⟩,⟨rfl,rfl⟩,trivial⟩ rfl (bR xX rfl rfl rfl rfl (l2 rfl)) (bT [(29,_)] rfl rfl ⟨⟨rfl,rfl⟩,trivial⟩ rfl (aP rfl rfl vI rfl (Nm.or_den [_,_,_,_] (by simp))) ?_))))))
 refine bC aA 1 rfl (dC [4] rfl rfl rfl (hK2 _ (aM ?_)))
 refine⟨_,rfl,?_⟩
 rfl
theorem aOt (a b:bO) :Den Tryz.prog 119 [.agg (stC a),.agg (stC b)]  (·=.s (.bool (decide (iU a b<0)))):=by
 refine aY Tryz.func119 rfl (Nat.le_of_ble_eq_true rfl) (fun w0 A hf=>(aC (fun K1 hK1=>(aB (aN hf rfl (cS rfl rfl (lf rfl)) (aN hf rfl (cS rfl rfl (lf rfl)) (aE aA 1 rfl (aD (hK1 _ (aC (fun K2 hK2=>(aC (fun K3 hK3=>(aB (aE aA 5 rfl (aD ?_))))))))))))))))
 refine hK3 _ (aO rfl (fun hc1=>?_) (fun hc1=>?_))
 ·
  simp only[bs] at hc1
  refine aC (fun K4 hK4=>(aB (aE aA 6 rfl (aD (hK4 _ (aM ?_))))))
  refine⟨_,rfl,?_⟩
  exact aQ (ah1 (by assumption))
 ·
  simp only[bs] at hc1
  refine aR (hK2 _ (aC (fun K5 hK5=>(aC (fun K6 hK6=>(aB (aE aA 5 rfl (aD (hK6 _ (aO rfl (fun hc2=>?_) (fun hc2=>?_)))))))))))
  ·
   simp only[bs] at hc2
   refine aC (fun K7 hK7=>(aB (aE aA 6 rfl (aD (hK7 _ (aM ?_))))))
   refine⟨_,rfl,?_⟩
   exact aQ (ah2 (by assumption) (by assumption))
  ·
   simp only[bs] at hc2
   refine aR (hK5 _ (aC (fun K8 hK8=>(aC (fun K9 hK9=>(aB (aE aA 5 rfl (aD (hK9 _ (aO rfl (fun hc3=>?_) (fun hc3=>?_)))))))))))
   ·
    simp only[bs] at hc3
    refine aC (fun K10 hK10=>(aB (aE aA 6 rfl (aD (hK10 _ (aM ?_))))))
    refine⟨_,rfl,?_⟩
    exact aQ (ah3 (by assumption) (by assumption) (by assumption))
   ·
    simp only[bs] at hc3
    refine aR (hK8 _ (aC (fun K11 hK11=>(aB (aE aA 6 rfl (aD (hK11 _ (aM ?_))))))))
    refine⟨_,rfl,?_⟩
    exact aQ (ah4 (by assumption) (by assumption) (by assumption))
theorem aLm (s:bO) (t:Int) :Den Tryz.prog 164 [.agg (stC s),.adr [.s (.int .i64 t)]]  (·=.s (.bool (decide (s.1.2≤t)))):=by
 refine aY Tryz.func164 rfl (Nat.le_of_ble_eq_true rfl) (fun w0 A hf=>(aC (fun K1 hK1=>(aB (aN hf rfl (cS rfl rfl (lf rfl)) (aE aA 1 rfl (aD (hK1 _ (aC (fun K2 hK2=>(aB (aE aA 6 rfl (aD (hK2 _ (aM ?_)))))))))))))))
 refine⟨_,rfl,?_⟩
 rfl
end Go.Proofs.YtijnkglkchhomaaGreat
namespace Go.Abs
open Go
theorem aNv {c:AV} (h:Ty (.int .i64) [c]):∃ n:Int,c=.s (.int .i64 n)∧-9223372036854775808≤n∧n≤9223372036854775807:=by
  simp only[Ty] at h
  obtain ⟨n,hx,hw⟩:=h
  simp only[List.cons.injEq,and_true] at hx
  exact⟨n,hx,wf_i64 hw⟩
theorem aSn {c:AV} (h:Ty .str [c]):∃ s:ByteArray,c=.s (.string s)∧s.size≤140737488351232:=by
  simp only[Ty] at h
  obtain ⟨s,hx,hw⟩:=h
  simp only[List.cons.injEq,and_true] at hx
  exact⟨s,hx,hw⟩
end Go.Abs
set_option linter.unusedVariables false
set_option linter.unusedSimpArgs false
namespace Go.Abs
theorem aS6 (x y:Pr):(x.1.toList == y.1.toList&&(x.2.toList == y.2.toList&&true))=decide (x=y):=by
  rw[Bool.eq_iff_iff]
  simp only[Bool.and_eq_true,beq_iff_eq,toList_inj,and_true,decide_eq_true_eq,Prod.ext_iff]
theorem enC_eq (x y:En):((x.1.1.toList == y.1.1.toList&&(x.1.2.toList == y.1.2.toList&&true))&&((x.2.1 == y.2.1&&(x.2.2 == y.2.2&&true))&&true))=decide (x=y):=by
  rw[Bool.eq_iff_iff]
  simp only[Bool.and_eq_true,beq_iff_eq,toList_inj,and_true,decide_eq_true_eq,Prod.ext_iff]
def RevI (l:List En) (n:Nat) (t:Int) (k:Nat) (out:List En):Prop :=
  k≤l.length∧∃ hn:n<l.length,(k≤n∧out=l.take k)∨(n<k∧out=l.take n++(qV l[n] t++(l.take k).drop (n+1)))
theorem RevI.start {l:List En} {n:Nat} (t:Int) (hn:n<l.length):RevI l n t 0 []:=⟨Nat.zero_le _,hn,.inl ⟨Nat.zero_le _,rfl⟩⟩
theorem RevI.len {l:List En} {n:Nat} {t:Int} {k:Nat} {out:List En} (h:RevI l n t k out):out.length≤k:=by
  obtain ⟨hk,hn,⟨h1,rfl⟩ | ⟨h1,rfl⟩⟩:=h
  · simp; omega
  · simp only[List.length_append,List.length_take,List.length_drop,qV]
    split <;> simp <;> omega
theorem RevI.keep {l:List En} {n:Nat} {t:Int} {k:Nat} {out:List En} (h:RevI l n t k out) (hk:k<l.length) (he:k=n) (ht:l[k].2.1<t):RevI l n t (k+1) (out++[(l[k].1,(l[k].2.1,t))]):=by
  subst he
  obtain ⟨_,hn,⟨h1,rfl⟩ | ⟨h1,rfl⟩⟩:=h
  · refine⟨hk,hn,.inr ⟨by omega,?_⟩⟩
    rw[qV,if_neg (by omega),List.drop_eq_nil_of_le (by simp; omega),List.append_nil]
  · omega
theorem RevI.fin {l:List En} {p:Pr} {n:Nat} {t:Int} {k:Nat} {out:List En} (h:RevI l n t k out) (hk:l.length≤k) (h1:∀ (j:Nat) (hj:j<l.length),j<n→fX p l[j]=false) (h2:∀ hn:n<l.length,fX p l[n]=true):out=jA l p t:=by
  obtain ⟨_,hn,⟨h3,rfl⟩ | ⟨h3,rfl⟩⟩:=h
  · omega
  · rw[aCj p t l n hn h1 (h2 hn),List.take_of_length_le hk]
theorem rev_set {l:List En} {p:Pr} {t:Int} {k:Nat} (hk:k<l.length) (h1:∀ (j:Nat) (hj:j<l.length),j<k→fX p l[j]=false) (h2:fX p l[k]=true) (ht:l[k].2.1<t):l.set k (l[k].1,(l[k].2.1,t))=jA l p t:=by
  rw[aCj p t l k hk h1 h2,qV,if_neg (by omega),List.set_eq_take_append_cons_drop,if_pos hk]; rfl
theorem rev_del {l:List En} {p:Pr} {t:Int} {k:Nat} {v:En} (hk:k<l.length) (h1:∀ (j:Nat) (hj:j<l.length),j<k→fX p l[j]=false) (h2:fX p l[k]=true) (ht:t≤l[k].2.1):(l.set k v).take k++(l.set k v).drop (k+1)=jA l p t:=by
  rw[aCj p t l k hk h1 h2,qV,if_pos ht,List.take_set_of_le (Nat.le_refl _),List.drop_set_of_lt (by omega)]; rfl
theorem onB_f {l:List En} {p:Pr} (h:oO (fX p) l<0):onB l p=false:=by
  rw[onB,← qB]; simp; omega
theorem aTd {l:List En} {p:Pr} {k:Nat} (hk:k<l.length) (h:fX p l[k]=true):onB l p=true:=List.any_eq_true.2 ⟨_,List.getElem_mem hk,h⟩
theorem aeq_pr {x y:Pr}:aeqL [.str,.str] (prC x) (prC y)=some (decide (x=y),[],[]):=by
  rw[← aS6]; rfl
theorem aKe {e:En} (h:e.2.2≤e.2.1∨cK e.1.1=false∨cK e.1.2=false∨(cK e.1.1&&cK e.1.2)=false):okE e=false:=by
  rcases h with h | h | h | h
  · have:decide (e.2.1<e.2.2)=false:=by simp; omega
    rw[okE,this]; rfl
  · rw[okE,h]; simp
  · rw[okE,h]; simp
  · rw[okE,h]; simp
theorem aD7 {e:En} (h:e.2.1<e.2.2) (h1:cK e.1.1=true) (h2:cK e.1.2=true):okE e=true:=by simp [okE,h,h1,h2]
theorem oT {a b:En}:aGz a b=true↔lD a b<0∧(a.1=b.1→a.2.2≤b.2.1):=by
  simp only[aGz,Bool.and_eq_true,decide_eq_true_eq,Bool.not_eq_true',Bool.and_eq_false_iff,decide_eq_false_iff_not]
  refine and_congr_right fun _=>?_
  by_cases e:a.1=b.1
  · simp only[e,not_true_eq_false,false_or,forall_const]; omega
  · simp [e]
theorem aCn {a b:En} (h:¬ lD a b<0∨(a.1=b.1∧b.2.1<a.2.2)):aGz a b=false:=by
  rw[Bool.eq_false_iff]; intro h0
  obtain ⟨h1,h2⟩:=oT.1 h0
  rcases h with h | ⟨h,h3⟩
  · omega
  · have:=h2 h; omega
theorem aHz {a b:Pr} (h1:a.1.toList=b.1.toList) (h2:a.2.toList=b.2.toList):a=b:=Prod.ext (toList_inj.1 h1) (toList_inj.1 h2)
theorem xH {a b:Pr} (h:¬ a.1.toList=b.1.toList):a≠b:=fun e=>h (by rw[e])
theorem xG {a b:Pr} (h:¬ a.2.toList=b.2.toList):a≠b:=fun e=>h (by rw[e])
end Go.Abs
set_option linter.unusedVariables false
set_option linter.unusedSimpArgs false
namespace Go.Abs
open Go Go.RowKit
variable {P:Program}
theorem fH {f:Nat} {args:List AV} {x y:AV} (h:Den P f args (·=x)) (e:x=y):Den P f args (·=y):=e ▸ h
def RisR (a b:En):Prop:=lD a b<0∧(a.1=b.1→a.2.2≤b.2.1)
theorem RisR.trans {a b c:En} (hb:okE b=true) (h1:RisR a b) (h2:RisR b c):RisR a c:=by
  refine⟨ordE_tri.lt_tr h1.1 h2.1,fun e=>?_⟩
  have hab:rX a.1 b.1≤0:=by
    have:=h1.1; rw[uO] at this; unfold uS at this; split at this <;> simp only[] at*<;> omega
  have hbc:rX b.1 c.1≤0:=by
    have:=h2.1; rw[uO] at this; unfold uS at this; split at this <;> simp only[] at*<;> omega
  have hba:rX b.1 a.1≤0:=by rw[e]; exact hbc
  have h0:rX a.1 b.1=0:=by have:=pairC_tri.swap a.1 b.1; omega
  have e1:=aDz.1 h0
  have g1:=h1.2 e1
  have g2:=h2.2 (e1 ▸ e)
  have g3:b.2.1<b.2.2:=by
    simp only[okE,Bool.and_eq_true,decide_eq_true_eq] at hb; exact hb.1
  omega
theorem pO (l:List En):qQ l=true↔(∀ x∈l,okE x=true)∧l.Pairwise RisR:=by
  rw[qQ,rW RisR (fun x y=>oT) (fun x y z hy h1 h2=>RisR.trans hy h1 h2)]
  simp
theorem aJt {l:List En} (q:En→Bool) (h:qQ l=true):qQ (l.filter q)=true:=by
  rw[pO] at *
  exact⟨fun x hx=>h.1 x (List.mem_filter.1 hx).1,h.2.filter q⟩
end Go.Abs
set_option linter.unusedVariables false
set_option linter.unusedSimpArgs false
namespace Go.Abs
abbrev Se:=(Int×ByteArray)×(Int×Int)
def seC (e:Se):List AV:=[.s (.int .i64 e.1.1),.s (.string e.1.2),.s (.int .i64 e.2.1),.s (.int .i64 e.2.2)]
abbrev se0:Se:=((0,⟨#[]⟩),(0,0))
abbrev st0:bO:=((0,0),(0,0))
theorem seC_eq (x y:Se):(x.1.1 == y.1.1&&(x.1.2.toList == y.1.2.toList&&(x.2.1 == y.2.1&&(x.2.2 == y.2.2&&true))))=decide (x=y):=by
  rw[Bool.eq_iff_iff]
  simp only[Bool.and_eq_true,beq_iff_eq,toList_inj,and_true,decide_eq_true_eq,Prod.ext_iff,and_assoc]
def tW {α:Type} (q:α→Bool) (e:α):List α→List α
  | []=>[e]
  | x::l=>if q x=true then e::x::l else x::tW q e l
theorem aH7 {α:Type} (q:α→Bool) (e:α):∀ (l:List α) (k:Nat),k≤l.length→(∀ (j:Nat) (hj:j<l.length),j<k→q l[j]=false)→(∀ (h:k<l.length),q l[k]=true)→tW q e l=l.take k++e::l.drop k
  | [],k,hk,_,_=>by
                          have:k=0:=by simpa using hk
                          subst this; rfl
  | x::l,0,_,_,h=>by have:=h (by simp); simp only[List.getElem_cons_zero] at this; simp [tW,this]
  | x::l,k+1,hk,h1,h2=>by
    have hx:=h1 0 (by simp) (by omega)
    simp only[List.getElem_cons_zero] at hx
    rw[tW,if_neg (by simp [hx]),aH7 q e l k (by simpa using hk) (fun j hj hjk=>by have:=h1 (j+1) (by simpa using hj) (by omega); simpa using this) (fun h=>by have:=h2 (by simpa using h); simpa using this)]
    rfl
theorem aEh {α:Type} (q:α→Bool) (e:α):∀ l:List α,(tW q e l).length=l.length+1
  | []=>rfl
  | x::l=>by rw[tW]; split <;> simp [aEh q e l]
theorem yT {α:Type} {q:α→Bool} {e x:α}:∀ {l:List α},x∈tW q e l↔x=e∨x∈l
  | []=>by simp [tW]
  | y::l=>by
    rw[tW]; split
    · simp
    · simp only[List.mem_cons,yT (l:=l)]
      constructor
      · rintro (h | h | h) <;> simp [h]
      · rintro (h | h | h) <;> simp [h]
def isN (n:Int) (e:Se):Bool:=decide (e.1.1=n)
def aCb (l:List Se) (n:Int):Bool:=l.any (isN n)
def xK:List Se→Int→Se
  | [],_=>se0
  | e::l,n=>if isN n e=true then e else xK l n
def fJ:List Se→Int→ByteArray→Int
  | [],_,_=>101
  | e::l,n,u=>if isN n e=true then (if e.1.2=u then 0 else 102) else fJ l n u
def tY:List Se→Int→Int→Int→List Se
  | [],_,_,_=>[]
  | e::l,n,st,t=>if isN n e=true then (e.1,(st,t))::l else e::tY l n st t
def tE:List Se→Int→List Se
  | [],_=>[]
  | e::l,n=>if isN n e=true then l else e::tE l n
def atK (l:List Se) (n:Int):Nat:=l.findIdx (isN n)
theorem oX (n:Int) (u:ByteArray) (st t:Int):∀ (l:List Se) (k:Nat) (hk:k<l.length),(∀ (j:Nat) (hj:j<l.length),j<k→isN n l[j]=false)→isN n l[k]=true →
    atK l n=k∧xK l n=l[k]∧fJ l n u=(if l[k].1.2=u then 0 else 102)∧tY l n st t=l.set k (l[k].1,(st,t))∧tE l n=l.take k++l.drop (k+1)
  | [],k,hk,_,_=>by simp at hk
  | x::l,0,_,_,h=>by
    simp only[List.getElem_cons_zero] at h
    simp [atK,xK,fJ,tY,tE,h,List.findIdx_cons]
  | x::l,k+1,hk,h1,h2=>by
    have hx:=h1 0 (by simp) (by omega)
    simp only[List.getElem_cons_zero] at hx
    obtain ⟨e1,e2,e3,e4,e5⟩:=oX n u st t l k (by simpa using hk) (fun j hj hjk=>by have:=h1 (j+1) (by simpa using hj) (by omega); simpa using this) (by simpa using h2)
    have hx':¬ isN n x=true:=by simp [hx]
    refine⟨?_,?_,?_,?_,?_⟩
    · rw[atK] at *; rw[List.findIdx_cons,hx,e1]; rfl
    · rw[xK,if_neg hx',e2]; rfl
    · rw[fJ,if_neg hx',e3]; rfl
    · rw[tY,if_neg hx',e4]; rfl
    · rw[tE,if_neg hx',e5]; rfl
theorem aIt (n:Int) (u:ByteArray):∀ (l:List Se),(∀ (j:Nat) (hj:j<l.length),isN n l[j]=false)→atK l n=l.length∧fJ l n u=101∧aCb l n=false
  | [],_=>⟨rfl,rfl,rfl⟩
  | x::l,h=>by
    have hx:=h 0 (by simp)
    simp only[List.getElem_cons_zero] at hx
    obtain ⟨e1,e2,e3⟩:=aIt n u l (fun j hj=>by have:=h (j+1) (by simpa using hj); simpa using this)
    refine⟨?_,?_,?_⟩
    · rw[atK] at *; rw[List.findIdx_cons,hx,e1]; rfl
    · rw[fJ,if_neg (by simp [hx]),e2]
    · rw[aCb] at *; rw[List.any_cons,hx,e3]; rfl
theorem aEs (l:List Se) (n:Int) (u:ByteArray):(fJ l n u=101∧aCb l n=false∧atK l n=l.length)∨(aCb l n=true∧fJ l n u≠101∧∃ k,∃ hk:k<l.length,isN n l[k]=true∧(∀ (j:Nat) (hj:j<l.length),j<k→isN n l[j]=false)∧atK l n=k∧fJ l n u=(if l[k].1.2=u then 0 else 102)):=by
  rcases eE (isN n) l with ⟨_,h⟩ | ⟨k,hk,_,h1,h2⟩
  · obtain ⟨e1,e2,e3⟩:=aIt n u l (fun j hj=>h _ (List.getElem_mem hj))
    exact .inl ⟨e2,e3,e1⟩
  · obtain ⟨e1,_,e3,_⟩:=oX n u 0 0 l k hk h2 h1
    exact .inr ⟨List.any_eq_true.2 ⟨_,List.getElem_mem hk,h1⟩,by rw[e3]; split <;> decide,k,hk,h1,h2,e1,e3⟩
theorem aIm {l:List Se} {n:Int} {u:ByteArray} (h:fJ l n u=0):∃ k,∃ hk:k<l.length,atK l n=k∧isN n l[k]=true∧l[k].1.2=u∧∀ (j:Nat) (hj:j<l.length),j<k→isN n l[j]=false:=by
  rcases aEs l n u with ⟨e,_⟩ | ⟨_,_,k,hk,h1,h2,h3,h4⟩
  · omega
  · refine⟨k,hk,h3,h1,?_,h2⟩
    rw[h4] at h
    split at h
    · assumption
    · omega
theorem aLc {l:List Se} {n:Int} {u:ByteArray}:fJ l n u=101↔aCb l n=false:=by
  rcases aEs l n u with ⟨e,h,_⟩ | ⟨e,h,_⟩
  · simp [e,h]
  · simp [e,h]
def sZ (l:List Se) (e:Se):Int:=if aCb l e.1.1=true then 100 else if 16≤l.length then 103 else 0
def kI (n:Int) (x:Se):Bool:=decide (n<x.1.1)
def yO (l:List Se) (e:Se):List Se:=tW (kI e.1.1) e l
def eW (e:Se) (t:Int):bO:=((e.2.2,t),(e.1.1,e.2.1))
def fG (e:Se):Bool:=cK e.1.2&&(decide (1≤e.1.1)&&decide (e.1.1≤999)&&(decide (1≤e.2.1)&&decide (e.2.1≤4))&&(decide (0≤e.2.2)&&decide (e.2.2≤1099511627775)))
def fY (a b:Se):Bool:=decide (a.1.1<b.1.1)
def fU (l:List Se):Bool:=mK fG fY none l&&decide (l.length≤16)
theorem iO (l:List Se):fU l=true↔((∀ x∈l,fG x=true)∧l.Pairwise fun a b=>a.1.1<b.1.1)∧l.length≤16:=by
  rw[fU,Bool.and_eq_true,decide_eq_true_eq,rW (fun a b:Se=>a.1.1<b.1.1) (fun x y=>by simp [fY]) (fun x y z _ h1 h2=>Int.lt_trans h1 h2)]
  simp
theorem opn_ris {l:List Se} {e:Se} (h:fU l=true) (he:fU [e]=true) (ho:sZ l e=0):fU (yO l e)=true:=by
  obtain ⟨⟨h1,h2⟩,h3⟩:=(iO l).1 h
  have h4:=((iO [e]).1 he).1.1 e (by simp)
  unfold sZ at ho
  split at ho
  · omega
  · rename_i hn
    split at ho
    · omega
    · rename_i h16
      refine(iO _).2 ⟨⟨fun x hx=>?_,?_⟩,by rw[yO,aEh]; omega⟩
      · rcases yT.1 hx with rfl | hx
        · exact h4
        · exact h1 x hx
      · have hne:∀ x∈l,x.1.1≠e.1.1:=fun x hx hh=>hn (List.any_eq_true.2 ⟨x,hx,by simp [isN,hh]⟩)
        clear h1 h h3 h16 ho hn
        revert h2 hne
        induction l with
        | nil=>intro _ _; exact List.pairwise_singleton _ _
        | cons x l ih =>
          intro h2 hne
          obtain ⟨q1,q2⟩:=List.pairwise_cons.1 h2
          have hx:=hne x (by simp)
          rw[yO,tW]
          split
          · rename_i hq
            simp only[kI,decide_eq_true_eq] at hq
            refine List.pairwise_cons.2 ⟨fun y hy=>?_,h2⟩
            rcases List.mem_cons.1 hy with rfl | hy
            · exact hq
            · have:=q1 y hy; omega
          · rename_i hq
            simp only[kI,decide_eq_true_eq] at hq
            refine List.pairwise_cons.2 ⟨fun y hy=>?_,ih q2 (fun y hy=>hne y (by simp [hy]))⟩
            rcases yT.1 hy with rfl | hy
            · omega
            · exact q1 y hy
def oI (u:ByteArray) (e:Se):Bool:=decide (e.1.2=u)
def lC (l:List Se) (u:ByteArray) (t:Int):List bO:=l.flatMap fun e=>if oI u e=true∧¬ t≤e.2.2 then [eW e t] else []
def gT (l:List Se) (u:ByteArray) (t:Int):List bO:=aJl (lC l u t)
theorem aQs (l:List Se) (u:ByteArray) (t:Int):(gT l u t).length≤l.length:=by
  rw[gT,aQu]
  induction l with
  | nil=>simp [lC]
  | cons e l ih =>
    have:(if oI u e=true∧¬ t≤e.2.2 then [eW e t] else []).length≤1:=by split <;> simp
    simp only[lC,List.flatMap_cons,List.length_append,List.length_cons] at *
    omega
end Go.Abs
set_option linter.unusedVariables false
set_option linter.unusedSimpArgs false
namespace Go.Abs
open Go
theorem ty_st {cs:List AV} (h:Ty (.agg [.int .i64,.int .i64,.int .i64,.int .i64]) cs):∃ s:bO,cs=stC s∧True:=by
  simp only[Ty,TyL] at h
  obtain ⟨a,b,rfl,⟨w,rfl,_⟩,a',b',rfl,⟨u,rfl,_⟩,a2,b2,rfl,⟨n,rfl,_⟩,a3,b3,rfl,⟨m,rfl,_⟩,rfl⟩:=h
  exact⟨((w,u),(n,m)),rfl,trivial⟩
theorem ty_sts {c:AV} (h:Ty (.sl 32 (.agg [.int .i64,.int .i64,.int .i64,.int .i64])) [c]):∃ l:List bO,c=.sl 4 (l.map stC)∧l.length*32≤140737488351232:=by
  simp only[Ty] at h
  obtain ⟨xs,hx,_,hl,hxs⟩:=h
  obtain ⟨l,rfl,hr⟩:=sO stC (fun _=>True) (d:=.agg [.int .i64,.int .i64,.int .i64,.int .i64]) (fun cs h=>ty_st h) (xs:=xs) (fun x hx=>by simp only[Ty]; exact hxs x hx)
  simp only[List.cons.injEq,and_true] at hx
  exact⟨l,hx,by simpa using hl⟩
end Go.Abs
set_option linter.unusedVariables false
namespace Go.Abs
open Go
theorem ty_se {cs:List AV} (h:Ty (.agg [.int .i64,.str,.int .i64,.int .i64]) cs):∃ e:Se,cs=seC e∧TS e.1.2:=by
  simp only[Ty,TyL] at h
  obtain ⟨a,b,rfl,⟨n,rfl,_⟩,a',b',rfl,⟨u,rfl,hu⟩,a2,b2,rfl,⟨w,rfl,_⟩,a3,b3,rfl,⟨m,rfl,_⟩,rfl⟩:=h
  exact⟨((n,u),(w,m)),rfl,Nat.le_trans hu (by decide)⟩
theorem ty_ses {c:AV} (h:Ty (.sl 40 (.agg [.int .i64,.str,.int .i64,.int .i64])) [c]):∃ l:List Se,c=.sl 4 (l.map seC)∧l.length*40≤140737488351232∧∀ e∈l,TS e.1.2:=by
  simp only[Ty] at h
  obtain ⟨xs,hx,_,hl,hxs⟩:=h
  obtain ⟨l,rfl,hr⟩:=sO seC (fun e=>TS e.1.2) (d:=.agg [.int .i64,.str,.int .i64,.int .i64]) (fun cs h=>ty_se h) (xs:=xs) (fun x hx=>by simp only[Ty]; exact hxs x hx)
  simp only[List.cons.injEq,and_true] at hx
  exact⟨l,hx,by simpa using hl,hr⟩
abbrev oS (l:List Se) (e:Se):List Se:=if sZ l e=0 then yO l e else []
abbrev oW (l:List Se) (n:Int) (u:ByteArray) (st t:Int):List Se:=if fJ l n u=0 then tY l n st t else []
abbrev oJ (l:List Se) (n:Int) (u:ByteArray):List Se:=if fJ l n u=0 then tE l n else []
abbrev stR (l:List Se) (n:Int) (u:ByteArray) (t:Int):bO:=if fJ l n u=0 then eW (xK l n) t else st0
theorem aQd (n st t:Int):∀ l:List Se,(tY l n st t).length=l.length
  | []=>rfl
  | e::l=>by rw[tY]; split <;> simp [aQd n st t l]
theorem aQc (n:Int):∀ l:List Se,(tE l n).length≤l.length
  | []=>Nat.le_refl _
  | e::l=>by
    rw[tE]; split
    · simp
    · have:=aQc n l; simp only[List.length_cons]; omega
theorem aD6 (l:List Se) (e:Se):(oS l e).length≤l.length+1:=by
  unfold oS; split
  · rw[yO,aEh]; omega
  · simp
theorem aEv (l:List Se) (n:Int) (u:ByteArray) (st t:Int):(oW l n u st t).length≤l.length:=by
  unfold oW; split
  · rw[aQd]; omega
  · simp
theorem aEu (l:List Se) (n:Int) (u:ByteArray):(oJ l n u).length≤l.length:=by
  unfold oJ; split
  · exact aQc n l
  · simp
theorem aTo {l:List Se} {n:Int} {u:ByteArray} {k:Nat} (hk:k<l.length) (h1:isN n l[k]=true) (h2:l[k].1.2=u) (h3:∀ (j:Nat) (hj:j<l.length),j<k→isN n l[j]=false):fJ l n u=0∧xK l n=l[k]∧l[k].1=(n,u):=by
  obtain ⟨e1,e2,e3,_⟩:=oX n u 0 0 l k hk h3 h1
  simp only[isN,decide_eq_true_eq] at h1
  exact⟨by rw[e3,if_pos h2],e2,Prod.ext h1 h2⟩
end Go.Abs
set_option linter.unusedVariables false
set_option linter.unusedSimpArgs false
namespace Go.Proofs.YtijnkglkchhomaaGreat
open Go Go.Abs
theorem pK {g:Nat} {cap:List AV} (hent:∀ args w,(callFunc g args).run Tryz.prog w=.ok (.enter g args) w) (hcl:cleanL (fun _=>false) cap=true) (p:Se→Bool) (l:List Se) (hl:l.length≤9223372036854775807) (hp:∀ x∈l,Den Tryz.prog g (.agg (seC x)::cap) (·=.s (.bool (p x)))) :Den Tryz.prog 188 [.sl 4 (l.map seC),.fn g cap]  (·=.s (.int .i64 (oO p l))):=by
 refine aY Tryz.func188 rfl (Nat.le_of_ble_eq_true rfl) (fun w0 A hf=>(aC (fun K1 hK1=>(aB (aE aA 1 rfl (aD (hK1 _ (aC (fun K2 hK2=>(aC (fun K3 hK3=>(aB (aE aA 3 rfl (aD (hK3 _ (aU ?_))))))))))))))))
 refine bW (ι:=Nat) (fun k=>⟨19,[(0,.sl 4 (l.map seC)),(1,.fn g cap),(7,.s (.int .i64 ((l.map seC).length:Nat))),(8,.s (.int .i64 (k:Nat)))],[]⟩) (fun k=>k≤l.length∧∀ (j:Nat) (hj:j<l.length),j<k→p l[j]=false) (fun k=>l.length - k) 0 ?_ ?_ ?_
 · exact⟨by omega,by omega⟩
 · exact cU rfl
 ·
  rintro k hC
  obtain ⟨h1,h2⟩:=hC
  refine aC (fun K4 hK4=>(aB (aE aA 1 rfl (aD (hK4 _ (aC (fun K5 hK5=>(aO rfl (fun hc1=>?_) (fun hc1=>?_)))))))))
  ·
   simp only[bs] at hc1
   refine aR (hK5 _ (aC (fun K6 hK6=>(aU (aC (fun K7 hK7=>(aB (aE aA 2 rfl (aD (hK7 _ (aC (fun K8 hK8=>(aB (aE aA 3 rfl ?_))))))))))))))
   refine aI rfl (bJ rfl rfl dY cX (by first | exact ixm (by omega) | assumption | exact⟨by decide,rfl⟩)) ?_
   refine aE aA 1 rfl (aN hf rfl (aP rfl rfl hent (by rw[fT,hcl]; rfl) (hp _ (List.getElem_mem _))) ?_)
   refine aD (hK8 _ (aO rfl (fun hc2=>?_) (fun hc2=>?_)))
   ·
    refine aC (fun K9 hK9=>(aB (aE aA 2 rfl (aD (hK9 _ (aM ?_))))))
    refine⟨_,rfl,?_⟩
    refine eP ?_
    rw[nG (by omega) h2 (by assumption)]
   ·
    refine aR (hK6 _ (aB ?_))
    refine aI rfl (bQ rfl rfl (by omega) (by omega)) ?_
    refine aE aA 1 rfl (aD ?_)
    exact⟨k+1,⟨by omega,fun j hj hjk=>by
      by_cases e:j=k
      · subst e; simp_all
      · exact h2 j hj (by omega)⟩,by omega,cU rfl⟩
  ·
   simp only[bs] at hc1
   refine bI (hK2 _ (aC (fun K10 hK10=>(aB (aE aA 1 rfl (aD (hK10 _ (aM ?_))))))))
   refine⟨_,rfl,?_⟩
   refine eP ?_
   rw[pF (fun j hj=>h2 j hj (by omega))]
theorem aB1 {g:Nat} {cap:List AV} (hent:∀ args w,(callFunc g args).run Tryz.prog w=.ok (.enter g args) w) (hcl:cleanL (fun _=>false) cap=true) (hcv:∀ m,convL m cap=cap) (p:Se→Bool) (l:List Se) (n:Nat) (hn:n=l.length) (hl:l.length≤9223372036854775807) (hp:∀ x∈l,Den Tryz.prog g (.agg (seC x)::cap) (·=.s (.bool (p x)))) :DenM Tryz.prog 184 [.own E0 4 0 n,.fn g cap] 4 ((l.map seC)) (fun r ys=>r=.own E0 4 0 (l.filter fun x=>!p x).length∧ys=((l.filter fun x=>!p x).map seC)):=by
 subst hn
 have hq0:∀ j,((l.take j).filter fun x=>!p x).length≤j:=fun j=>gV _ l j
 have hq1:∀ j,((l.take j).filter fun x=>!p x).length≤l.length:=fun j=>gJ _ l j
 refine gK Tryz.func184 rfl (Nat.le_of_ble_eq_true rfl) (fun w0 x0 A hf=>?_)
 refine aC (fun K1 hK1=>(aB (aI rfl (bX) (aD (hK1 _ (aC (fun K2 hK2=>(aB (aE aA 2 rfl (aN hf rfl (qW rfl rfl (by show [AV.conv _ _,AV.fn g (convL _ cap)]=_; rw[hcv,cL (g:=E0) rfl (by simp)]) vH (pK hent hcl p l hl hp) rfl) ?_))))))))))
 refine aE aA 1 rfl (aD (hK2 _ (aC (fun K3 hK3=>(aC (fun K4 hK4=>(aB (aE aA 2 rfl (aD (hK4 _ (aO rfl (fun hc1=>?_) (fun hc1=>?_))))))))))))
 ·
  simp only[bs] at hc1
  refine aC (fun K5 hK5=>(aB (aE aA 2 rfl (aD (hK5 _ (aM ?_))))))
  have hno:oO p l=-1:=by simpa using hc1
  rcases eE p l with ⟨_,hn⟩ | ⟨k,hk,e,_⟩
  · exact⟨_,.own E0 4 0 l.length,(l.map seC),Le.refl _,rfl,rfl,by rw[fS p l hn],by rw[fS p l hn]⟩
  · exfalso; omega
 ·
  simp only[bs] at hc1
  refine aR (hK3 _ (aC (fun K6 hK6=>(aC (fun K7 hK7=>(aB ?_))))))
  rcases eE p l with ⟨e0,_⟩ | ⟨k0,hk0,ek0,hpk0,hbef⟩
  · exact absurd e0 (by simpa using hc1)
  have hst:=kT (fun x=>!p x) l k0 hk0 (fun j hj hjk=>by simp [hbef j hj hjk]) (by simp [hpk0])
  rw[ek0]
  refine aE aA 1 rfl ?_
  refine aI rfl (bQ rfl rfl (by omega) (by omega)) ?_
  refine aE aA 1 rfl (aD (hK7 _ (aU (bW (ι:=Nat) (fun j=>⟨42,[(0,.own E0 4 0 l.length),(1,.fn g cap),(5,.s (.int .i64 (((l.take j).filter fun x=>!p x).length:Nat))),(6,.s (.int .i64 (j:Nat)))],[(E0,.buf 4 ((iR (fun x=>!p x) l j).map seC))]⟩) (fun j=>j≤l.length) (fun j=>l.length - j) (k0+1) ?_ ?_ ?_))))
  · exact hk0
  · rw[hst.1,hst.2]; exact jU ⟨rfl,rfl,rfl,rfl,trivial⟩
  ·
   rintro j hC
   let q:=fun x=>!p x
   have hle:((l.take j).filter q).length≤j:=hq0 j
   have hle2:((l.take j).filter fun x=>!p x).length≤j:=hq0 j
   refine aC (fun K8 hK8=>(aC (fun K9 hK9=>(aB (aE aA 4 rfl (aD (hK9 _ (aO rfl (fun hc2=>?_) (fun hc2=>?_)))))))))
   ·
    simp only[bs] at hc2
    refine aR (hK8 _ (aC (fun K10 hK10=>(aU (aC (fun K11 hK11=>(aB (aE aA 2 rfl ?_))))))))
    refine aI rfl (cF rfl rfl dY cX (by omega)) ?_
    refine aI rfl (cD rfl aSf cX rfl (qZ (c:=4) (k:=j) (enc:=seC) (by omega) (by rw[eF]; omega) rfl) (cs':=seC l[j]) (by rw[oD (c:=4) (k:=j) (enc:=seC) (by omega) (by rw[eF]; omega) rfl,pG q l j j (by omega) hle])) ?_
    refine cC hf rfl nK rfl cX rfl rfl rfl rfl (lf rfl) (aD (hK11 _ (aC (fun K12 hK12=>(aB (aE aA 2 rfl (aN hf rfl (aP rfl rfl hent (by rw[fT,hcl]; rfl) (hp _ (List.getElem_mem _))) ?_)))))))
    refine aE aA 1 rfl (aD (hK12 _ (aO rfl (fun hc3=>?_) (fun hc3=>?_))))
    ·
     simp only[bs] at hc3
     refine aC (fun K13 hK13=>(aB (aE aA 3 rfl ?_)))
     refine aI rfl (cF rfl rfl dY cX (by omega)) ?_
     refine bD hf rfl rfl cX rfl rfl (by simp [seC,AV.cells,AV.one,Value.oneCell',splice]) (by simp [seC,AV.cells,AV.leaf,Value.oneCell',splice]) (hU (c:=4) (k:=((l.take j).filter fun x=>!p x).length) (enc:=seC) (v:=l[j]) (by omega) (by rw[eF]; omega) rfl (Nat.le_refl _)) ?_
     refine aD (hK13 _ (aB ?_))
     rw[jJ (fun x=>!p x) l j (by omega) (by simp_all)]
     refine aE aA 1 rfl ?_
     refine aI rfl (bQ rfl rfl (by omega) (by omega)) ?_
     rw[lW (fun x=>!p x) l j (by omega) (by simp_all)]
     refine aE aA 1 rfl ?_
     refine bV ?_
     refine hK10 _ (aB (aE aA 1 rfl ?_))
     refine aI rfl (bQ rfl rfl (by omega) (by omega)) ?_
     refine aE aA 1 rfl (aD ?_)
     exact⟨j+1,(by omega),by omega,cU rfl⟩
    ·
     simp only[bs] at hc3
     rw[jK (fun x=>!p x) l j (by omega) (by simp_all),lX (fun x=>!p x) l j (by omega) (by simp_all)]
     refine aR (hK10 _ (aB (aE aA 1 rfl ?_)))
     refine aI rfl (bQ rfl rfl (by omega) (by omega)) ?_
     refine aE aA 1 rfl (aD ?_)
     exact⟨j+1,(by omega),by omega,cU rfl⟩
   ·
    simp only[bs] at hc2
    refine bI (hK6 _ (aC (fun K14 hK14=>(aB (aE aA 2 rfl ?_)))))
    refine aI rfl (eJ rfl dY cX rfl rfl (by omega) (by omega)) ?_
    refine vN hf jQ nK (by simp [Value.oneCell']) rfl rfl ?_
    refine aD (hK14 _ (aC (fun K15 hK15=>(aB (aE aA 2 rfl ?_)))))
    refine aI rfl (eJ rfl dY cX rfl rfl (by omega) (by omega)) ?_
    refine aE aA 1 rfl (aD (hK15 _ (aM ?_)))
    have hjl:l.length≤j:=by omega
    have he:=nJ (fun x=>!p x) l j hjl
    refine⟨_,_,_,Le.refl _,rfl,rfl,?_,?_⟩
    · rw[List.take_of_length_le hjl]; rfl
    · rw[List.take_of_length_le hjl,Nat.zero_add,Int.toNat_natCast,← List.map_take,he]
theorem iF (l:List Se) (hl:l.length*40≤140737488355328) :DenO Tryz.prog 95 [.sl 4 (l.map seC)] 4 (·=(l.map seC)):=by
 refine fP Tryz.func95 rfl (Nat.le_of_ble_eq_true rfl) (fun w0 A hf=>?_)
 refine aC (fun K1 hK1=>(aB (aI rfl (bX) (aD (hK1 _ (aC (fun K2 hK2=>(aC (fun K3 hK3=>(aB (aE aA 1 rfl ?_)))))))))))
 refine nD rfl rfl rfl dY (fun b hb1=>?_)
 refine aD (hK3 _ (aO rfl (fun hc2=>?_) (fun hc2=>?_)))
 ·
  have hl0:l=[]:=by simpa using hb1 (by assumption)
  refine aC (fun K4 hK4=>(aB (qS hf 4 rfl rfl rfl (aD (hK4 _ (aM ?_))))))
  exact⟨2,[],by decide,rfl,rfl,by rw[hl0]; rfl⟩
 ·
  refine aR (hK2 _ (aC (fun K5 hK5=>(aB (cR hf rfl rfl rfl jQ rfl rfl rfl rfl (l2 rfl) ?_)))))
  refine aE aA 1 rfl (dQ hf rfl jQ rfl rfl rfl (.inl rfl) rfl rfl (by first | rfl | simp [iS,bU]) (by first | (simp only[maxLen,List.length_map,List.length_append,List.length_cons,List.length_nil]; omega) | (simp [maxLen] <;> omega)) (by first | (simp only[List.length_map,List.length_append,List.length_cons,List.length_nil]; omega) | (simp <;> omega)) ?_)
  refine cB (iK [7] rfl) (aE aA 1 rfl (aD (hK5 _ (aM ?_))))
  refine⟨5,(l.map seC),by decide,rfl,?_,rfl⟩
  show some (AV.own 5 4 0 (0+(l.map seC).length))=_
  rw[Nat.zero_add]
theorem aQm (n:Nat) (hn:n*40≤140737488355328) :DenO Tryz.prog 210 [.s (.slice none 0 0),.s (.int .i64 (n:Nat))] 4 (·=[]):=by
 refine fP Tryz.func210 rfl (Nat.le_of_ble_eq_true rfl) (fun w0 A hf=>?_)
 refine aC (fun K1 hK1=>(aB (aI rfl (bX) (aD (hK1 _ (aC (fun K2 hK2=>(aC (fun K3 hK3=>(aB (aE aA 2 rfl (aD (hK3 _ (aO rfl (fun hc1=>?_) (fun hc1=>?_)))))))))))))))
 ·
  simp only[bs] at hc1
  omega
 ·
  simp only[bs] at hc1
  refine aR (hK2 _ (aC (fun K4 hK4=>(aC (fun K5 hK5=>(aB (aE aA 2 rfl (aI rfl (lS rfl dY) (aE aA 2 rfl ?_)))))))))
  refine aI rfl (eU rfl rfl (by omega) (by omega)) ?_
  refine aI rfl (eU rfl rfl (by omega) (by omega)) ?_
  refine aE aA 1 rfl (aD (hK5 _ (aC (fun K6 hK6=>(aB (aE aA 2 rfl (aD (hK6 _ (aO rfl (fun hc2=>?_) (fun hc2=>?_))))))))))
  ·
   simp only[bs] at hc2
   refine aB (aE aA 2 rfl (aI rfl (lS rfl dY) ?_))
   refine aI rfl (qY rfl dY cX rfl) ?_
   refine aE aA 1 rfl (vO hf rfl rfl rfl jQ Tryz.underlying3 rfl rfl (by omega) (by omega) (by simp only[maxLen]; omega) ?_)
   refine aE aA 2 rfl ?_
   refine aI rfl (eJ rfl dY cX rfl rfl (by omega) (by omega)) ?_
   refine aE aA 1 rfl (aD (hK4 _ (aC (fun K7 hK7=>(aB (aE aA 1 rfl ?_))))))
   refine aI rfl (uN rfl) ?_
   refine aD (hK7 _ (aM ?_))
   exact⟨22,[],by decide,rfl,rfl,rfl⟩
  ·
   simp only[bs] at hc2
   refine aR (hK4 _ (aC (fun K8 hK8=>(aB (aE aA 1 rfl ?_)))))
   refine aHl hf 4 rfl rfl rfl rfl ?_
   refine aD (hK8 _ (aM ?_))
   exact⟨4,[],by decide,rfl,rfl,rfl⟩
theorem uA (rows:List (List Se)) (hl:rows.length≤9223372036854775807) (hb:rows.flatten.length*40≤140737488355328) :DenO Tryz.prog 161 [.sl 1 (rows.map fun r=>[AV.sl 4 (r.map seC)])] 4 (·=(rows.flatten.map seC)):=by
 refine fP Tryz.func161 rfl (Nat.le_of_ble_eq_true rfl) (fun w0 A hf=>?_)
 refine aC (fun K1 hK1=>(aB (aI rfl (bX) (aD (hK1 _ (aC (fun K2 hK2=>(aB (aE aA 1 rfl (aD (hK2 _ (aC (fun K3 hK3=>(aC (fun K4 hK4=>(aB ?_))))))))))))))))
 refine aE aA 3 rfl (aD (hK4 _ (aU (bW (ι:=Nat) (fun k=>⟨36,[(0,.sl 1 (rows.map fun r=>[AV.sl 4 (r.map seC)])),(3,.s (.int .i64 ((rows.take k).flatten.length:Nat))),(9,.sl 1 (rows.map fun r=>[AV.sl 4 (r.map seC)])),(10,.s (.int .i64 ((rows.map fun r=>[AV.sl 4 (r.map seC)]).length:Nat))),(11,.s (.int .i64 (k:Nat)))],[]⟩) (fun k=>k≤rows.length) (fun k=>rows.length - k) 0 ?_ ?_ ?_))))
 · exact Nat.zero_le _
 · exact cU rfl
 ·
  rintro k hC
  refine aC (fun K5 hK5=>(aB (aE aA 1 rfl (aD (hK5 _ (aC (fun K6 hK6=>(aO rfl (fun hc1=>?_) (fun hc1=>?_)))))))))
  ·
   simp only[bs] at hc1
   refine aR (hK6 _ (aC (fun K7 hK7=>(aU (aC (fun K8 hK8=>(aB ?_)))))))
   refine aI rfl (bJ rfl rfl aHi jI (by first | exact ixm (by omega) | assumption | exact⟨by decide,rfl⟩)) ?_
   refine aE aA 2 rfl (aD (hK8 _ (aC (fun K9 hK9=>(aB ?_)))))
   have hk:k<rows.length:=by omega
   have e1:=congrArg List.length (hJ rows k hk)
   rw[List.length_append] at e1
   have e2:=rD rows (k+1)
   have e3:(rows[k].map seC).length=rows[k].length:=List.length_map _
   refine aE aA 3 rfl ?_
   refine aI rfl (bQ rfl rfl (by omega) (by omega)) ?_
   rw[show ((((rows.take k).flatten.length:Nat):Int)+(((rows[k].map seC).length:Nat):Int))=(((rows.take (k+1)).flatten.length:Nat):Int) from by omega]
   refine aE aA 1 rfl (aD (hK9 _ (aC (fun K10 hK10=>(aB (aE aA 2 rfl (aD (hK10 _ (aO rfl (fun hc2=>?_) (fun hc2=>?_))))))))))
   ·
    simp only[bs] at hc2
    omega
   ·
    simp only[bs] at hc2
    refine aR (hK7 _ (aB ?_))
    refine aI rfl (bQ rfl rfl (by omega) (by omega)) ?_
    refine aE aA 1 rfl (aD ?_)
    exact⟨k+1,(by omega),by omega,cU rfl⟩
  ·
   simp only[bs] at hc1
   refine bI (hK3 _ (aC (fun K11 hK11=>(aB ?_))))
   rw[List.take_of_length_le (show rows.length≤k by omega)]
   refine aE aA 1 rfl (gP hf rfl rfl rfl rfl rfl aL3 rfl (aQm rows.flatten.length (by omega)) ?_)
   rintro _ rfl
   refine aE aA 1 rfl (aD (hK11 _ (aC (fun K12 hK12=>(aC (fun K13 hK13=>(aB (aE aA 3 rfl (aD (hK13 _ (aU (bW (ι:=Nat) (fun j=>⟨36,[(6,.own 24 4 0 (rows.take j).flatten.length),(25,.sl 1 (rows.map fun r=>[AV.sl 4 (r.map seC)])),(26,.s (.int .i64 ((rows.map fun r=>[AV.sl 4 (r.map seC)]).length:Nat))),(27,.s (.int .i64 (j:Nat)))],[(24,.buf 4 ((rows.take j).flatten.map seC))]⟩) (fun j=>j≤rows.length) (fun j=>rows.length - j) 0 ?_ ?_ ?_))))))))))))
   · exact Nat.zero_le _
   · exact cU rfl
   ·
    rintro j hC
    refine aC (fun K14 hK14=>(aB (aE aA 1 rfl (aD (hK14 _ (aC (fun K15 hK15=>(aO rfl (fun hc3=>?_) (fun hc3=>?_)))))))))
    ·
     simp only[bs] at hc3
     refine aR (hK15 _ (aC (fun K16 hK16=>(aU (aC (fun K17 hK17=>(aB ?_)))))))
     refine aI rfl (bJ rfl rfl aHi jI (by first | exact ixm (by omega) | assumption | exact⟨by decide,rfl⟩)) ?_
     refine aE aA 2 rfl (aD (hK17 _ (aB ?_)))
     have hj:j<rows.length:=by omega
     have e1:=congrArg List.length (hJ rows j hj)
     rw[List.length_append] at e1
     have e2:=rD rows (j+1)
     have e3:(rows[j].map seC).length=rows[j].length:=List.length_map _
     refine aE aA 2 rfl (dQ hf rfl jQ rfl rfl rfl (.inl rfl) (by simp only[List.length_map]) rfl (by first | rfl | simp [iS,bU]) (by first | (simp only[maxLen,List.length_map,List.length_append,List.length_cons,List.length_nil]; omega) | (simp [maxLen] <;> omega)) (by first | (simp only[List.length_map,List.length_append,List.length_cons,List.length_nil]; omega) | (simp <;> omega)) ?_)
     refine cB (iK [25,26,27,33] rfl) ?_
     rw[show (rows.take j).flatten.length+(rows[j].map seC).length=(rows.take (j+1)).flatten.length from by omega,← List.map_append,← hJ rows j hj]
     refine aE aA 1 rfl ?_
     refine bV ?_
     refine hK16 _ (aB ?_)
     refine aI rfl (bQ rfl rfl (by omega) (by omega)) ?_
     refine aE aA 1 rfl (aD ?_)
     exact⟨j+1,(by omega),by omega,cU rfl⟩
    ·
     simp only[bs] at hc3
     refine bI (hK12 _ (aC (fun K18 hK18=>(aB (aE aA 2 rfl (aD (hK18 _ (aM ?_))))))))
     refine⟨24,(rows.flatten.map seC),by decide,?_,?_,rfl⟩
     · rw[List.take_of_length_le (show rows.length≤j by omega)]; rfl
     · rw[List.take_of_length_le (show rows.length≤j by omega)]
       show some (AV.own 24 4 0 rows.flatten.length)=_
       rw[List.length_map]
theorem aNt (a b:List Se) (ha:a.length≤9223372036854775807) (hb:b.length≤9223372036854775807) :Den Tryz.prog 122 [.sl 4 (a.map seC),.sl 4 (b.map seC)]  (·=.s (.bool (decide (a=b)))):=by
 refine aY Tryz.func122 rfl (Nat.le_of_ble_eq_true rfl) (fun w0 A hf=>(aC (fun K1 hK1=>(aB (aE aA 1 rfl (aD (hK1 _ (aC (fun K2 hK2=>(aC (fun K3 hK3=>(aB (aE aA 5 rfl (aD (hK3 _ (aO rfl (fun hc1=>?_) (fun hc1=>?_)))))))))))))))))
 ·
  simp only[bs] at hc1
  refine aC (fun K4 hK4=>(aB (aE aA 1 rfl (aD (hK4 _ (aM ?_))))))
  refine⟨_,rfl,?_⟩
  refine aQ ?_
  rw[sF (by omega)]
 ·
  simp only[bs] at hc1
  refine aR (hK2 _ (aC (fun K5 hK5=>(aC (fun K6 hK6=>(aB (aE aA 3 rfl (aD (hK6 _ (aU (bW (ι:=Nat) (fun k=>⟨26,[(0,.sl 4 (a.map seC)),(1,.sl 4 (b.map seC)),(12,.s (.int .i64 ((a.map seC).length:Nat))),(13,.s (.int .i64 (k:Nat)))],[]⟩) (fun k=>k≤a.length∧a.take k=b.take k) (fun k=>a.length - k) 0 ?_ ?_ ?_)))))))))))
  · exact⟨Nat.zero_le _,rfl⟩
  · exact cU rfl
  ·
   rintro k hC
   obtain ⟨h1,h2⟩:=hC
   refine aC (fun K7 hK7=>(aB (aE aA 1 rfl (aD (hK7 _ (aC (fun K8 hK8=>(aO rfl (fun hc2=>?_) (fun hc2=>?_)))))))))
   ·
    simp only[bs] at hc2
    refine aR (hK8 _ (aC (fun K9 hK9=>(aU (aC (fun K10 hK10=>(aB (aE aA 2 rfl (aD (hK10 _ (aC (fun K11 hK11=>(dE hf bK (by kernel_rfl) rfl (bC aA 2 rfl ?_))))))))))))))
    refine bN [(16,_),(17,_)] rfl rfl ⟨⟨rfl,rfl⟩,⟨rfl,rfl⟩,trivial⟩ rfl (bJ rfl rfl dY cX (by first | exact ixm (by omega) | assumption | exact⟨by decide,rfl⟩)) ?_
    refine bC aA 3 rfl ?_
    refine bN [(20,_),(21,_)] rfl rfl ⟨⟨rfl,rfl⟩,⟨rfl,rfl⟩,trivial⟩ rfl (bJ rfl rfl dY cX (by first | exact ixm (by omega) | assumption | exact⟨by decide,rfl⟩)) ?_
    refine bC aA 1 rfl (bN [(19,_),(23,_)] rfl rfl ⟨⟨rfl,rfl⟩,⟨rfl,rfl⟩,trivial⟩ rfl (aCk rfl rfl aSa rfl) ?_)
    rw[seC_eq]
    refine dC [0,1,12,13,24] rfl rfl rfl (hK11 _ (aO rfl (fun hc3=>?_) (fun hc3=>?_)))
    ·
     simp only[bs] at hc3
     refine aC (fun K12 hK12=>(aB (aE aA 1 rfl (aD (hK12 _ (aM ?_))))))
     refine⟨_,rfl,?_⟩
     refine aQ ?_
     rw[qG (by omega) (by omega) (by assumption)]
    ·
     simp only[bs] at hc3
     refine aR (hK9 _ (aB ?_))
     refine aI rfl (bQ rfl rfl (by omega) (by omega)) ?_
     refine aE aA 1 rfl (aD ?_)
     exact⟨k+1,⟨by omega,qF (by omega) (by omega) h2 (by assumption)⟩,by omega,cU rfl⟩
   ·
    simp only[bs] at hc2
    refine bI (hK5 _ (aC (fun K13 hK13=>(aB (aE aA 1 rfl (aD (hK13 _ (aM ?_))))))))
    refine⟨_,rfl,?_⟩
    refine aQ ?_
    rw[sG (by omega) (by omega) h2]
theorem wX (e:Se) (t:Int) :Den Tryz.prog 114 [.agg (seC e),.s (.int .i64 t)]  (·=.agg (stC (eW e t))):=by
 refine aY Tryz.func114 rfl (Nat.le_of_ble_eq_true rfl) (fun w0 A hf=>(aC (fun K1 hK1=>(aB (aN hf rfl (cS rfl rfl (lf rfl)) (aZ hf rfl rfl rfl dX (aD (hK1 _ (aC (fun K2 hK2=>(aB (aE aA 3 rfl (aI rfl (dD rfl wB tJ (l3 rfl) rfl) (aE aA 4 rfl (aI rfl (dD rfl dX tI (l3 rfl) rfl) ?_)))))))))))))))
 refine bD hf rfl rfl bB rfl rfl (l1 rfl) (l4 rfl) rfl (aD (hK2 _ (aM ?_)))
 refine⟨_,rfl,?_⟩
 rfl
theorem aQ8 (x e:Se) :Den Tryz.prog 199 [.agg (seC x),.adr (seC e)]  (·=.s (.bool (kI e.1.1 x))):=by
 refine aY Tryz.func199 rfl (Nat.le_of_ble_eq_true rfl) (fun w0 A hf=>(aC (fun K1 hK1=>(aB (aN hf rfl (cS rfl rfl (lf rfl)) (aE aA 1 rfl (aD (hK1 _ (aC (fun K2 hK2=>(aB (aE aA 6 rfl (aD (hK2 _ (aM ?_)))))))))))))))
 refine⟨_,rfl,?_⟩
 rfl
theorem aB3 (e:Se) (u:ByteArray) :Den Tryz.prog 185 [.agg (seC e),.adr [.s (.string u)]]  (·=.s (.bool (oI u e))):=by
 refine aY Tryz.func185 rfl (Nat.le_of_ble_eq_true rfl) (fun w0 A hf=>(aC (fun K1 hK1=>(aB (aN hf rfl (cS rfl rfl (lf rfl)) (aE aA 1 rfl (aD (hK1 _ (aC (fun K2 hK2=>(aB (aE aA 5 rfl (aD (hK2 _ (aM ?_)))))))))))))))
 refine⟨_,rfl,?_⟩
 refine aQ ?_
 unfold oI
 rw[Bool.eq_iff_iff]
 simp_all[toList_inj]
theorem wU (n a b:Int) :Den Tryz.prog 190 [.s (.int .i64 n),.s (.int .i64 a),.s (.int .i64 b)]  (·=.s (.bool (decide (a≤n)&&decide (n≤b)))):=by
 refine aY Tryz.func190 rfl (Nat.le_of_ble_eq_true rfl) (fun w0 A hf=>(aC (fun K1 hK1=>(aB (aE aA 1 rfl (aD (hK1 _ (aC (fun K2 hK2=>(aB (aE aA 4 rfl (bA rfl rfl rfl (fun hg1=>?_) (fun hg1=>?_)))))))))))))
 ·
  simp only[bs] at hg1
  refine aI rfl (fV rfl) (aE aA 4 rfl (aD (hK2 _ (aM ?_))))
  refine⟨_,rfl,?_⟩
  refine aQ ?_
  rw[Bool.eq_iff_iff]
  simp only[Bool.and_eq_true,decide_eq_true_eq,true_iff,Bool.false_eq_true,false_iff]
  omega
 ·
  simp only[bs] at hg1
  refine aE aA 4 rfl (aD (hK2 _ (aM ?_)))
  refine⟨_,rfl,?_⟩
  refine aQ ?_
  rw[Bool.eq_iff_iff]
  simp only[Bool.and_eq_true,decide_eq_true_eq,true_iff,Bool.false_eq_true,false_iff]
  omega
theorem aEz (l:List Se) (n:Int) (u:ByteArray) (hl:l.length≤9223372036854775807) :Den Tryz.prog 160 [.sl 4 (l.map seC),.s (.int .i64 n),.s (.string u)]  (·=.tup [.s (.int .i64 (atK l n:Nat)),.s (.int .i64 (fJ l n u))]):=by
 refine aY Tryz.func160 rfl (Nat.le_of_ble_eq_true rfl) (fun w0 A hf=>(aC (fun K1 hK1=>(aB (aE aA 2 rfl (aD (hK1 _ (aTz (aC (fun K2 hK2=>(aT0 (hK2 _ (aC (fun K3 hK3=>(aC (fun K4 hK4=>(aB ?_)))))))))))))))))
 refine aE aA 3 rfl (aD (hK4 _ (aU (bW (ι:=Nat) (fun k=>⟨32,[(0,.sl 4 (l.map seC)),(1,.s (.int .i64 n)),(2,.s (.string u)),(10,.sl 4 (l.map seC)),(11,.s (.int .i64 ((l.map seC).length:Nat))),(12,.s (.int .i64 (k:Nat)))],[]⟩) (fun k=>k≤l.length∧∀ (j:Nat) (hj:j<l.length),j<k→isN n l[j]=false) (fun k=>l.length - k) 0 ?_ ?_ ?_))))
 · exact⟨Nat.zero_le _,by omega⟩
 · exact cU rfl
 ·
  rintro k hC
  obtain ⟨h1,h2⟩:=hC
  refine aC (fun K5 hK5=>(aB (aE aA 1 rfl (aD (hK5 _ (aC (fun K6 hK6=>(aO rfl (fun hc1=>?_) (fun hc1=>?_)))))))))
  ·
   simp only[bs] at hc1
   refine aR (hK6 _ (aC (fun K7 hK7=>(aU (aC (fun K8 hK8=>(aB (aE aA 1 rfl ?_))))))))
   refine aI rfl (bJ rfl rfl dY cX (by first | exact ixm (by omega) | assumption | exact⟨by decide,rfl⟩)) ?_
   refine aE aA 1 rfl (aZ hf rfl rfl rfl nK (aE aA 1 rfl (bD hf rfl rfl cX rfl rfl (l1 rfl) (l4 rfl) rfl (cB (jC (nee 9) (sl':=[(0,_),(1,_),(2,_),(8,_),(9,_),(10,_),(11,_),(12,_)]) (m':=[]) ⟨⟨_,rfl,rfl⟩,⟨_,rfl,rfl⟩,⟨_,rfl,rfl⟩,⟨_,rfl,rfl⟩,⟨_,rfl,rfl⟩,⟨_,rfl,rfl⟩,⟨_,rfl,rfl⟩,⟨_,rfl,rfl⟩,trivial⟩ rfl) (aD (hK8 _ (aC (fun K9 hK9=>(aU (aC (fun K10 hK10=>(aB (aE aA 5 rfl (aD ?_))))))))))))))
   refine hK10 _ (aO rfl (fun hc2=>?_) (fun hc2=>?_))
   ·
    simp only[bs] at hc2
    refine bI (hK7 _ (aB ?_))
    refine aI rfl (bQ rfl rfl (by omega) (by omega)) ?_
    refine aE aA 1 rfl (aD ?_)
    exact⟨k+1,⟨by omega,fun j hj hjk=>by
     by_cases e:j=k
     · subst e; simp_all[isN]
     · exact h2 j hj (by omega)⟩,by omega,cU rfl⟩
   ·
    simp only[bs] at hc2
    obtain ⟨e1,_,e3,_⟩:=oX n u 0 0 l k (by omega) h2 (by simp_all[isN])
    refine aC (fun K11 hK11=>(aB (aE aA 5 rfl (aD (hK11 _ (aO rfl (fun hc3=>?_) (fun hc3=>?_)))))))
    ·
     simp only[bs] at hc3
     refine aC (fun K12 hK12=>(aB (aE aA 3 rfl (aD (hK12 _ (aM ?_))))))
     refine⟨_,rfl,?_⟩
     rw[e1,e3,if_neg (by simp_all[toList_inj])]; rfl
    ·
     simp only[bs] at hc3
     refine aR (hK9 _ (aC (fun K13 hK13=>(aB (aE aA 3 rfl (aD (hK13 _ (aM ?_))))))))
     refine⟨_,rfl,?_⟩
     rw[e1,e3,if_pos (by simp_all[toList_inj])]; rfl
  ·
   simp only[bs] at hc1
   refine bI (hK3 _ (aC (fun K14 hK14=>(aB (aE aA 4 rfl (aD (hK14 _ (aM ?_))))))))
   refine⟨_,rfl,?_⟩
   obtain ⟨e1,e2,_⟩:=aIt n u l (fun j hj=>h2 j hj (by omega))
   rw[e1,e2,List.length_map]; rfl
end Go.Proofs.YtijnkglkchhomaaGreat
set_option linter.unusedVariables false
set_option linter.unusedSimpArgs false
namespace Go.Proofs.YtijnkglkchhomaaGreat
open Go Go.Abs
end Go.Proofs.YtijnkglkchhomaaGreat
set_option linter.unusedVariables false
set_option linter.unusedSimpArgs false
namespace Go.Proofs.YtijnkglkchhomaaGreat
open Go Go.Abs
end Go.Proofs.YtijnkglkchhomaaGreat
set_option linter.unusedVariables false
set_option linter.unusedSimpArgs false
namespace Go.Proofs.YtijnkglkchhomaaGreat
open Go Go.Abs
end Go.Proofs.YtijnkglkchhomaaGreat
set_option linter.unusedVariables false
set_option linter.unusedSimpArgs false
namespace Go.Proofs.YtijnkglkchhomaaGreat.Nm
open Go Go.Abs
theorem pairRight_den (a b:ByteArray) (h1:TS a) (h2:TS b) :Den Tryz.prog 192 [.agg [.s (.string a),.s (.string b)]]  (·=.s (.bool (cK a&&cK b))):=by
 refine aY Tryz.func192 rfl (Nat.le_of_ble_eq_true rfl) (fun w0 A hf=>(aC (fun K1 hK1=>(aB (aN hf rfl (cS rfl rfl (lf rfl)) (aE aA 1 rfl (aD (hK1 _ (aC (fun K2 hK2=>(aB (aE aA 4 rfl (aN hf rfl (bR jF rfl rfl rfl rfl (l2 rfl)) (aN hf rfl (aP rfl rfl iE rfl (all_den [a,b] ⟨by simp,by simp [h1,h2]⟩)) ?_))))))))))))))
 refine aE aA 1 rfl (aD (hK2 _ (aM ?_)))
 refine⟨_,rfl,?_⟩
 refine aQ ?_
 simp
theorem pairCmp_den (a b c d:ByteArray) :Den Tryz.prog 228 [.agg [.s (.string a),.s (.string b)],.agg [.s (.string c),.s (.string d)]]  (·=.s (.int .i64 (vZ a b c d))):=by
 refine aY Tryz.func228 rfl (Nat.le_of_ble_eq_true rfl) (fun w0 A hf=>(aC (fun K1 hK1=>(aB (aN hf rfl (cS rfl rfl (lf rfl)) (aN hf rfl (cS rfl rfl (lf rfl)) (aE aA 1 rfl (aD (hK1 _ (aC (fun K2 hK2=>(dE hf bK (by kernel_rfl) rfl (bC aA 4 rfl (bT [(6,_),(8,_)] rfl rfl ⟨⟨rfl,rfl⟩,⟨rfl,rfl⟩,trivial⟩ rfl (aP rfl rfl mH rfl (cmp_den _ _)) (bC aA 4 rfl ?_)))))))))))))))
 refine bT [(11,_),(13,_)] rfl rfl ⟨⟨rfl,rfl⟩,⟨rfl,rfl⟩,trivial⟩ rfl (aP rfl rfl mH rfl (cmp_den _ _)) (bT [(9,_),(14,_)] rfl rfl ⟨⟨rfl,rfl⟩,⟨rfl,rfl⟩,trivial⟩ rfl (bR xX rfl rfl rfl rfl (l2 rfl)) (bT [(15,_)] rfl rfl ⟨⟨rfl,rfl⟩,trivial⟩ rfl (aP rfl rfl vI rfl (or_den [_,_] (by simp))) ?_))
 refine bC aA 1 rfl (dC [4] rfl rfl rfl (hK2 _ (aM ?_)))
 refine⟨_,rfl,?_⟩
 rfl
theorem pairHas_den (a b s:ByteArray) :Den Tryz.prog 187 [.agg [.s (.string a),.s (.string b)],.s (.string s)]  (·=.s (.bool (mO a b s))):=by
 refine aY Tryz.func187 rfl (Nat.le_of_ble_eq_true rfl) (fun w0 A hf=>(aC (fun K1 hK1=>(aB (aN hf rfl (cS rfl rfl (lf rfl)) (aE aA 1 rfl (aD (hK1 _ (aC (fun K2 hK2=>(aB (aE aA 5 rfl (bA rfl rfl rfl (fun hg1=>?_) (fun hg1=>?_))))))))))))))
 ·
  simp only[bs,iN,dW,List.length_cons,List.length_nil] at hg1
  refine aI rfl (bM rfl aLv cT rfl) ?_
  refine aE aA 5 rfl (aD (hK2 _ (aM ?_)))
  refine⟨_,rfl,?_⟩
  refine aQ ?_
  unfold mO
  rw[Bool.eq_iff_iff]
  simp only[Bool.or_eq_true,decide_eq_true_eq,← toList_inj,beq_iff_eq,true_iff]
  simp_all
 ·
  simp only[bs,iN,dW,List.length_cons,List.length_nil] at hg1
  refine aE aA 5 rfl (aD (hK2 _ (aM ?_)))
  refine⟨_,rfl,?_⟩
  refine aQ ?_
  unfold mO
  rw[Bool.eq_iff_iff]
  simp only[Bool.or_eq_true,decide_eq_true_eq,← toList_inj,beq_iff_eq,true_iff]
  simp_all
end Go.Proofs.YtijnkglkchhomaaGreat.Nm
set_option linter.unusedVariables false
set_option linter.unusedSimpArgs false
namespace Go.Proofs.YtijnkglkchhomaaGreat
open Go Go.Abs
theorem mT {g:Nat} {cap:List AV} (hent:∀ args w,(callFunc g args).run Tryz.prog w=.ok (.enter g args) w) (hcl:cleanL (fun _=>false) cap=true) (p:En→Bool) (l:List En) (hl:l.length≤9223372036854775807) (hp:∀ x∈l,Den Tryz.prog g (.agg (enC x)::cap) (·=.s (.bool (p x)))) :Den Tryz.prog 194 [.sl 4 (l.map enC),.fn g cap]  (·=.s (.int .i64 (oO p l))):=by
 refine aY Tryz.func194 rfl (Nat.le_of_ble_eq_true rfl) (fun w0 A hf=>(aC (fun K1 hK1=>(aB (aE aA 1 rfl (aD (hK1 _ (aC (fun K2 hK2=>(aC (fun K3 hK3=>(aB (aE aA 3 rfl (aD (hK3 _ (aU ?_))))))))))))))))
 refine bW (ι:=Nat) (fun k=>⟨19,[(0,.sl 4 (l.map enC)),(1,.fn g cap),(7,.s (.int .i64 ((l.map enC).length:Nat))),(8,.s (.int .i64 (k:Nat)))],[]⟩) (fun k=>k≤l.length∧∀ (j:Nat) (hj:j<l.length),j<k→p l[j]=false) (fun k=>l.length - k) 0 ?_ ?_ ?_
 · exact⟨by omega,by omega⟩
 · exact cU rfl
 ·
  rintro k hC
  obtain ⟨h1,h2⟩:=hC
  refine aC (fun K4 hK4=>(aB (aE aA 1 rfl (aD (hK4 _ (aC (fun K5 hK5=>(aO rfl (fun hc1=>?_) (fun hc1=>?_)))))))))
  ·
   simp only[bs] at hc1
   refine aR (hK5 _ (aC (fun K6 hK6=>(aU (aC (fun K7 hK7=>(aB (aE aA 2 rfl (aD (hK7 _ (aC (fun K8 hK8=>(aB (aE aA 3 rfl ?_))))))))))))))
   refine aI rfl (bJ rfl rfl eV dP (by first | exact ixm (by omega) | assumption | exact⟨by decide,rfl⟩)) ?_
   refine aE aA 1 rfl (aN hf rfl (aP rfl rfl hent (by rw[fT,hcl]; rfl) (hp _ (List.getElem_mem _))) ?_)
   refine aD (hK8 _ (aO rfl (fun hc2=>?_) (fun hc2=>?_)))
   ·
    refine aC (fun K9 hK9=>(aB (aE aA 2 rfl (aD (hK9 _ (aM ?_))))))
    refine⟨_,rfl,?_⟩
    refine eP ?_
    rw[nG (by omega) h2 (by assumption)]
   ·
    refine aR (hK6 _ (aB ?_))
    refine aI rfl (bQ rfl rfl (by omega) (by omega)) ?_
    refine aE aA 1 rfl (aD ?_)
    exact⟨k+1,⟨by omega,fun j hj hjk=>by
      by_cases e:j=k
      · subst e; simp_all
      · exact h2 j hj (by omega)⟩,by omega,cU rfl⟩
  ·
   simp only[bs] at hc1
   refine bI (hK2 _ (aC (fun K10 hK10=>(aB (aE aA 1 rfl (aD (hK10 _ (aM ?_))))))))
   refine⟨_,rfl,?_⟩
   refine eP ?_
   rw[pF (fun j hj=>h2 j hj (by omega))]
theorem tT {g:Nat} {cap:List AV} (hent:∀ args w,(callFunc g args).run Tryz.prog w=.ok (.enter g args) w) (hcl:cleanL (fun _=>false) cap=true) (hcv:∀ m,convL m cap=cap) (p:En→Bool) (l:List En) (n:Nat) (hn:n=l.length) (hl:l.length≤9223372036854775807) (hp:∀ x∈l,Den Tryz.prog g (.agg (enC x)::cap) (·=.s (.bool (p x)))) :DenM Tryz.prog 165 [.own E0 4 0 n,.fn g cap] 4 ((l.map enC)) (fun r ys=>r=.own E0 4 0 (l.filter fun x=>!p x).length∧ys=((l.filter fun x=>!p x).map enC)):=by
 subst hn
 have hq0:∀ j,((l.take j).filter fun x=>!p x).length≤j:=fun j=>gV _ l j
 have hq1:∀ j,((l.take j).filter fun x=>!p x).length≤l.length:=fun j=>gJ _ l j
 refine gK Tryz.func165 rfl (Nat.le_of_ble_eq_true rfl) (fun w0 x0 A hf=>?_)
 refine aC (fun K1 hK1=>(aB (aI rfl (bX) (aD (hK1 _ (aC (fun K2 hK2=>(aB (aE aA 2 rfl (aN hf rfl (qW rfl rfl (by show [AV.conv _ _,AV.fn g (convL _ cap)]=_; rw[hcv,cL (g:=E0) rfl (by simp)]) rM (mT hent hcl p l hl hp) rfl) ?_))))))))))
 refine aE aA 1 rfl (aD (hK2 _ (aC (fun K3 hK3=>(aC (fun K4 hK4=>(aB (aE aA 2 rfl (aD (hK4 _ (aO rfl (fun hc1=>?_) (fun hc1=>?_))))))))))))
 ·
  simp only[bs] at hc1
  refine aC (fun K5 hK5=>(aB (aE aA 2 rfl (aD (hK5 _ (aM ?_))))))
  have hno:oO p l=-1:=by simpa using hc1
  rcases eE p l with ⟨_,hn⟩ | ⟨k,hk,e,_⟩
  · exact⟨_,.own E0 4 0 l.length,(l.map enC),Le.refl _,rfl,rfl,by rw[fS p l hn],by rw[fS p l hn]⟩
  · exfalso; omega
 ·
  simp only[bs] at hc1
  refine aR (hK3 _ (aC (fun K6 hK6=>(aC (fun K7 hK7=>(aB ?_))))))
  rcases eE p l with ⟨e0,_⟩ | ⟨k0,hk0,ek0,hpk0,hbef⟩
  · exact absurd e0 (by simpa using hc1)
  have hst:=kT (fun x=>!p x) l k0 hk0 (fun j hj hjk=>by simp [hbef j hj hjk]) (by simp [hpk0])
  rw[ek0]
  refine aE aA 1 rfl ?_
  refine aI rfl (bQ rfl rfl (by omega) (by omega)) ?_
  refine aE aA 1 rfl (aD (hK7 _ (aU (bW (ι:=Nat) (fun j=>⟨42,[(0,.own E0 4 0 l.length),(1,.fn g cap),(5,.s (.int .i64 (((l.take j).filter fun x=>!p x).length:Nat))),(6,.s (.int .i64 (j:Nat)))],[(E0,.buf 4 ((iR (fun x=>!p x) l j).map enC))]⟩) (fun j=>j≤l.length) (fun j=>l.length - j) (k0+1) ?_ ?_ ?_))))
  · exact hk0
  · rw[hst.1,hst.2]; exact jU ⟨rfl,rfl,rfl,rfl,trivial⟩
  ·
   rintro j hC
   let q:=fun x=>!p x
   have hle:((l.take j).filter q).length≤j:=hq0 j
   have hle2:((l.take j).filter fun x=>!p x).length≤j:=hq0 j
   refine aC (fun K8 hK8=>(aC (fun K9 hK9=>(aB (aE aA 4 rfl (aD (hK9 _ (aO rfl (fun hc2=>?_) (fun hc2=>?_)))))))))
   ·
    simp only[bs] at hc2
    refine aR (hK8 _ (aC (fun K10 hK10=>(aU (aC (fun K11 hK11=>(aB (aE aA 2 rfl ?_))))))))
    refine aI rfl (cF rfl rfl eV dP (by omega)) ?_
    refine aI rfl (cD rfl aSg dP rfl (qZ (c:=4) (k:=j) (enc:=enC) (by omega) (by rw[eF]; omega) rfl) (cs':=enC l[j]) (by rw[oD (c:=4) (k:=j) (enc:=enC) (by omega) (by rw[eF]; omega) rfl,pG q l j j (by omega) hle])) ?_
    refine cC hf rfl mD rfl dP rfl rfl rfl rfl (lf rfl) (aD (hK11 _ (aC (fun K12 hK12=>(aB (aE aA 2 rfl (aN hf rfl (aP rfl rfl hent (by rw[fT,hcl]; rfl) (hp _ (List.getElem_mem _))) ?_)))))))
    refine aE aA 1 rfl (aD (hK12 _ (aO rfl (fun hc3=>?_) (fun hc3=>?_))))
    ·
     simp only[bs] at hc3
     refine aC (fun K13 hK13=>(aB (aE aA 3 rfl ?_)))
     refine aI rfl (cF rfl rfl eV dP (by omega)) ?_
     refine bD hf rfl rfl dP rfl rfl (by simp [enC,AV.cells,AV.one,Value.oneCell',splice]) (by simp [enC,AV.cells,AV.leaf,Value.oneCell',splice]) (hU (c:=4) (k:=((l.take j).filter fun x=>!p x).length) (enc:=enC) (v:=l[j]) (by omega) (by rw[eF]; omega) rfl (Nat.le_refl _)) ?_
     refine aD (hK13 _ (aB ?_))
     rw[jJ (fun x=>!p x) l j (by omega) (by simp_all)]
     refine aE aA 1 rfl ?_
     refine aI rfl (bQ rfl rfl (by omega) (by omega)) ?_
     rw[lW (fun x=>!p x) l j (by omega) (by simp_all)]
     refine aE aA 1 rfl ?_
     refine bV ?_
     refine hK10 _ (aB (aE aA 1 rfl ?_))
     refine aI rfl (bQ rfl rfl (by omega) (by omega)) ?_
     refine aE aA 1 rfl (aD ?_)
     exact⟨j+1,(by omega),by omega,cU rfl⟩
    ·
     simp only[bs] at hc3
     rw[jK (fun x=>!p x) l j (by omega) (by simp_all),lX (fun x=>!p x) l j (by omega) (by simp_all)]
     refine aR (hK10 _ (aB (aE aA 1 rfl ?_)))
     refine aI rfl (bQ rfl rfl (by omega) (by omega)) ?_
     refine aE aA 1 rfl (aD ?_)
     exact⟨j+1,(by omega),by omega,cU rfl⟩
   ·
    simp only[bs] at hc2
    refine bI (hK6 _ (aC (fun K14 hK14=>(aB (aE aA 2 rfl ?_)))))
    refine aI rfl (eJ rfl eV dP rfl rfl (by omega) (by omega)) ?_
    refine vN hf jO mD (by simp [Value.oneCell']) rfl rfl ?_
    refine aD (hK14 _ (aC (fun K15 hK15=>(aB (aE aA 2 rfl ?_)))))
    refine aI rfl (eJ rfl eV dP rfl rfl (by omega) (by omega)) ?_
    refine aE aA 1 rfl (aD (hK15 _ (aM ?_)))
    have hjl:l.length≤j:=by omega
    have he:=nJ (fun x=>!p x) l j hjl
    refine⟨_,_,_,Le.refl _,rfl,rfl,?_,?_⟩
    · rw[List.take_of_length_le hjl]; rfl
    · rw[List.take_of_length_le hjl,Nat.zero_add,Int.toNat_natCast,← List.map_take,he]
theorem nI (l:List En) (hl:l.length*48≤140737488355328) :DenO Tryz.prog 97 [.sl 4 (l.map enC)] 4 (·=(l.map enC)):=by
 refine fP Tryz.func97 rfl (Nat.le_of_ble_eq_true rfl) (fun w0 A hf=>?_)
 refine aC (fun K1 hK1=>(aB (aI rfl (bX) (aD (hK1 _ (aC (fun K2 hK2=>(aC (fun K3 hK3=>(aB (aE aA 1 rfl ?_)))))))))))
 refine nD rfl rfl rfl eV (fun b hb1=>?_)
 refine aD (hK3 _ (aO rfl (fun hc2=>?_) (fun hc2=>?_)))
 ·
  have hl0:l=[]:=by simpa using hb1 (by assumption)
  refine aC (fun K4 hK4=>(aB (qS hf 4 rfl rfl rfl (aD (hK4 _ (aM ?_))))))
  exact⟨2,[],by decide,rfl,rfl,by rw[hl0]; rfl⟩
 ·
  refine aR (hK2 _ (aC (fun K5 hK5=>(aB (cR hf rfl rfl rfl jO rfl rfl rfl rfl (l2 rfl) ?_)))))
  refine aE aA 1 rfl (dQ hf rfl jO rfl rfl rfl (.inl rfl) rfl rfl (by first | rfl | simp [iS,bU]) (by first | (simp only[maxLen,List.length_map,List.length_append,List.length_cons,List.length_nil]; omega) | (simp [maxLen] <;> omega)) (by first | (simp only[List.length_map,List.length_append,List.length_cons,List.length_nil]; omega) | (simp <;> omega)) ?_)
  refine cB (iK [7] rfl) (aE aA 1 rfl (aD (hK5 _ (aM ?_))))
  refine⟨5,(l.map enC),by decide,rfl,?_,rfl⟩
  show some (AV.own 5 4 0 (0+(l.map enC).length))=_
  rw[Nat.zero_add]
theorem aRm (n:Nat) (hn:n*48≤140737488355328) :DenO Tryz.prog 230 [.s (.slice none 0 0),.s (.int .i64 (n:Nat))] 4 (·=[]):=by
 refine fP Tryz.func230 rfl (Nat.le_of_ble_eq_true rfl) (fun w0 A hf=>?_)
 refine aC (fun K1 hK1=>(aB (aI rfl (bX) (aD (hK1 _ (aC (fun K2 hK2=>(aC (fun K3 hK3=>(aB (aE aA 2 rfl (aD (hK3 _ (aO rfl (fun hc1=>?_) (fun hc1=>?_)))))))))))))))
 ·
  simp only[bs] at hc1
  omega
 ·
  simp only[bs] at hc1
  refine aR (hK2 _ (aC (fun K4 hK4=>(aC (fun K5 hK5=>(aB (aE aA 2 rfl (aI rfl (lS rfl eV) (aE aA 2 rfl ?_)))))))))
  refine aI rfl (eU rfl rfl (by omega) (by omega)) ?_
  refine aI rfl (eU rfl rfl (by omega) (by omega)) ?_
  refine aE aA 1 rfl (aD (hK5 _ (aC (fun K6 hK6=>(aB (aE aA 2 rfl (aD (hK6 _ (aO rfl (fun hc2=>?_) (fun hc2=>?_))))))))))
  ·
   simp only[bs] at hc2
   refine aB (aE aA 2 rfl (aI rfl (lS rfl eV) ?_))
   refine aI rfl (qY rfl eV dP rfl) ?_
   refine aE aA 1 rfl (vO hf rfl rfl rfl jO Tryz.underlying3 rfl rfl (by omega) (by omega) (by simp only[maxLen]; omega) ?_)
   refine aE aA 2 rfl ?_
   refine aI rfl (eJ rfl eV dP rfl rfl (by omega) (by omega)) ?_
   refine aE aA 1 rfl (aD (hK4 _ (aC (fun K7 hK7=>(aB (aE aA 1 rfl ?_))))))
   refine aI rfl (uN rfl) ?_
   refine aD (hK7 _ (aM ?_))
   exact⟨22,[],by decide,rfl,rfl,rfl⟩
  ·
   simp only[bs] at hc2
   refine aR (hK4 _ (aC (fun K8 hK8=>(aB (aE aA 1 rfl ?_)))))
   refine aHl hf 4 rfl rfl rfl rfl ?_
   refine aD (hK8 _ (aM ?_))
   exact⟨4,[],by decide,rfl,rfl,rfl⟩
theorem aA6 (rows:List (List En)) (hl:rows.length≤9223372036854775807) (hb:rows.flatten.length*48≤140737488355328) :DenO Tryz.prog 202 [.sl 1 (rows.map fun r=>[AV.sl 4 (r.map enC)])] 4 (·=(rows.flatten.map enC)):=by
 refine fP Tryz.func202 rfl (Nat.le_of_ble_eq_true rfl) (fun w0 A hf=>?_)
 refine aC (fun K1 hK1=>(aB (aI rfl (bX) (aD (hK1 _ (aC (fun K2 hK2=>(aB (aE aA 1 rfl (aD (hK2 _ (aC (fun K3 hK3=>(aC (fun K4 hK4=>(aB ?_))))))))))))))))
 refine aE aA 3 rfl (aD (hK4 _ (aU (bW (ι:=Nat) (fun k=>⟨36,[(0,.sl 1 (rows.map fun r=>[AV.sl 4 (r.map enC)])),(3,.s (.int .i64 ((rows.take k).flatten.length:Nat))),(9,.sl 1 (rows.map fun r=>[AV.sl 4 (r.map enC)])),(10,.s (.int .i64 ((rows.map fun r=>[AV.sl 4 (r.map enC)]).length:Nat))),(11,.s (.int .i64 (k:Nat)))],[]⟩) (fun k=>k≤rows.length) (fun k=>rows.length - k) 0 ?_ ?_ ?_))))
 · exact Nat.zero_le _
 · exact cU rfl
 ·
  rintro k hC
  refine aC (fun K5 hK5=>(aB (aE aA 1 rfl (aD (hK5 _ (aC (fun K6 hK6=>(aO rfl (fun hc1=>?_) (fun hc1=>?_)))))))))
  ·
   simp only[bs] at hc1
   refine aR (hK6 _ (aC (fun K7 hK7=>(aU (aC (fun K8 hK8=>(aB ?_)))))))
   refine aI rfl (bJ rfl rfl aHg kM (by first | exact ixm (by omega) | assumption | exact⟨by decide,rfl⟩)) ?_
   refine aE aA 2 rfl (aD (hK8 _ (aC (fun K9 hK9=>(aB ?_)))))
   have hk:k<rows.length:=by omega
   have e1:=congrArg List.length (hJ rows k hk)
   rw[List.length_append] at e1
   have e2:=rD rows (k+1)
   have e3:(rows[k].map enC).length=rows[k].length:=List.length_map _
   refine aE aA 3 rfl ?_
   refine aI rfl (bQ rfl rfl (by omega) (by omega)) ?_
   rw[show ((((rows.take k).flatten.length:Nat):Int)+(((rows[k].map enC).length:Nat):Int))=(((rows.take (k+1)).flatten.length:Nat):Int) from by omega]
   refine aE aA 1 rfl (aD (hK9 _ (aC (fun K10 hK10=>(aB (aE aA 2 rfl (aD (hK10 _ (aO rfl (fun hc2=>?_) (fun hc2=>?_))))))))))
   ·
    simp only[bs] at hc2
    omega
   ·
    simp only[bs] at hc2
    refine aR (hK7 _ (aB ?_))
    refine aI rfl (bQ rfl rfl (by omega) (by omega)) ?_
    refine aE aA 1 rfl (aD ?_)
    exact⟨k+1,(by omega),by omega,cU rfl⟩
  ·
   simp only[bs] at hc1
   refine bI (hK3 _ (aC (fun K11 hK11=>(aB ?_))))
   rw[List.take_of_length_le (show rows.length≤k by omega)]
   refine aE aA 1 rfl (gP hf rfl rfl rfl rfl rfl aLz rfl (aRm rows.flatten.length (by omega)) ?_)
   rintro _ rfl
   refine aE aA 1 rfl (aD (hK11 _ (aC (fun K12 hK12=>(aC (fun K13 hK13=>(aB (aE aA 3 rfl (aD (hK13 _ (aU (bW (ι:=Nat) (fun j=>⟨36,[(6,.own 24 4 0 (rows.take j).flatten.length),(25,.sl 1 (rows.map fun r=>[AV.sl 4 (r.map enC)])),(26,.s (.int .i64 ((rows.map fun r=>[AV.sl 4 (r.map enC)]).length:Nat))),(27,.s (.int .i64 (j:Nat)))],[(24,.buf 4 ((rows.take j).flatten.map enC))]⟩) (fun j=>j≤rows.length) (fun j=>rows.length - j) 0 ?_ ?_ ?_))))))))))))
   · exact Nat.zero_le _
   · exact cU rfl
   ·
    rintro j hC
    refine aC (fun K14 hK14=>(aB (aE aA 1 rfl (aD (hK14 _ (aC (fun K15 hK15=>(aO rfl (fun hc3=>?_) (fun hc3=>?_)))))))))
    ·
     simp only[bs] at hc3
     refine aR (hK15 _ (aC (fun K16 hK16=>(aU (aC (fun K17 hK17=>(aB ?_)))))))
     refine aI rfl (bJ rfl rfl aHg kM (by first | exact ixm (by omega) | assumption | exact⟨by decide,rfl⟩)) ?_
     refine aE aA 2 rfl (aD (hK17 _ (aB ?_)))
     have hj:j<rows.length:=by omega
     have e1:=congrArg List.length (hJ rows j hj)
     rw[List.length_append] at e1
     have e2:=rD rows (j+1)
     have e3:(rows[j].map enC).length=rows[j].length:=List.length_map _
     refine aE aA 2 rfl (dQ hf rfl jO rfl rfl rfl (.inl rfl) (by simp only[List.length_map]) rfl (by first | rfl | simp [iS,bU]) (by first | (simp only[maxLen,List.length_map,List.length_append,List.length_cons,List.length_nil]; omega) | (simp [maxLen] <;> omega)) (by first | (simp only[List.length_map,List.length_append,List.length_cons,List.length_nil]; omega) | (simp <;> omega)) ?_)
     refine cB (iK [25,26,27,33] rfl) ?_
     rw[show (rows.take j).flatten.length+(rows[j].map enC).length=(rows.take (j+1)).flatten.length from by omega,← List.map_append,← hJ rows j hj]
     refine aE aA 1 rfl ?_
     refine bV ?_
     refine hK16 _ (aB ?_)
     refine aI rfl (bQ rfl rfl (by omega) (by omega)) ?_
     refine aE aA 1 rfl (aD ?_)
     exact⟨j+1,(by omega),by omega,cU rfl⟩
    ·
     simp only[bs] at hc3
     refine bI (hK12 _ (aC (fun K18 hK18=>(aB (aE aA 2 rfl (aD (hK18 _ (aM ?_))))))))
     refine⟨24,(rows.flatten.map enC),by decide,?_,?_,rfl⟩
     · rw[List.take_of_length_le (show rows.length≤j by omega)]; rfl
     · rw[List.take_of_length_le (show rows.length≤j by omega)]
       show some (AV.own 24 4 0 rows.flatten.length)=_
       rw[List.length_map]
theorem aOm (a b:List En) (ha:a.length≤9223372036854775807) (hb:b.length≤9223372036854775807) :Den Tryz.prog 123 [.sl 4 (a.map enC),.sl 4 (b.map enC)]  (·=.s (.bool (decide (a=b)))):=by
 refine aY Tryz.func123 rfl (Nat.le_of_ble_eq_true rfl) (fun w0 A hf=>(aC (fun K1 hK1=>(aB (aE aA 1 rfl (aD (hK1 _ (aC (fun K2 hK2=>(aC (fun K3 hK3=>(aB (aE aA 5 rfl (aD (hK3 _ (aO rfl (fun hc1=>?_) (fun hc1=>?_)))))))))))))))))
 ·
  simp only[bs] at hc1
  refine aC (fun K4 hK4=>(aB (aE aA 1 rfl (aD (hK4 _ (aM ?_))))))
  refine⟨_,rfl,?_⟩
  refine aQ ?_
  rw[sF (by omega)]
 ·
  simp only[bs] at hc1
  refine aR (hK2 _ (aC (fun K5 hK5=>(aC (fun K6 hK6=>(aB (aE aA 3 rfl (aD (hK6 _ (aU (bW (ι:=Nat) (fun k=>⟨26,[(0,.sl 4 (a.map enC)),(1,.sl 4 (b.map enC)),(12,.s (.int .i64 ((a.map enC).length:Nat))),(13,.s (.int .i64 (k:Nat)))],[]⟩) (fun k=>k≤a.length∧a.take k=b.take k) (fun k=>a.length - k) 0 ?_ ?_ ?_)))))))))))
  · exact⟨Nat.zero_le _,rfl⟩
  · exact cU rfl
  ·
   rintro k hC
   obtain ⟨h1,h2⟩:=hC
   refine aC (fun K7 hK7=>(aB (aE aA 1 rfl (aD (hK7 _ (aC (fun K8 hK8=>(aO rfl (fun hc2=>?_) (fun hc2=>?_)))))))))
   ·
    simp only[bs] at hc2
    refine aR (hK8 _ (aC (fun K9 hK9=>(aU (aC (fun K10 hK10=>(aB (aE aA 2 rfl (aD (hK10 _ (aC (fun K11 hK11=>(dE hf bK (by kernel_rfl) rfl (bC aA 2 rfl ?_))))))))))))))
    refine bN [(16,_),(17,_)] rfl rfl ⟨⟨rfl,rfl⟩,⟨rfl,rfl⟩,trivial⟩ rfl (bJ rfl rfl eV dP (by first | exact ixm (by omega) | assumption | exact⟨by decide,rfl⟩)) ?_
    refine bC aA 3 rfl ?_
    refine bN [(20,_),(21,_)] rfl rfl ⟨⟨rfl,rfl⟩,⟨rfl,rfl⟩,trivial⟩ rfl (bJ rfl rfl eV dP (by first | exact ixm (by omega) | assumption | exact⟨by decide,rfl⟩)) ?_
    refine bC aA 1 rfl (bN [(19,_),(23,_)] rfl rfl ⟨⟨rfl,rfl⟩,⟨rfl,rfl⟩,trivial⟩ rfl (aCk rfl rfl aSb rfl) ?_)
    rw[enC_eq]
    refine dC [0,1,12,13,24] rfl rfl rfl (hK11 _ (aO rfl (fun hc3=>?_) (fun hc3=>?_)))
    ·
     simp only[bs] at hc3
     refine aC (fun K12 hK12=>(aB (aE aA 1 rfl (aD (hK12 _ (aM ?_))))))
     refine⟨_,rfl,?_⟩
     refine aQ ?_
     rw[qG (by omega) (by omega) (by assumption)]
    ·
     simp only[bs] at hc3
     refine aR (hK9 _ (aB ?_))
     refine aI rfl (bQ rfl rfl (by omega) (by omega)) ?_
     refine aE aA 1 rfl (aD ?_)
     exact⟨k+1,⟨by omega,qF (by omega) (by omega) h2 (by assumption)⟩,by omega,cU rfl⟩
   ·
    simp only[bs] at hc2
    refine bI (hK5 _ (aC (fun K13 hK13=>(aB (aE aA 1 rfl (aD (hK13 _ (aM ?_))))))))
    refine⟨_,rfl,?_⟩
    refine aQ ?_
    rw[sG (by omega) (by omega) h2]
theorem one_den (w u:ByteArray) (f t:Int) :Den Tryz.prog 99 [.s (.string w),.s (.string u),.s (.int .i64 f),.s (.int .i64 t)]  (·=.agg (enC ((w,u),(f,t)))):=by
 refine aY Tryz.func99 rfl (Nat.le_of_ble_eq_true rfl) (fun w0 A hf=>(aC (fun K1 hK1=>(aB (aZ hf rfl rfl rfl mD (aD (hK1 _ (aC (fun K2 hK2=>(aB (aE aA 2 rfl (aI rfl (dD rfl gX mE (l3 rfl) rfl) (aE aA 2 rfl (aI rfl (dD rfl wB tJ (l3 rfl) rfl) (aI rfl (dD rfl mD aE7 (l3 rfl) rfl) ?_)))))))))))))))
 refine bD hf rfl rfl dP rfl rfl (l1 rfl) (l4 rfl) rfl (aD (hK2 _ (aM ?_)))
 refine⟨_,rfl,?_⟩
 rfl
theorem aOk (e:En) (p:Pr) :Den Tryz.prog 231 [.agg (enC e),.adr (prC p)]  (·=.s (.bool (fX p e))):=by
 refine aY Tryz.func231 rfl (Nat.le_of_ble_eq_true rfl) (fun w0 A hf=>(aC (fun K1 hK1=>(aB (aN hf rfl (cS rfl rfl (lf rfl)) (aE aA 1 rfl (aD (hK1 _ (aC (fun K2 hK2=>(aB (aE aA 3 rfl (aI rfl (iA rfl rfl aLq rfl) ?_)))))))))))))
 rw[aS6]
 refine aE aA 1 rfl (bA rfl rfl rfl (fun hg1=>?_) (fun hg1=>?_))
 ·
  simp only[bs] at hg1
  refine aI rfl (bM rfl tK mI rfl) ?_
  refine aE aA 5 rfl (aD (hK2 _ (aM ?_)))
  refine⟨_,rfl,?_⟩
  refine aQ ?_
  (simp_all[fX]; rfl)
 ·
  simp only[bs] at hg1
  refine aE aA 5 rfl (aD (hK2 _ (aM ?_)))
  refine⟨_,rfl,?_⟩
  refine aQ ?_
  (simp_all[fX]; done)
theorem aG6 (l:List En) (p:Pr) (hl:l.length≤9223372036854775807) :Den Tryz.prog 203 [.sl 4 (l.map enC),.agg (prC p)]  (·=.s (.int .i64 (oO (fX p) l))):=by
 refine aY Tryz.func203 rfl (Nat.le_of_ble_eq_true rfl) (fun w0 A hf=>(aC (fun K1 hK1=>(aB (aN hf rfl (cS rfl rfl (lf rfl)) (aE aA 1 rfl (aD (hK1 _ (aC (fun K2 hK2=>(aB (aE aA 1 rfl (aI rfl (eK rfl) (aN hf rfl (aP rfl rfl rM rfl (mT aLy rfl (fX p) l hl (fun x _=>aOk x p))) (aE aA 1 rfl ?_)))))))))))))))
 refine aD (hK2 _ (aM ?_))
 refine⟨_,rfl,?_⟩
 rfl
theorem aKt (l:List En) (p:Pr) (hl:l.length≤9223372036854775807) :Den Tryz.prog 200 [.sl 4 (l.map enC),.agg (prC p)]  (·=.s (.bool (onB l p))):=by
 refine aY Tryz.func200 rfl (Nat.le_of_ble_eq_true rfl) (fun w0 A hf=>(aC (fun K1 hK1=>(aB (aN hf rfl (cS rfl rfl (lf rfl)) (aE aA 1 rfl (aD (hK1 _ (aC (fun K2 hK2=>(aB (aE aA 2 rfl (aN hf rfl (aP rfl rfl aBo rfl (aG6 _ _ (by omega))) (aE aA 2 rfl (aD ?_)))))))))))))))
 refine hK2 _ (aM ?_)
 refine⟨_,rfl,?_⟩
 refine aQ ?_
 exact qB _ _
theorem aGx (a b:En) :Den Tryz.prog 193 [.agg (enC a),.agg (enC b)]  (·=.s (.int .i64 (lD a b))):=by
 refine aY Tryz.func193 rfl (Nat.le_of_ble_eq_true rfl) (fun w0 A hf=>(aC (fun K1 hK1=>(aB (aN hf rfl (cS rfl rfl (lf rfl)) (aN hf rfl (cS rfl rfl (lf rfl)) (aE aA 1 rfl (aD (hK1 _ (aC (fun K2 hK2=>(dE hf bK (by kernel_rfl) rfl (bC aA 4 rfl (bT [(6,_),(8,_)] rfl rfl ⟨⟨rfl,rfl⟩,⟨rfl,rfl⟩,trivial⟩ rfl (aP rfl rfl aL1 rfl (Nm.pairCmp_den _ _ _ _)) (bC aA 6 rfl ?_)))))))))))))))
 refine bT [(12,_),(15,_)] rfl rfl ⟨⟨rfl,rfl⟩,⟨rfl,rfl⟩,trivial⟩ rfl (aP rfl rfl nN rfl (iV _ _)) (bT [(9,_),(16,_)] rfl rfl ⟨⟨rfl,rfl⟩,⟨rfl,rfl⟩,trivial⟩ rfl (bR xX rfl rfl rfl rfl (l2 rfl)) (bT [(17,_)] rfl rfl ⟨⟨rfl,rfl⟩,trivial⟩ rfl (aP rfl rfl vI rfl (Nm.or_den [_,_] (by simp))) ?_))
 refine bC aA 1 rfl (dC [4] rfl rfl rfl (hK2 _ (aM ?_)))
 refine⟨_,rfl,?_⟩
 rfl
theorem aOi (x e:En) :Den Tryz.prog 201 [.agg (enC x),.adr (enC e)]  (·=.s (.bool (decide (0<lD x e)))):=by
 refine aY Tryz.func201 rfl (Nat.le_of_ble_eq_true rfl) (fun w0 A hf=>(aC (fun K1 hK1=>(aB (aN hf rfl (cS rfl rfl (lf rfl)) (aE aA 1 rfl (aD (hK1 _ (aC (fun K2 hK2=>(aB (aE aA 2 rfl (aN hf rfl (aP rfl rfl aBr rfl (aGx _ _)) (aE aA 2 rfl (aD ?_)))))))))))))))
 refine hK2 _ (aM ?_)
 refine⟨_,rfl,?_⟩
 rfl
theorem aHp (e:En) (u:ByteArray) :Den Tryz.prog 186 [.agg (enC e),.adr [.s (.string u)]]  (·=.s (.bool (lV u e))):=by
 refine aY Tryz.func186 rfl (Nat.le_of_ble_eq_true rfl) (fun w0 A hf=>(aC (fun K1 hK1=>(aB (aN hf rfl (cS rfl rfl (lf rfl)) (aE aA 1 rfl (aD (hK1 _ (aC (fun K2 hK2=>(aB (aE aA 3 rfl (aN hf rfl (aP rfl rfl aMh rfl (Nm.pairHas_den _ _ _)) (aE aA 1 rfl (aD ?_)))))))))))))))
 refine hK2 _ (aM ?_)
 refine⟨_,rfl,?_⟩
 rfl
theorem aOw (e:En) (t:Int) :Den Tryz.prog 166 [.agg (enC e),.adr [.s (.int .i64 t)]]  (·=.s (.bool (decide (e.2.2≤t)))):=by
 refine aY Tryz.func166 rfl (Nat.le_of_ble_eq_true rfl) (fun w0 A hf=>(aC (fun K1 hK1=>(aB (aN hf rfl (cS rfl rfl (lf rfl)) (aE aA 1 rfl (aD (hK1 _ (aC (fun K2 hK2=>(aB (aE aA 6 rfl (aD (hK2 _ (aM ?_)))))))))))))))
 refine⟨_,rfl,?_⟩
 rfl
end Go.Proofs.YtijnkglkchhomaaGreat
set_option linter.unusedVariables false
set_option linter.unusedSimpArgs false
namespace Go.Abs
theorem aRg {l:List En} {p:Pr} {t:Int}:(iQ l p t).length=l.length+1:=aKr _ _
theorem aJx (p:Pr) (t:Int):∀ l:List En,(jA l p t).length≤l.length
  | []=>Nat.le_refl _
  | e::l=>by
    rw[jA]; split
    · have:(qV e t).length≤1:=by unfold qV; split <;> simp
      simp only[List.length_append,List.length_cons]; omega
    · have:=aJx p t l
      simp only[List.length_cons]; omega
theorem aEd (l:List En) (p:Pr) (t:Int):(if onB l p=true then [] else iQ l p t).length≤l.length+1:=by
  split
  · simp
  · rw[aRg]; omega
theorem aEc (l:List En) (p:Pr) (t:Int):(if onB l p=true then jA l p t else []).length≤l.length:=by
  split
  · exact aJx p t l
  · simp
end Go.Abs
set_option linter.unusedVariables false
set_option linter.unusedSimpArgs false
namespace Go.Abs
abbrev Us:=ByteArray×List bO
abbrev Tm:=ByteArray×Int
def usC (x:Us):List AV:=[.s (.string x.1),.sl 4 (x.2.map stC)]
def tmC (x:Tm):List AV:=[.s (.string x.1),.s (.int .i64 x.2)]
theorem tmC_eq (x y:Tm):(x.1.toList == y.1.toList&&(x.2 == y.2&&true))=decide (x=y):=by
  rw[Bool.eq_iff_iff]
  simp only[Bool.and_eq_true,beq_iff_eq,toList_inj,and_true,decide_eq_true_eq,Prod.ext_iff,and_assoc]
structure Sta where
  now:Int
  hor:Int
  opn:List Se
  usr:List Us
  sub:List En
  tmb:List Tm
  deriving DecidableEq
def aJ:Sta:=⟨0,0,[],[],[],[]⟩
def aL (s:Sta):List AV:=[.s (.int .i64 s.now),.s (.int .i64 s.hor),.sl 4 (s.opn.map seC),.sl 2 (s.usr.map usC),.sl 4 (s.sub.map enC),.sl 2 (s.tmb.map tmC)]
def eA (s:Sta) (a b:Nat):List AV:=[.s (.int .i64 s.now),.s (.int .i64 s.hor),.sl 4 (s.opn.map seC),.own a 2 0 (s.usr.map usC).length,.sl 4 (s.sub.map enC),.own b 2 0 (s.tmb.map tmC).length]
structure SzS (n:Nat) (s:Sta):Prop where
  o:s.opn.length*40≤n
  u:s.usr.length*40≤n
  b:s.sub.length*48≤n
  t:s.tmb.length*24≤n
  y:∀ x∈s.usr,x.2.length*32≤n
theorem SzS.mono {n m:Nat} {s:Sta} (h:SzS n s) (hm:n≤m):SzS m s:=⟨Nat.le_trans h.o hm,Nat.le_trans h.u hm,Nat.le_trans h.b hm,Nat.le_trans h.t hm,fun x hx=>Nat.le_trans (h.y x hx) hm⟩
section
variable {α:Type} (key:α→ByteArray)
def isK (u:ByteArray) (x:α):Bool:=decide (key x=u)
def loK (u:ByteArray) (x:α):Bool:=decide (eG (key x) u<0)
def hiK (u:ByteArray) (x:α):Bool:=decide (0<eG (key x) u)
def dG (l:List α):Prop:=l.Pairwise fun a b=>eG (key a) (key b)<0
def zR (l:List α) (u:ByteArray) (ys:List α):List α:=l.filter (loK key u)++(ys++l.filter (hiK key u))
def dM (l:List α) (u:ByteArray):Nat:=(l.filter (loK key u)).length
def iG (l:List α) (u:ByteArray):Bool:=l.any (isK key u)
end
section
variable {α:Type} {key:α→ByteArray}
theorem qI (u:ByteArray):eG u u=0:=(tD u u).2 rfl
theorem aG9 (x u:ByteArray):(eG x u<0∧x≠u)∨x=u∨(0<eG x u∧x≠u):=by
  by_cases h:x=u
  · exact .inr (.inl h)
  · have h0:eG x u≠0:=fun e=>h ((tD x u).1 e)
    by_cases h1:eG x u<0
    · exact .inl ⟨h1,h⟩
    · exact .inr (.inr ⟨by omega,h⟩)
theorem pC {u:ByteArray}:∀ {l:List α},dG key l→l=l.filter (loK key u)++(l.filter (isK key u)++l.filter (hiK key u))∧(l.filter (isK key u)).length≤1
  | [],_=>⟨rfl,by simp⟩
  | x::l,h=>by
    obtain ⟨h1,h2⟩:=List.pairwise_cons.1 h
    obtain ⟨e1,e2⟩:=pC (u:=u) h2
    rcases aG9 (key x) u with ⟨a,b⟩ | a | ⟨a,b⟩
    · have c1:loK key u x=true:=by simp [loK,a]
      have c2:isK key u x=false:=by simp [isK,b]
      have c3:hiK key u x=false:=by simp only[hiK,decide_eq_false_iff_not]; omega
      simp only[List.filter_cons,c1,c2,c3,if_true,Bool.false_eq_true,if_false,List.cons_append]
      exact⟨by rw[← e1],e2⟩
    · have hlo:l.filter (loK key u)=[]:=List.filter_eq_nil_iff.2 fun y hy=>by
        have:=h1 y hy
        have:=pI (key x) (key y)
        rw[a] at *
        simp only[loK,decide_eq_true_eq]; omega
      have hm:l.filter (isK key u)=[]:=List.filter_eq_nil_iff.2 fun y hy=>by
        have:=h1 y hy
        rw[a] at this
        simp only[isK,decide_eq_true_eq]
        intro e
        rw[e,qI] at this
        omega
      have c1:loK key u x=false:=by simp [loK,a,qI]
      have c2:isK key u x=true:=by simp [isK,a]
      have c3:hiK key u x=false:=by simp [hiK,a,qI]
      simp only[List.filter_cons,c1,c2,c3,if_true,Bool.false_eq_true,if_false,hlo,hm] at e1 ⊢
      exact⟨by simpa using e1,by simp⟩
    · have hlo:l.filter (loK key u)=[]:=List.filter_eq_nil_iff.2 fun y hy=>by
        have:=h1 y hy
        have h3:=pI u (key x)
        have h4:=pI u (key y)
        have:=gR (a:=u) (b:=key x) (c:=key y) (by omega) this
        simp only[loK,decide_eq_true_eq]; omega
      have hm:l.filter (isK key u)=[]:=List.filter_eq_nil_iff.2 fun y hy=>by
        have:=h1 y hy
        have h3:=pI u (key x)
        have h5:=gR (a:=u) (b:=key x) (c:=key y) (by omega) this
        simp only[isK,decide_eq_true_eq]
        intro e
        rw[e,qI] at h5
        omega
      have c1:loK key u x=false:=by simp only[loK,decide_eq_false_iff_not]; omega
      have c2:isK key u x=false:=by simp [isK,b]
      have c3:hiK key u x=true:=by simp [hiK,a]
      simp only[List.filter_cons,c1,c2,c3,if_true,Bool.false_eq_true,if_false,hlo,hm] at e1 ⊢
      exact⟨by simp only[List.nil_append] at e1 ⊢; rw[← e1],by simp⟩
theorem gW {l:List α} (h:dG key l) (q:α→Bool):dG key (l.filter q):=h.filter q
theorem yG {l:List α} {u:ByteArray} {ys:List α} (h:dG key l) (hy:∀ y∈ys,key y=u) (h1:ys.length≤1):dG key (zR key l u ys):=by
  have hb:∀ x∈l.filter (loK key u),eG (key x) u<0:=fun x hx=>by have:=(List.mem_filter.1 hx).2; simpa [loK] using this
  have ha:∀ x∈l.filter (hiK key u),eG u (key x)<0:=fun x hx=>by
    have:=(List.mem_filter.1 hx).2
    have h2:=pI u (key x)
    simp only[hiK,decide_eq_true_eq] at this; omega
  refine List.pairwise_append.2 ⟨gW h _,List.pairwise_append.2 ⟨?_,gW h _,fun y hm z hz=>by rw[hy y hm]; exact ha z hz⟩,fun x hx z hz=>?_⟩
  · match ys,h1 with
    | [],_=>exact List.Pairwise.nil
    | [y],_=>exact List.pairwise_singleton _ _
  · rcases List.mem_append.1 hz with hz | hz
    · rw[hy z hz]; exact hb x hx
    · exact gR (hb x hx) (ha z hz)
theorem jT {l:List α} {u:ByteArray} {ys:List α} {x:α}:x∈zR key l u ys↔(x∈l∧key x≠u)∨x∈ys:=by
  simp only[zR,List.mem_append,List.mem_filter,loK,hiK,decide_eq_true_eq]
  constructor
  · rintro (⟨h,h1⟩ | h | ⟨h,h1⟩)
    · exact .inl ⟨h,fun e=>by rw[e,qI] at h1; omega⟩
    · exact .inr h
    · exact .inl ⟨h,fun e=>by rw[e,qI] at h1; omega⟩
  · rintro (⟨h,h1⟩ | h)
    · rcases aG9 (key x) u with ⟨a,_⟩ | a | ⟨a,_⟩
      · exact .inl ⟨h,a⟩
      · exact absurd a h1
      · exact .inr (.inr ⟨h,a⟩)
    · exact .inr (.inl h)
theorem lJ:∀ {a b:List α},dG key a→dG key b→(∀ x,x∈a↔x∈b)→a=b
  | [],[],_,_,_=>rfl
  | [],y::b,_,_,h=>absurd ((h y).2 (by simp)) (by simp)
  | x::a,[],_,_,h=>absurd ((h x).1 (by simp)) (by simp)
  | x::a,y::b,ha,hb,h=>by
    obtain ⟨a1,a2⟩:=List.pairwise_cons.1 ha
    obtain ⟨b1,b2⟩:=List.pairwise_cons.1 hb
    have irr:∀ z:α,¬ eG (key z) (key z)<0:=fun z=>by rw[qI]; omega
    have hxy:x=y:=by
      rcases List.mem_cons.1 ((h x).1 (by simp)) with e | e
      · exact e
      · rcases List.mem_cons.1 ((h y).2 (by simp)) with e' | e'
        · exact e'.symm
        · exact absurd (gR (b1 x e) (a1 y e')) (irr y)
    subst hxy
    rw[lJ a2 b2 fun z=>?_]
    have:=h z
    simp only[List.mem_cons] at this
    constructor
    · intro hz
      rcases this.1 (.inr hz) with e | e
      · subst e; exact absurd (a1 z hz) (irr z)
      · exact e
    · intro hz
      rcases this.2 (.inr hz) with e | e
      · subst e; exact absurd (b1 z hz) (irr z)
      · exact e
theorem yN (l:List α) (u:ByteArray):dM key l u≤l.length:=List.length_filter_le _ _
theorem pS {l:List α} (h:dG key l) (u:ByteArray):l.take (dM key l u)=l.filter (loK key u)∧l.drop (dM key l u)=l.filter (isK key u)++l.filter (hiK key u):=by
  have e:=(pC (u:=u) h).1
  constructor
  · have:l.take (dM key l u)=(l.filter (loK key u)++(l.filter (isK key u)++l.filter (hiK key u))).take (l.filter (loK key u)).length:=by rw[← e]; rfl
    rw[this,List.take_left]
  · have:l.drop (dM key l u)=(l.filter (loK key u)++(l.filter (isK key u)++l.filter (hiK key u))).drop (l.filter (loK key u)).length:=by rw[← e]; rfl
    rw[this,List.drop_left]
theorem aEi {l:List α} {u:ByteArray} (h:iG key l u=false):l.filter (isK key u)=[]:=by
  rw[iG,List.any_eq_false] at h
  exact List.filter_eq_nil_iff.2 h
theorem aIc {l:List α} (h:dG key l) {u:ByteArray} (hh:iG key l u=true):∃ hk:dM key l u<l.length,key (l[dM key l u])=u∧l.filter (isK key u)=[l[dM key l u]]:=by
  obtain ⟨x,hx,hxu⟩:=List.any_eq_true.1 hh
  have h1:x∈l.filter (isK key u):=List.mem_filter.2 ⟨hx,hxu⟩
  obtain ⟨e1,e2⟩:=pC (u:=u) h
  have e3:l.filter (isK key u)=[x]:=by
    match hl:l.filter (isK key u),h1,e2 with
    | [],h1,_=>cases h1
    | [y],h1,_=>rw[List.mem_singleton.1 h1]
    | y::z::r,_,e2=>simp at e2
  have hd:=(pS h u).2
  rw[e3] at hd
  have hlt:dM key l u<l.length:=by
    have:=congrArg List.length hd
    simp only[List.length_drop,List.length_append,List.length_cons,List.length_nil] at this
    omega
  have hg:l[dM key l u]=x:=by
    have:=congrArg (fun r=>r[0]?) hd
    simp only[List.getElem?_drop,Nat.add_zero,List.cons_append,List.getElem?_cons_zero] at this
    rw[List.getElem?_eq_getElem hlt] at this
    exact Option.some.inj this
  refine⟨hlt,?_,?_⟩
  · rw[hg]; simpa [isK] using hxu
  · rw[e3,hg]
theorem aJ8 {l:List α} (h:dG key l) {u:ByteArray} (hh:iG key l u=true):l.drop (dM key l u+1)=l.filter (hiK key u):=by
  obtain ⟨hk,_,e⟩:=aIc h hh
  have hd:=(pS h u).2
  rw[e] at hd
  rw[← List.drop_drop,hd]; rfl
theorem aHq {l:List α} (h:dG key l) {u:ByteArray} (hh:iG key l u=true) (y:α):l.set (dM key l u) y=zR key l u [y]:=by
  obtain ⟨hk,_,_⟩:=aIc h hh
  rw[List.set_eq_take_append_cons_drop,if_pos hk,(pS h u).1,aJ8 h hh]; rfl
theorem aP0 {l:List α} (h:dG key l) {u:ByteArray} (hh:iG key l u=false) (y:α):l.take (dM key l u)++y::l.drop (dM key l u)=zR key l u [y]:=by
  rw[(pS h u).1,(pS h u).2,aEi hh]; rfl
theorem aJn {l:List α} (h:dG key l) (u:ByteArray):l.filter (fun x=>!isK key u x)=zR key l u []:=by
  refine lJ (key:=key) (gW h _) (yG h (by simp) (by simp)) fun x=>?_
  rw[jT,List.mem_filter]
  simp [isK]
theorem has_set {l:List α} {u v:ByteArray} {ys:List α} (hy:∀ y∈ys,key y=u):iG key (zR key l u ys) v=if v=u then !ys.isEmpty else iG key l v:=by
  rw[Bool.eq_iff_iff]
  simp only[iG,List.any_eq_true,jT,isK,decide_eq_true_eq]
  by_cases hv:v=u
  · subst hv
    rw[if_pos rfl]
    constructor
    · rintro ⟨x,⟨_,h⟩ | h,e⟩
      · exact absurd e h
      · cases ys with
        | nil=>cases h
        | cons y r=>rfl
    · intro h
      cases ys with
      | nil=>cases h
      | cons y r=>exact⟨y,.inr (by simp),hy y (by simp)⟩
  · rw[if_neg hv,List.any_eq_true]
    constructor
    · rintro ⟨x,⟨h,_⟩ | h,e⟩
      · exact⟨x,h,by simp [isK,e]⟩
      · exact absurd ((hy x h).symm.trans e).symm hv
    · rintro ⟨x,h,e⟩
      have e':key x=v:=by simpa [isK] using e
      exact⟨x,.inl ⟨h,by rw[e']; exact hv⟩,e'⟩
end
abbrev cM:Us→ByteArray:=Prod.fst
abbrev dH:Tm→ByteArray:=Prod.fst
def ofU (l:List Us) (u:ByteArray):List bO:=((l.find? (isK cM u)).map Prod.snd).getD []
def nA (u:ByteArray) (ys:List bO):List Us:=if ys=[] then [] else [(u,ys)]
def kP (l:List Us) (u:ByteArray) (ys:List bO):List Us:=zR cM l u (nA u ys)
theorem aDl {u:ByteArray} {ys:List bO}:∀ y∈nA u ys,cM y=u:=by
  intro y hy; unfold nA at hy; split at hy
  · cases hy
  · rw[List.mem_singleton.1 hy]
theorem aDk {u:ByteArray} {ys:List bO}:(nA u ys).length≤1:=by unfold nA; split <;> simp
theorem rU {l:List Us} {u:ByteArray} {ys:List bO} (h:dG cM l):dG cM (kP l u ys):=yG h aDl aDk
theorem oG {l:List Us} {u:ByteArray} (h:iG cM l u=false):ofU l u=[]:=by
  rw[iG,List.any_eq_false] at h
  rw[ofU,List.find?_eq_none.2 h]; rfl
theorem aCm {l:List Us} (h:dG cM l) {x:Us} (hx:x∈l):ofU l x.1=x.2:=by
  have:l.find? (isK cM x.1)=some x:=by
    have hs:(l.find? (isK cM x.1)).isSome=true:=List.find?_isSome.2 ⟨x,hx,by simp [isK]⟩
    obtain ⟨y,hy⟩:=Option.isSome_iff_exists.1 hs
    have h1:=List.mem_of_find?_eq_some hy
    have h2:=List.find?_some hy
    simp only[isK,decide_eq_true_eq] at h2
    rw[hy]
    have e:=(pC (u:=x.1) h).2
    have m1:x∈l.filter (isK cM x.1):=List.mem_filter.2 ⟨hx,by simp [isK]⟩
    have m2:y∈l.filter (isK cM x.1):=List.mem_filter.2 ⟨h1,by simp [isK,h2]⟩
    match hl:l.filter (isK cM x.1),m1,m2,e with
    | [z],m1,m2,_=>rw[List.mem_singleton.1 m1,List.mem_singleton.1 m2]
    | z::z'::r,_,_,e=>simp at e
  rw[ofU,this]; rfl
theorem xF {l:List Us} (h:dG cM l) {u:ByteArray} (hh:iG cM l u=true):∃ hk:dM cM l u<l.length,l[dM cM l u]=(u,ofU l u):=by
  obtain ⟨hk,e,_⟩:=aIc h hh
  have:=aCm h (List.getElem_mem hk)
  have e':l[dM cM l u].1=u:=e
  rw[e'] at this
  exact⟨hk,Prod.ext e' this.symm⟩
theorem kO {l:List Us} (h:dG cM l) {u v:ByteArray} {ys:List bO}:ofU (kP l u ys) v=if v=u then ys else ofU l v:=by
  by_cases hh:iG cM (kP l u ys) v=true
  · obtain ⟨hk,e⟩:=xF (rU h) hh
    have hm:=List.getElem_mem hk
    rw[e,kP,jT] at hm
    by_cases hv:v=u
    · subst hv
      rw[if_pos rfl]
      rcases hm with ⟨_,h2⟩ | hm
      · exact absurd rfl h2
      · unfold nA at hm
        split at hm
        · cases hm
        · have:=(Prod.ext_iff.1 (List.mem_singleton.1 hm)).2
          simpa [kP,nA, *] using this
    · rw[if_neg hv]
      rcases hm with ⟨h1,_⟩ | hm
      · exact(aCm h h1).symm
      · exact absurd (aDl _ hm) hv
  · have hf:=Bool.eq_false_iff.2 hh
    rw[oG hf]
    rw[kP,has_set aDl] at hf
    by_cases hv:v=u
    · rw[if_pos hv] at hf ⊢
      unfold nA at hf
      split at hf
      · rename_i e; exact e.symm
      · simp at hf
    · rw[if_neg hv] at hf ⊢
      exact(oG hf).symm
def kH (l:List Us) (u:ByteArray) (x:bO):List Us:=if x.1.2≤x.1.1 then l else kP l u (jE (ofU l u) x)
def mL (l:List Tm) (u:ByteArray) (t:Int):List Tm:=zR dH l u [(u,t)]
def eD (s:Sta) (x:bO):Bool:=!(s.opn.any fun e=>decide (e.1.1=x.2.1)&&decide (e.2.2<x.1.2))&&(decide (0≤x.1.1)&&(decide (x.1.2≤s.now)&&(decide (1≤x.2.1)&&(decide (x.2.1≤999)&&(decide (1≤x.2.2)&&decide (x.2.2≤4))))))
def lA (s:Sta) (x:Us):Bool:=!x.2.isEmpty&&(tV x.2&&x.2.all (eD s))
def jG (s:Sta) (e:En):Bool:=decide (0≤e.2.1)&&(decide (e.2.1≤s.now)&&(decide (e.2.2≤s.now)||decide (e.2.2=1099511627776)))
def pV (s:Sta) (x:Tm):Bool:=decide (0≤x.2)&&decide (x.2≤s.now)
def nxK {α:Type} (key:α→ByteArray) (a b:α):Bool:=decide (eG (key a) (key b)<0)
def nB {α:Type} (key:α→ByteArray) (l:List α):Bool:=mK (fun x=>cK (key x)) (nxK key) none l
def fM (s:Sta):Bool:=decide (0≤s.now)&&(decide (s.now<1099511627776)&&(decide (0≤s.hor)&&(decide (s.hor<1099511627776)&&(fU s.opn&&(s.opn.all (fun e=>decide (e.2.2≤s.now))&&(nB cM s.usr&&(s.usr.all (lA s)&&(qQ s.sub&&(s.sub.all (jG s)&&(nB dH s.tmb&&s.tmb.all (pV s)))))))))))
theorem aSx {α:Type} {key:α→ByteArray} (l:List α):nB key l=true↔(∀ x∈l,cK (key x)=true)∧dG key l:=by
  rw[nB,rW (fun a b=>eG (key a) (key b)<0) (fun x y=>by simp [nxK]) (fun x y z _ h1 h2=>gR h1 h2)]
  simp [dG]
structure RightP (s:Sta):Prop where
  n0:0≤s.now
  n1:s.now<1099511627776
  h0:0≤s.hor
  h1:s.hor<1099511627776
  opn:fU s.opn=true
  late:∀ e∈s.opn,e.2.2≤s.now
  unm:∀ x∈s.usr,cK x.1=true
  usr:dG cM s.usr
  uok:∀ x∈s.usr,lA s x=true
  sub:qQ s.sub=true
  sok:∀ e∈s.sub,jG s e=true
  tnm:∀ x∈s.tmb,cK x.1=true
  tmb:dG dH s.tmb
  tok:∀ x∈s.tmb,pV s x=true
theorem iP {s:Sta}:fM s=true↔RightP s:=by
  simp only[fM,Bool.and_eq_true,decide_eq_true_eq,List.all_eq_true,aSx]
  constructor
  · rintro ⟨a,b,c,d,e,f,⟨g,g'⟩,h,i,j,⟨k,k'⟩,l⟩
    exact⟨a,b,c,d,e,f,g,g',h,i,j,k,k',l⟩
  · rintro ⟨a,b,c,d,e,f,g,g',h,i,j,k,k',l⟩
    exact⟨a,b,c,d,e,f,⟨g,g'⟩,h,i,j,⟨k,k'⟩,l⟩
structure Ev where
  kind:Int
  at':Int
  user:ByteArray
  other:ByteArray
  n:Int
  st:Int
  deriving DecidableEq
def evC (e:Ev):List AV:=[.s (.int .i64 e.kind),.s (.int .i64 e.at'),.s (.string e.user),.s (.string e.other),.s (.int .i64 e.n),.s (.int .i64 e.st)]
abbrev bs0:ByteArray:=⟨#[]⟩
def eH (e:Ev):Bool:=decide (1≤e.n)&&(decide (e.n≤999)&&(cK e.user&&decide (e.other=bs0)))
def cH (e:Ev):Bool:=decide (0≤e.at')&&(decide (e.at'<1099511627776)&&(
  if e.kind=1∨e.kind=2 then eH e&&(decide (1≤e.st)&&decide (e.st≤4))
  else if e.kind=3 then eH e&&decide (e.st=0)
  else if e.kind=4∨e.kind=5 then cK e.user&&(cK e.other&&(decide (e.n=0)&&decide (e.st=0)))
  else if e.kind=6 then decide (e.user=bs0)&&(decide (e.other=bs0)&&(decide (e.st=0)&&(decide (0≤e.n)&&decide (e.n<1099511627776))))
  else if e.kind=7 then cK e.user&&(decide (e.other=bs0)&&(decide (e.n=0)&&decide (e.st=0)))
  else false))
def fO (s:Sta) (u:ByteArray) (t:Int):Sta:=⟨s.now,s.hor,s.opn.filter (fun e=>!oI u e),kP s.usr u [],s.sub.filter (fun e=>!lV u e),mL s.tmb u t⟩
def bL (s:Sta) (e:Ev):Sta×Int :=
  if e.kind=1 then ({ s with opn:=oS s.opn ((e.n,e.user),(e.st,e.at')) },sZ s.opn ((e.n,e.user),(e.st,e.at')))
  else if e.kind=2 then ({ s with opn:=oW s.opn e.n e.user e.st e.at',usr:=kH s.usr e.user (stR s.opn e.n e.user e.at') },fJ s.opn e.n e.user)
  else if e.kind=3 then ({ s with opn:=oJ s.opn e.n e.user,usr:=kH s.usr e.user (stR s.opn e.n e.user e.at') },fJ s.opn e.n e.user)
  else if e.kind=4 then ({ s with sub:=if onB s.sub (e.user,e.other)=true then [] else iQ s.sub (e.user,e.other) e.at' },if onB s.sub (e.user,e.other)=true then 90 else 0)
  else if e.kind=5 then ({ s with sub:=if onB s.sub (e.user,e.other)=true then jA s.sub (e.user,e.other) e.at' else [] },if onB s.sub (e.user,e.other)=true then 0 else 91)
  else if e.kind=6 then ({ s with hor:=max s.hor e.n },0)
  else (fO s e.user e.at',0)
def cG (s:Sta) (e:Ev):Sta×Int :=
  if cH e=true then (if e.at'<s.now then (aJ,111) else (if (bL s e).2=0 then ({ (bL s e).1 with now:=e.at' },0) else (aJ,(bL s e).2))) else (aJ,110)
def xB (s:Sta) (l:List Se) (us:List Us):List Us:=l.foldl (fun us e=>kH us e.1.2 (eW e s.now)) us
def kZ (s:Sta):Sta:={ s with opn:=[],usr:=xB s s.opn s.usr }
def mW (h:Int) (l:List bO):List bO:=l.filter fun x=>!decide (x.1.2≤h)
def lK (h:Int) (l:List Us):List Us:=l.flatMap fun x=>nA x.1 (mW h x.2)
def pR (s:Sta):Sta:={ s with usr:=lK s.hor s.usr,sub:=s.sub.filter fun e=>!decide (e.2.2≤s.hor) }
def aC6 (s:Sta) (u:ByteArray) (t:Int):List bO:=(gT s.opn u t).foldl jE (ofU s.usr u)
def aAe (s:Sta) (u:ByteArray):Bool:=iG dH s.tmb u||(iG cM s.usr u||(s.opn.any (oI u)||s.sub.any (lV u)))
def fA (l:List Us):Nat:=(l.map fun x=>x.2.length).sum
def dJ (s:Sta):Nat:=s.opn.length+s.sub.length+s.tmb.length+fA s.usr
section
variable {α:Type} {key:α→ByteArray}
def BsI (l:List α) (key:α→ByteArray) (u:ByteArray) (i j:Nat):Prop:=i≤j∧j≤l.length∧(∀ (q:Nat) (hq:q<l.length),q<i→eG (key l[q]) u<0)∧(∀ (q:Nat) (hq:q<l.length),j≤q→¬ eG (key l[q]) u<0)
theorem BsI.start (l:List α) (u:ByteArray):BsI l key u 0 l.length:=⟨Nat.zero_le _,Nat.le_refl _,fun _ _ h=>absurd h (Nat.not_lt_zero _),fun q hq h=>absurd hq (by omega)⟩
theorem BsI.lo {l:List α} {u:ByteArray} {i j m:Nat} (h:BsI l key u i j) (hr:dG key l) (h1:i≤m) (h2:m<j) (hm:m<l.length) (hc:eG (key l[m]) u<0):BsI l key u (m+1) j:=by
  refine⟨h2,h.2.1,fun q hq hqm=>?_,h.2.2.2⟩
  by_cases e:q=m
  · subst e; exact hc
  · exact gR (List.pairwise_iff_getElem.1 hr q m hq hm (by omega)) hc
theorem BsI.hi {l:List α} {u:ByteArray} {i j m:Nat} (h:BsI l key u i j) (hr:dG key l) (h1:i≤m) (h2:m<j) (hm:m<l.length) (hc:¬ eG (key l[m]) u<0):BsI l key u i m:=by
  refine⟨h1,by have:=h.2.1; omega,h.2.2.1,fun q hq hqm=>?_⟩
  by_cases e:q=m
  · subst e; exact hc
  · have h3:=List.pairwise_iff_getElem.1 hr m q hm hq (by omega)
    intro h4
    exact hc (gR h3 h4)
theorem BsI.fin {l:List α} {u:ByteArray} {i j:Nat} (h:BsI l key u i j) (hr:dG key l) (hij:j≤i):dM key l u=i∧iG key l u=(decide (i<l.length)&&decide (∃ hi:i<l.length,eG (key l[i]) u=0)):=by
  have e:i=j:=by have:=h.1; omega
  subst e
  obtain ⟨_,h1,h2,h3⟩:=h
  have hp:l.filter (loK key u)=l.take i:=by
    conv=>lhs; rw[← List.take_append_drop i l]
    rw[List.filter_append]
    have a:(l.take i).filter (loK key u)=l.take i:=List.filter_eq_self.2 fun x hx=>by
      obtain ⟨q,hq,rfl⟩:=List.getElem_of_mem hx
      rw[List.length_take] at hq
      rw[List.getElem_take]
      simp only[loK,decide_eq_true_eq]
      exact h2 q (by omega) (by omega)
    have b:(l.drop i).filter (loK key u)=[]:=List.filter_eq_nil_iff.2 fun x hx=>by
      obtain ⟨q,hq,rfl⟩:=List.getElem_of_mem hx
      rw[List.length_drop] at hq
      rw[List.getElem_drop]
      simp only[loK,decide_eq_true_eq]
      exact h3 (i+q) (by omega) (by omega)
    rw[a,b,List.append_nil]
  refine⟨by rw[dM,hp,List.length_take]; omega,?_⟩
  rw[Bool.eq_iff_iff]
  simp only[iG,List.any_eq_true,isK,decide_eq_true_eq,Bool.and_eq_true]
  constructor
  · rintro ⟨x,hx,e⟩
    obtain ⟨q,hq,rfl⟩:=List.getElem_of_mem hx
    have hc:eG (key l[q]) u=0:=(tD _ _).2 e
    have hqi:i≤q:=by
      rcases Nat.lt_or_ge q i with h | h
      · have:=h2 q hq h; omega
      · exact h
    have hil:i<l.length:=by omega
    refine⟨hil,hil,?_⟩
    by_cases e2:q=i
    · subst e2; exact hc
    · exfalso
      have h4:=List.pairwise_iff_getElem.1 hr i q hil hq (by omega)
      have h5:=h3 i hil (Nat.le_refl _)
      have h6:=wI h4 (show eG (key l[q]) u≤0 by omega)
      exact h5 h6
  · rintro ⟨_,hi,e⟩
    exact⟨l[i],List.getElem_mem _,(tD _ _).1 e⟩
theorem BsI.fin_t {l:List α} {u:ByteArray} {i j:Nat} (h:BsI l key u i j) (hr:dG key l) (hij:j≤i) (hi:i<l.length):iG key l u=(eG (key l[i]) u == 0):=by
  rw[(h.fin hr hij).2,Bool.eq_iff_iff]
  simp only[Bool.and_eq_true,decide_eq_true_eq,beq_iff_eq]
  exact⟨fun⟨_,_,e⟩=>e,fun e=>⟨hi,hi,e⟩⟩
theorem BsI.fin_f {l:List α} {u:ByteArray} {i j:Nat} (h:BsI l key u i j) (hr:dG key l) (hij:j≤i) (hi:¬ i<l.length):iG key l u=false:=by
  rw[(h.fin hr hij).2]
  simp [hi]
end
theorem lE {l:List Se} {t:Int}:(l.any fun e=>decide (t<e.2.2))=!(l.all fun e=>decide (e.2.2≤t)):=by
  rw[List.not_all_eq_any_not]
  congr 1
  funext e
  rw[Bool.eq_iff_iff]
  simp only[decide_eq_true_eq,Bool.not_eq_true',decide_eq_false_iff_not,Int.not_le]
theorem nW {α:Type} {l:List α} {p:α→Bool}:(l.any fun x=>!p x)=!l.all p:=List.not_all_eq_any_not.symm
def dZ (s:Sta) (u:ByteArray) (x:bO):Sta:={ s with usr:=kH s.usr u x }
theorem mC {s:Sta} {u:ByteArray} {x:bO} (h:x.1.2≤x.1.1):dZ s u x=s:=by rw[dZ,kH,if_pos h]
theorem aQj {l:List bO} {x:bO} (h:¬ x.1.2≤x.1.1):jE l x≠[]:=fun e=>by
  have h1:=aEf l x
  rw[jE,if_neg h] at e
  rw[e] at h1; simp at h1
theorem aQi {l:List Us} {u:ByteArray} {x:bO} (hr:dG cM l) (hh:iG cM l u=true) (h:¬ x.1.2≤x.1.1) (hk:dM cM l u<l.length):l.set (dM cM l u) (l[dM cM l u].1,jE l[dM cM l u].2 x)=kH l u x:=by
  obtain ⟨_,e⟩:=xF hr hh
  rw[e,kH,if_neg h,kP,nA,if_neg (aQj h),aHq hr hh]
theorem aUc {x:bO} (h:¬ x.1.2≤x.1.1):jE [] x=[x]:=by
  rw[jE,if_neg h]
  have h1:=hY x []
  exact List.perm_singleton.1 h1
theorem aT8 {l:List Us} {u:ByteArray} {x:bO} (hr:dG cM l) (hh:iG cM l u=false) (h:¬ x.1.2≤x.1.1):List.flatten [l.take (dM cM l u),[(u,[x])],l.drop (dM cM l u)]=kH l u x:=by
  rw[kH,if_neg h,kP,nA,if_neg (aQj h),oG hh,aUc h,← aP0 hr hh]
  simp
end Go.Abs
set_option linter.unusedVariables false
set_option linter.unusedSimpArgs false
namespace Go.Proofs.YtijnkglkchhomaaGreat
open Go Go.Abs
theorem uC {g:Nat} {cap:List AV} (hent:∀ args w,(callFunc g args).run Tryz.prog w=.ok (.enter g args) w) (hcl:cleanL (fun _=>false) cap=true) (p:Tm→Bool) (l:List Tm) (hl:l.length≤9223372036854775807) (hp:∀ x∈l,Den Tryz.prog g (.agg (tmC x)::cap) (·=.s (.bool (p x)))) :Den Tryz.prog 195 [.sl 2 (l.map tmC),.fn g cap]  (·=.s (.int .i64 (oO p l))):=by
 refine aY Tryz.func195 rfl (Nat.le_of_ble_eq_true rfl) (fun w0 A hf=>(aC (fun K1 hK1=>(aB (aE aA 1 rfl (aD (hK1 _ (aC (fun K2 hK2=>(aC (fun K3 hK3=>(aB (aE aA 3 rfl (aD (hK3 _ (aU ?_))))))))))))))))
 refine bW (ι:=Nat) (fun k=>⟨19,[(0,.sl 2 (l.map tmC)),(1,.fn g cap),(7,.s (.int .i64 ((l.map tmC).length:Nat))),(8,.s (.int .i64 (k:Nat)))],[]⟩) (fun k=>k≤l.length∧∀ (j:Nat) (hj:j<l.length),j<k→p l[j]=false) (fun k=>l.length - k) 0 ?_ ?_ ?_
 · exact⟨by omega,by omega⟩
 · exact cU rfl
 ·
  rintro k hC
  obtain ⟨h1,h2⟩:=hC
  refine aC (fun K4 hK4=>(aB (aE aA 1 rfl (aD (hK4 _ (aC (fun K5 hK5=>(aO rfl (fun hc1=>?_) (fun hc1=>?_)))))))))
  ·
   simp only[bs] at hc1
   refine aR (hK5 _ (aC (fun K6 hK6=>(aU (aC (fun K7 hK7=>(aB (aE aA 2 rfl (aD (hK7 _ (aC (fun K8 hK8=>(aB (aE aA 3 rfl ?_))))))))))))))
   refine aI rfl (bJ rfl rfl gN eR (by first | exact ixm (by omega) | assumption | exact⟨by decide,rfl⟩)) ?_
   refine aE aA 1 rfl (aN hf rfl (aP rfl rfl hent (by rw[fT,hcl]; rfl) (hp _ (List.getElem_mem _))) ?_)
   refine aD (hK8 _ (aO rfl (fun hc2=>?_) (fun hc2=>?_)))
   ·
    refine aC (fun K9 hK9=>(aB (aE aA 2 rfl (aD (hK9 _ (aM ?_))))))
    refine⟨_,rfl,?_⟩
    refine eP ?_
    rw[nG (by omega) h2 (by assumption)]
   ·
    refine aR (hK6 _ (aB ?_))
    refine aI rfl (bQ rfl rfl (by omega) (by omega)) ?_
    refine aE aA 1 rfl (aD ?_)
    exact⟨k+1,⟨by omega,fun j hj hjk=>by
      by_cases e:j=k
      · subst e; simp_all
      · exact h2 j hj (by omega)⟩,by omega,cU rfl⟩
  ·
   simp only[bs] at hc1
   refine bI (hK2 _ (aC (fun K10 hK10=>(aB (aE aA 1 rfl (aD (hK10 _ (aM ?_))))))))
   refine⟨_,rfl,?_⟩
   refine eP ?_
   rw[pF (fun j hj=>h2 j hj (by omega))]
theorem aFn {g:Nat} {cap:List AV} (hent:∀ args w,(callFunc g args).run Tryz.prog w=.ok (.enter g args) w) (hcl:cleanL (fun _=>false) cap=true) (p:Tm→Bool) (l:List Tm) (hl:l.length≤9223372036854775807) (hp:∀ x∈l,Den Tryz.prog g (.agg (tmC x)::cap) (·=.s (.bool (p x)))) :Den Tryz.prog 151 [.sl 2 (l.map tmC),.fn g cap]  (·=.s (.bool (l.any p))):=by
 refine aY Tryz.func151 rfl (Nat.le_of_ble_eq_true rfl) (fun w0 A hf=>(aC (fun K1 hK1=>(aB (aE aA 1 rfl (aD (hK1 _ (aC (fun K2 hK2=>(aB (aE aA 2 rfl (aN hf rfl (aP rfl rfl aBq (by show (true&&(cleanL (fun _=>false) cap&&true))=true; rw[hcl]; rfl) (uC hent hcl p l hl hp)) ?_))))))))))))
 refine aE aA 2 rfl (aD (hK2 _ (aM ?_)))
 refine⟨_,rfl,?_⟩
 refine aQ ?_
 rw[← qB]
theorem aB5 {g:Nat} {cap:List AV} (hent:∀ args w,(callFunc g args).run Tryz.prog w=.ok (.enter g args) w) (hcl:cleanL (fun _=>false) cap=true) (hcv:∀ m,convL m cap=cap) (p:Tm→Bool) (l:List Tm) (n:Nat) (hn:n=l.length) (hl:l.length≤9223372036854775807) (hp:∀ x∈l,Den Tryz.prog g (.agg (tmC x)::cap) (·=.s (.bool (p x)))) :DenM Tryz.prog 207 [.own E0 2 0 n,.fn g cap] 2 ((l.map tmC)) (fun r ys=>r=.own E0 2 0 (l.filter fun x=>!p x).length∧ys=((l.filter fun x=>!p x).map tmC)):=by
 subst hn
 have hq0:∀ j,((l.take j).filter fun x=>!p x).length≤j:=fun j=>gV _ l j
 have hq1:∀ j,((l.take j).filter fun x=>!p x).length≤l.length:=fun j=>gJ _ l j
 refine gK Tryz.func207 rfl (Nat.le_of_ble_eq_true rfl) (fun w0 x0 A hf=>?_)
 refine aC (fun K1 hK1=>(aB (aI rfl (bX) (aD (hK1 _ (aC (fun K2 hK2=>(aB (aE aA 2 rfl (aN hf rfl (qW rfl rfl (by show [AV.conv _ _,AV.fn g (convL _ cap)]=_; rw[hcv,cL (g:=E0) rfl (by simp)]) aBq (uC hent hcl p l hl hp) rfl) ?_))))))))))
 refine aE aA 1 rfl (aD (hK2 _ (aC (fun K3 hK3=>(aC (fun K4 hK4=>(aB (aE aA 2 rfl (aD (hK4 _ (aO rfl (fun hc1=>?_) (fun hc1=>?_))))))))))))
 ·
  simp only[bs] at hc1
  refine aC (fun K5 hK5=>(aB (aE aA 2 rfl (aD (hK5 _ (aM ?_))))))
  have hno:oO p l=-1:=by simpa using hc1
  rcases eE p l with ⟨_,hn⟩ | ⟨k,hk,e,_⟩
  · exact⟨_,.own E0 2 0 l.length,(l.map tmC),Le.refl _,rfl,rfl,by rw[fS p l hn],by rw[fS p l hn]⟩
  · exfalso; omega
 ·
  simp only[bs] at hc1
  refine aR (hK3 _ (aC (fun K6 hK6=>(aC (fun K7 hK7=>(aB ?_))))))
  rcases eE p l with ⟨e0,_⟩ | ⟨k0,hk0,ek0,hpk0,hbef⟩
  · exact absurd e0 (by simpa using hc1)
  have hst:=kT (fun x=>!p x) l k0 hk0 (fun j hj hjk=>by simp [hbef j hj hjk]) (by simp [hpk0])
  rw[ek0]
  refine aE aA 1 rfl ?_
  refine aI rfl (bQ rfl rfl (by omega) (by omega)) ?_
  refine aE aA 1 rfl (aD (hK7 _ (aU (bW (ι:=Nat) (fun j=>⟨42,[(0,.own E0 2 0 l.length),(1,.fn g cap),(5,.s (.int .i64 (((l.take j).filter fun x=>!p x).length:Nat))),(6,.s (.int .i64 (j:Nat)))],[(E0,.buf 2 ((iR (fun x=>!p x) l j).map tmC))]⟩) (fun j=>j≤l.length) (fun j=>l.length - j) (k0+1) ?_ ?_ ?_))))
  · exact hk0
  · rw[hst.1,hst.2]; exact jU ⟨rfl,rfl,rfl,rfl,trivial⟩
  ·
   rintro j hC
   let q:=fun x=>!p x
   have hle:((l.take j).filter q).length≤j:=hq0 j
   have hle2:((l.take j).filter fun x=>!p x).length≤j:=hq0 j
   refine aC (fun K8 hK8=>(aC (fun K9 hK9=>(aB (aE aA 4 rfl (aD (hK9 _ (aO rfl (fun hc2=>?_) (fun hc2=>?_)))))))))
   ·
    simp only[bs] at hc2
    refine aR (hK8 _ (aC (fun K10 hK10=>(aU (aC (fun K11 hK11=>(aB (aE aA 2 rfl ?_))))))))
    refine aI rfl (cF rfl rfl gN eR (by omega)) ?_
    refine aI rfl (cD rfl aSi eR rfl (qZ (c:=2) (k:=j) (enc:=tmC) (by omega) (by rw[eF]; omega) rfl) (cs':=tmC l[j]) (by rw[oD (c:=2) (k:=j) (enc:=tmC) (by omega) (by rw[eF]; omega) rfl,pG q l j j (by omega) hle])) ?_
    refine cC hf rfl wC rfl eR rfl rfl rfl rfl (lf rfl) (aD (hK11 _ (aC (fun K12 hK12=>(aB (aE aA 2 rfl (aN hf rfl (aP rfl rfl hent (by rw[fT,hcl]; rfl) (hp _ (List.getElem_mem _))) ?_)))))))
    refine aE aA 1 rfl (aD (hK12 _ (aO rfl (fun hc3=>?_) (fun hc3=>?_))))
    ·
     simp only[bs] at hc3
     refine aC (fun K13 hK13=>(aB (aE aA 3 rfl ?_)))
     refine aI rfl (cF rfl rfl gN eR (by omega)) ?_
     refine bD hf rfl rfl eR rfl rfl (by simp [tmC,AV.cells,AV.one,Value.oneCell',splice]) (by simp [tmC,AV.cells,AV.leaf,Value.oneCell',splice]) (hU (c:=2) (k:=((l.take j).filter fun x=>!p x).length) (enc:=tmC) (v:=l[j]) (by omega) (by rw[eF]; omega) rfl (Nat.le_refl _)) ?_
     refine aD (hK13 _ (aB ?_))
     rw[jJ (fun x=>!p x) l j (by omega) (by simp_all)]
     refine aE aA 1 rfl ?_
     refine aI rfl (bQ rfl rfl (by omega) (by omega)) ?_
     rw[lW (fun x=>!p x) l j (by omega) (by simp_all)]
     refine aE aA 1 rfl ?_
     refine bV ?_
     refine hK10 _ (aB (aE aA 1 rfl ?_))
     refine aI rfl (bQ rfl rfl (by omega) (by omega)) ?_
     refine aE aA 1 rfl (aD ?_)
     exact⟨j+1,(by omega),by omega,cU rfl⟩
    ·
     simp only[bs] at hc3
     rw[jK (fun x=>!p x) l j (by omega) (by simp_all),lX (fun x=>!p x) l j (by omega) (by simp_all)]
     refine aR (hK10 _ (aB (aE aA 1 rfl ?_)))
     refine aI rfl (bQ rfl rfl (by omega) (by omega)) ?_
     refine aE aA 1 rfl (aD ?_)
     exact⟨j+1,(by omega),by omega,cU rfl⟩
   ·
    simp only[bs] at hc2
    refine bI (hK6 _ (aC (fun K14 hK14=>(aB (aE aA 2 rfl ?_)))))
    refine aI rfl (eJ rfl gN eR rfl rfl (by omega) (by omega)) ?_
    refine vN hf kX wC (by simp [Value.oneCell']) rfl rfl ?_
    refine aD (hK14 _ (aC (fun K15 hK15=>(aB (aE aA 2 rfl ?_)))))
    refine aI rfl (eJ rfl gN eR rfl rfl (by omega) (by omega)) ?_
    refine aE aA 1 rfl (aD (hK15 _ (aM ?_)))
    have hjl:l.length≤j:=by omega
    have he:=nJ (fun x=>!p x) l j hjl
    refine⟨_,_,_,Le.refl _,rfl,rfl,?_,?_⟩
    · rw[List.take_of_length_le hjl]; rfl
    · rw[List.take_of_length_le hjl,Nat.zero_add,Int.toNat_natCast,← List.map_take,he]
theorem aC3 (l:List Tm) (hl:l.length*24≤140737488355328) :DenO Tryz.prog 98 [.sl 2 (l.map tmC)] 2 (·=(l.map tmC)):=by
 refine fP Tryz.func98 rfl (Nat.le_of_ble_eq_true rfl) (fun w0 A hf=>?_)
 refine aC (fun K1 hK1=>(aB (aI rfl (bX) (aD (hK1 _ (aC (fun K2 hK2=>(aC (fun K3 hK3=>(aB (aE aA 1 rfl ?_)))))))))))
 refine nD rfl rfl rfl gN (fun b hb1=>?_)
 refine aD (hK3 _ (aO rfl (fun hc2=>?_) (fun hc2=>?_)))
 ·
  have hl0:l=[]:=by simpa using hb1 (by assumption)
  refine aC (fun K4 hK4=>(aB (qS hf 2 rfl rfl rfl (aD (hK4 _ (aM ?_))))))
  exact⟨2,[],by decide,rfl,rfl,by rw[hl0]; rfl⟩
 ·
  refine aR (hK2 _ (aC (fun K5 hK5=>(aB (cR hf rfl rfl rfl kX rfl rfl rfl rfl (l2 rfl) ?_)))))
  refine aE aA 1 rfl (dQ hf rfl kX rfl rfl rfl (.inl rfl) rfl rfl (by first | rfl | simp [iS,bU]) (by first | (simp only[maxLen,List.length_map,List.length_append,List.length_cons,List.length_nil]; omega) | (simp [maxLen] <;> omega)) (by first | (simp only[List.length_map,List.length_append,List.length_cons,List.length_nil]; omega) | (simp <;> omega)) ?_)
  refine cB (iK [7] rfl) (aE aA 1 rfl (aD (hK5 _ (aM ?_))))
  refine⟨5,(l.map tmC),by decide,rfl,?_,rfl⟩
  show some (AV.own 5 2 0 (0+(l.map tmC).length))=_
  rw[Nat.zero_add]
theorem aNy (a b:List Tm) (ha:a.length≤9223372036854775807) (hb:b.length≤9223372036854775807) :Den Tryz.prog 82 [.sl 2 (a.map tmC),.sl 2 (b.map tmC)]  (·=.s (.bool (decide (a=b)))):=by
 refine aY Tryz.func82 rfl (Nat.le_of_ble_eq_true rfl) (fun w0 A hf=>(aC (fun K1 hK1=>(aB (aE aA 1 rfl (aD (hK1 _ (aC (fun K2 hK2=>(aC (fun K3 hK3=>(aB (aE aA 5 rfl (aD (hK3 _ (aO rfl (fun hc1=>?_) (fun hc1=>?_)))))))))))))))))
 ·
  simp only[bs] at hc1
  refine aC (fun K4 hK4=>(aB (aE aA 1 rfl (aD (hK4 _ (aM ?_))))))
  refine⟨_,rfl,?_⟩
  refine aQ ?_
  rw[sF (by omega)]
 ·
  simp only[bs] at hc1
  refine aR (hK2 _ (aC (fun K5 hK5=>(aC (fun K6 hK6=>(aB (aE aA 3 rfl (aD (hK6 _ (aU (bW (ι:=Nat) (fun k=>⟨26,[(0,.sl 2 (a.map tmC)),(1,.sl 2 (b.map tmC)),(12,.s (.int .i64 ((a.map tmC).length:Nat))),(13,.s (.int .i64 (k:Nat)))],[]⟩) (fun k=>k≤a.length∧a.take k=b.take k) (fun k=>a.length - k) 0 ?_ ?_ ?_)))))))))))
  · exact⟨Nat.zero_le _,rfl⟩
  · exact cU rfl
  ·
   rintro k hC
   obtain ⟨h1,h2⟩:=hC
   refine aC (fun K7 hK7=>(aB (aE aA 1 rfl (aD (hK7 _ (aC (fun K8 hK8=>(aO rfl (fun hc2=>?_) (fun hc2=>?_)))))))))
   ·
    simp only[bs] at hc2
    refine aR (hK8 _ (aC (fun K9 hK9=>(aU (aC (fun K10 hK10=>(aB (aE aA 2 rfl (aD (hK10 _ (aC (fun K11 hK11=>(dE hf bK (by kernel_rfl) rfl (bC aA 2 rfl ?_))))))))))))))
    refine bN [(16,_),(17,_)] rfl rfl ⟨⟨rfl,rfl⟩,⟨rfl,rfl⟩,trivial⟩ rfl (bJ rfl rfl gN eR (by first | exact ixm (by omega) | assumption | exact⟨by decide,rfl⟩)) ?_
    refine bC aA 3 rfl ?_
    refine bN [(20,_),(21,_)] rfl rfl ⟨⟨rfl,rfl⟩,⟨rfl,rfl⟩,trivial⟩ rfl (bJ rfl rfl gN eR (by first | exact ixm (by omega) | assumption | exact⟨by decide,rfl⟩)) ?_
    refine bC aA 1 rfl (bN [(19,_),(23,_)] rfl rfl ⟨⟨rfl,rfl⟩,⟨rfl,rfl⟩,trivial⟩ rfl (aCk rfl rfl aSe rfl) ?_)
    rw[tmC_eq]
    refine dC [0,1,12,13,24] rfl rfl rfl (hK11 _ (aO rfl (fun hc3=>?_) (fun hc3=>?_)))
    ·
     simp only[bs] at hc3
     refine aC (fun K12 hK12=>(aB (aE aA 1 rfl (aD (hK12 _ (aM ?_))))))
     refine⟨_,rfl,?_⟩
     refine aQ ?_
     rw[qG (by omega) (by omega) (by assumption)]
    ·
     simp only[bs] at hc3
     refine aR (hK9 _ (aB ?_))
     refine aI rfl (bQ rfl rfl (by omega) (by omega)) ?_
     refine aE aA 1 rfl (aD ?_)
     exact⟨k+1,⟨by omega,qF (by omega) (by omega) h2 (by assumption)⟩,by omega,cU rfl⟩
   ·
    simp only[bs] at hc2
    refine bI (hK5 _ (aC (fun K13 hK13=>(aB (aE aA 1 rfl (aD (hK13 _ (aM ?_))))))))
    refine⟨_,rfl,?_⟩
    refine aQ ?_
    rw[sG (by omega) (by omega) h2]
theorem aFu {g:Nat} {cap:List AV} (hent:∀ args w,(callFunc g args).run Tryz.prog w=.ok (.enter g args) w) (hcl:cleanL (fun _=>false) cap=true) (p:bO→Bool) (l:List bO) (hl:l.length≤9223372036854775807) (hp:∀ x∈l,Den Tryz.prog g (.agg (stC x)::cap) (·=.s (.bool (p x)))) :Den Tryz.prog 142 [.sl 4 (l.map stC),.fn g cap]  (·=.s (.bool (l.any p))):=by
 refine aY Tryz.func142 rfl (Nat.le_of_ble_eq_true rfl) (fun w0 A hf=>(aC (fun K1 hK1=>(aB (aE aA 1 rfl (aD (hK1 _ (aC (fun K2 hK2=>(aB (aE aA 2 rfl (aN hf rfl (aP rfl rfl aBt (by show (true&&(cleanL (fun _=>false) cap&&true))=true; rw[hcl]; rfl) (uH hent hcl p l hl hp)) ?_))))))))))))
 refine aE aA 2 rfl (aD (hK2 _ (aM ?_)))
 refine⟨_,rfl,?_⟩
 refine aQ ?_
 rw[← qB]
theorem wK {g:Nat} {cap:List AV} (hent:∀ args w,(callFunc g args).run Tryz.prog w=.ok (.enter g args) w) (hcl:cleanL (fun _=>false) cap=true) (p:Se→Bool) (l:List Se) (hl:l.length≤9223372036854775807) (hp:∀ x∈l,Den Tryz.prog g (.agg (seC x)::cap) (·=.s (.bool (p x)))) :Den Tryz.prog 138 [.sl 4 (l.map seC),.fn g cap]  (·=.s (.bool (l.any p))):=by
 refine aY Tryz.func138 rfl (Nat.le_of_ble_eq_true rfl) (fun w0 A hf=>(aC (fun K1 hK1=>(aB (aE aA 1 rfl (aD (hK1 _ (aC (fun K2 hK2=>(aB (aE aA 2 rfl (aN hf rfl (aP rfl rfl vH (by show (true&&(cleanL (fun _=>false) cap&&true))=true; rw[hcl]; rfl) (pK hent hcl p l hl hp)) ?_))))))))))))
 refine aE aA 2 rfl (aD (hK2 _ (aM ?_)))
 refine⟨_,rfl,?_⟩
 refine aQ ?_
 rw[← qB]
theorem aGc {g:Nat} {cap:List AV} (hent:∀ args w,(callFunc g args).run Tryz.prog w=.ok (.enter g args) w) (hcl:cleanL (fun _=>false) cap=true) (p:En→Bool) (l:List En) (hl:l.length≤9223372036854775807) (hp:∀ x∈l,Den Tryz.prog g (.agg (enC x)::cap) (·=.s (.bool (p x)))) :Den Tryz.prog 149 [.sl 4 (l.map enC),.fn g cap]  (·=.s (.bool (l.any p))):=by
 refine aY Tryz.func149 rfl (Nat.le_of_ble_eq_true rfl) (fun w0 A hf=>(aC (fun K1 hK1=>(aB (aE aA 1 rfl (aD (hK1 _ (aC (fun K2 hK2=>(aB (aE aA 2 rfl (aN hf rfl (aP rfl rfl rM (by show (true&&(cleanL (fun _=>false) cap&&true))=true; rw[hcl]; rfl) (mT hent hcl p l hl hp)) ?_))))))))))))
 refine aE aA 2 rfl (aD (hK2 _ (aM ?_)))
 refine⟨_,rfl,?_⟩
 refine aQ ?_
 rw[← qB]
end Go.Proofs.YtijnkglkchhomaaGreat
set_option linter.unusedVariables false
set_option linter.unusedSimpArgs false
namespace Go.Proofs.YtijnkglkchhomaaGreat
open Go Go.Abs
theorem aRa (l:List bO) (hl:l.length*32+32≤140737488355328) :Den Tryz.prog 53 [.sl 4 (l.map stC)]  (·=.sl 4 (l.map stC)):=by
 refine aY Tryz.func53 rfl (Nat.le_of_ble_eq_true rfl) (fun w0 A hf=>(aC (fun K1 hK1=>(aB (aI rfl (bX) (aD (hK1 _ (aC (fun K2 hK2=>(aB (qS hf 4 rfl rfl rfl (aD (hK2 _ (aC (fun K3 hK3=>(aC (fun K4 hK4=>?_)))))))))))))))))
 refine aB (aE aA 3 rfl (aD (hK4 _ (aU (bW (ι:=Nat) (fun k=>⟨19,[(3,.own 3 4 0 (l.take k).length),(6,.sl 4 (l.map stC)),(7,.s (.int .i64 ((l.map stC).length:Nat))),(8,.s (.int .i64 (k:Nat)))],[(3,.buf 4 ((l.take k).map stC))]⟩) (fun k=>k≤l.length) (fun k=>l.length - k) 0 ?_ ?_ ?_)))))
 · exact Nat.zero_le _
 · exact cU rfl
 ·
  rintro k hC
  refine aC (fun K5 hK5=>(aB (aE aA 1 rfl (aD (hK5 _ (aC (fun K6 hK6=>(aO rfl (fun hc1=>?_) (fun hc1=>?_)))))))))
  ·
   simp only[bs] at hc1
   refine aR (hK6 _ (aC (fun K7 hK7=>(aU (aC (fun K8 hK8=>(aB ?_)))))))
   refine aI rfl (bJ rfl rfl sJ mJ (by first | exact ixm (by omega) | assumption | exact⟨by decide,rfl⟩)) ?_
   refine aE aA 1 rfl (cC hf rfl aHd rfl mJ rfl rfl rfl rfl (lf rfl) (aD (hK8 _ (aB ?_))))
   have htl:(l.take k).length=k:=by rw[List.length_take]; omega
   refine aE aA 2 rfl (aN hf rfl (aP rfl rfl aNn rfl (aTh l[k])) (aN hf rfl (bR hZ rfl rfl rfl rfl (l2 rfl)) (dQ hf rfl hZ rfl rfl rfl (.inl rfl) (by rw[List.length_map]) rfl (by first | rfl | simp [iS,bU]) (by first | (simp only[maxLen,List.length_map,List.length_append,List.length_cons,List.length_nil]; omega) | (simp [maxLen] <;> omega)) (by first | (simp only[List.length_map,List.length_append,List.length_cons,List.length_nil]; omega) | (simp <;> omega)) ?_)))
   refine cB (iK [6,7,8,16] rfl) (aE aA 1 rfl ?_)
   refine bV ?_
   refine hK7 _ (aB ?_)
   refine aI rfl (bQ rfl rfl (by omega) (by omega)) ?_
   refine aE aA 1 rfl (aD ?_)
   exact⟨k+1,by omega,by omega,cN ⟨(by rw[pB l k (by omega)]; rfl),rfl,rfl,rfl,trivial⟩ (by rw[pM l stC k (by omega)]; rfl)⟩
  ·
   simp only[bs] at hc1
   refine bI (hK3 _ (aC (fun K9 hK9=>(aB (aE aA 2 rfl (aD (hK9 _ (aM ?_))))))))
   refine⟨_,rfl,?_⟩
   refine(cL (g:=3) rfl (by rw[List.length_map])).trans ?_
   rw[List.take_of_length_le (by omega)]
theorem aJr (l:List bO) (hl:l.length≤9223372036854775807) :Den Tryz.prog 141 [.sl 4 (l.map stC)]  (·=.s (.bool (tV l))):=by
 refine aY Tryz.func141 rfl (Nat.le_of_ble_eq_true rfl) (fun w0 A hf=>(aC (fun K1 hK1=>(aB (aE aA 1 rfl (aD (hK1 _ (aC (fun K2 hK2=>(aC (fun K3 hK3=>(aB (aE aA 3 rfl (aD (hK3 _ (aU ?_))))))))))))))))
 refine bW (ι:=Nat) (fun k=>⟨30,[(0,.sl 4 (l.map stC)),(5,.sl 4 (l.map stC)),(6,.s (.int .i64 ((l.map stC).length:Nat))),(7,.s (.int .i64 (k:Nat)))],[]⟩) (fun k=>k≤l.length∧tV l=mK okS tQ (gU l k) (l.drop k)) (fun k=>l.length - k) 0 ?_ ?_ ?_
 · exact⟨Nat.zero_le _,rfl⟩
 · exact cU rfl
 ·
  rintro k hC
  obtain ⟨h1,h2⟩:=hC
  refine aC (fun K4 hK4=>(aB (aE aA 1 rfl (aD (hK4 _ (aC (fun K5 hK5=>(aO rfl (fun hc1=>?_) (fun hc1=>?_)))))))))
  ·
   simp only[bs] at hc1
   refine aR (hK5 _ (aC (fun K6 hK6=>(aU (aC (fun K7 hK7=>(aB (aE aA 1 rfl ?_))))))))
   refine aI rfl (bJ rfl rfl cE bB (by first | exact ixm (by omega) | assumption | exact⟨by decide,rfl⟩)) ?_
   refine aE aA 1 rfl (aZ hf rfl rfl rfl dX (aE aA 1 rfl (bD hf rfl rfl bB rfl rfl (l1 rfl) (l4 rfl) rfl (cB (jC (nee 4) (sl':=[(0,_),(3,_),(4,_),(5,_),(6,_),(7,_)]) (m':=[]) ⟨⟨_,rfl,rfl⟩,⟨_,rfl,rfl⟩,⟨_,rfl,rfl⟩,⟨_,rfl,rfl⟩,⟨_,rfl,rfl⟩,⟨_,rfl,rfl⟩,trivial⟩ rfl) (aD (hK7 _ (aC (fun K8 hK8=>(dE hf bK (by kernel_rfl) rfl (bC aA 2 rfl (bT [(13,_)] rfl rfl ⟨⟨rfl,rfl⟩,trivial⟩ rfl (aP rfl rfl mG rfl (sA l[k].1)) (bC aA 1 rfl (eI 15 false rfl (fun hg2=>?_) (fun hg2=>?_))))))))))))))
   ·
    simp only[bs] at hg2
    refine bC aA 3 rfl (eI 18 true rfl (fun hg3=>?_) (fun hg3=>?_))
    ·
     simp only[bs] at hg3
     refine bC aA 2 rfl ?_
     refine bN [(20,_)] rfl rfl ⟨⟨rfl,rfl⟩,trivial⟩ rfl (eU rfl rfl (by omega) (by omega)) ?_
     refine bN [(19,_),(21,_)] rfl rfl ⟨⟨rfl,rfl⟩,⟨rfl,rfl⟩,trivial⟩ rfl (bJ rfl rfl cE bB (gQ (k:=k - 1) (by omega) (by omega))) (bC aA 2 rfl (bT [(23,_),(24,_)] rfl rfl ⟨⟨rfl,rfl⟩,⟨rfl,rfl⟩,trivial⟩ rfl (aP rfl rfl vL rfl (aEt l[k - 1] l[k])) (bC aA 3 rfl (dC [0,5,6,7,28] rfl rfl rfl (hK8 _ (aO rfl (fun hc4=>?_) (fun hc4=>?_)))))))
     ·
      simp only[bs] at hc4
      refine aC (fun K9 hK9=>(aB (aE aA 1 rfl (aD (hK9 _ (aM ?_))))))
      refine⟨_,rfl,?_⟩
      refine aQ ?_
      rw[fF h2 (by omega) (by omega) (show tQ _ _=false from by simp only[tQ,decide_eq_false_iff_not]; omega)]
     ·
      simp only[bs] at hc4
      refine aR (hK6 _ (aB ?_))
      refine aI rfl (bQ rfl rfl (by omega) (by omega)) ?_
      refine aE aA 1 rfl (aD ?_)
      exact⟨k+1,⟨by omega,fL h2 (by omega) (show okS l[k]=true from by simp only[okS,decide_eq_true_eq]; omega) (fun h0=>by simp only[tQ,decide_eq_true_eq]; omega)⟩,by omega,cU rfl⟩
    ·
     simp only[bs] at hg3
     refine bC aA 10 rfl (dC [0,5,6,7,28] rfl rfl rfl (hK8 _ (bZ rfl (aR (hK6 _ (aB ?_))))))
     refine aI rfl (bQ rfl rfl (by omega) (by omega)) ?_
     refine aE aA 1 rfl (aD ?_)
     exact⟨k+1,⟨by omega,fL h2 (by omega) (show okS l[k]=true from by simp only[okS,decide_eq_true_eq]; omega) (fun h0=>by simp only[tQ,decide_eq_true_eq]; omega)⟩,by omega,cU rfl⟩
   ·
    simp only[bs] at hg2
    refine bC aA 3 rfl (bE rfl rfl ?_)
    refine bE rfl rfl ?_
    refine bE rfl rfl ?_
    refine bE rfl rfl ?_
    refine bE rfl rfl ?_
    refine bE rfl rfl ?_
    refine bE rfl rfl ?_
    refine bE rfl rfl ?_
    refine bC aA 2 rfl (dC [0,5,6,7,28] rfl rfl rfl (hK8 _ (bP rfl (aC (fun K10 hK10=>(aB (aE aA 1 rfl (aD (hK10 _ (aM ?_))))))))))
    refine⟨_,rfl,?_⟩
    refine aQ ?_
    rw[eT h2 (by omega) (show okS l[k]=false from by simp only[okS,decide_eq_false_iff_not]; omega)]
  ·
   simp only[bs] at hc1
   refine bI (hK2 _ (aC (fun K11 hK11=>(aB (aE aA 1 rfl (aD (hK11 _ (aM ?_))))))))
   refine⟨_,rfl,?_⟩
   refine aQ ?_
   rw[oA h2 (by omega)]
theorem aDr (l:List bO) (hl:l.length≤9223372036854775807) :Den Tryz.prog 94 [.sl 4 (l.map stC)]  (·=.s (.bool (tV l))):=by
 refine aY Tryz.func94 rfl (Nat.le_of_ble_eq_true rfl) (fun w0 A hf=>(aC (fun K1 hK1=>(aB (aE aA 1 rfl (aD (hK1 _ (aC (fun K2 hK2=>(aC (fun K3 hK3=>(aB (aE aA 1 rfl (aD (hK3 _ (aU ?_))))))))))))))))
 refine bW (ι:=Nat) (fun k=>⟨38,[(0,.sl 4 (l.map stC)),(3,.s (.int .i64 (k:Nat)))],[]⟩) (fun k=>k≤l.length∧tV l=mK okS tQ (gU l k) (l.drop k)) (fun k=>l.length - k) 0 ?_ ?_ ?_
 · exact⟨Nat.zero_le _,rfl⟩
 · exact cU rfl
 ·
  rintro k hC
  obtain ⟨h1,h2⟩:=hC
  refine aC (fun K4 hK4=>(aC (fun K5 hK5=>(aB (aE aA 4 rfl (aD (hK5 _ (aO rfl (fun hc1=>?_) (fun hc1=>?_)))))))))
  ·
   simp only[bs] at hc1
   refine aR (hK4 _ (aC (fun K6 hK6=>(aU (aC (fun K7 hK7=>(dE hf bK (by kernel_rfl) rfl (bC aA 2 rfl ?_))))))))
   refine bN [(10,_),(11,_)] rfl rfl ⟨⟨rfl,rfl⟩,⟨rfl,rfl⟩,trivial⟩ rfl (bJ rfl rfl sJ mJ (by first | exact ixm (by omega) | assumption | exact⟨by decide,rfl⟩)) ?_
   refine bC aA 4 rfl ?_
   refine bN [(15,_),(16,_)] rfl rfl ⟨⟨rfl,rfl⟩,⟨rfl,rfl⟩,trivial⟩ rfl (bJ rfl rfl sJ mJ (by first | exact ixm (by omega) | assumption | exact⟨by decide,rfl⟩)) ?_
   refine bC aA 4 rfl (eI 21 false rfl (fun hg2=>?_) (fun hg2=>?_))
   ·
    simp only[bs] at hg2
    refine bC aA 3 rfl (eI 24 true rfl (fun hg3=>?_) (fun hg3=>?_))
    ·
     simp only[bs] at hg3
     refine bC aA 2 rfl ?_
     refine bN [(26,_)] rfl rfl ⟨⟨rfl,rfl⟩,trivial⟩ rfl (eU rfl rfl (by omega) (by omega)) ?_
     refine bN [(25,_),(27,_)] rfl rfl ⟨⟨rfl,rfl⟩,⟨rfl,rfl⟩,trivial⟩ rfl (bJ rfl rfl sJ mJ (gQ (k:=k - 1) (by omega) (by omega))) (bC aA 3 rfl ?_)
     refine bN [(30,_),(31,_)] rfl rfl ⟨⟨rfl,rfl⟩,⟨rfl,rfl⟩,trivial⟩ rfl (bJ rfl rfl sJ mJ (by first | exact ixm (by omega) | assumption | exact⟨by decide,rfl⟩)) ?_
     refine bC aA 1 rfl (bT [(29,_),(33,_)] rfl rfl ⟨⟨rfl,rfl⟩,⟨rfl,rfl⟩,trivial⟩ rfl (aP rfl rfl aNi rfl (aOt l[k - 1] l[k])) (bC aA 3 rfl (dC [0,3,37] rfl rfl rfl (hK7 _ (aO rfl (fun hc4=>?_) (fun hc4=>?_))))))
     ·
      simp only[bs] at hc4
      refine aC (fun K8 hK8=>(aB (aE aA 1 rfl (aD (hK8 _ (aM ?_))))))
      refine⟨_,rfl,?_⟩
      refine aQ ?_
      rw[fF h2 (by omega) (by omega) (show tQ _ _=false from by simp only[tQ,decide_eq_false_iff_not]; omega)]
     ·
      simp only[bs] at hc4
      refine aR (hK6 _ (aB (aE aA 1 rfl ?_)))
      refine aI rfl (bQ rfl rfl (by omega) (by omega)) ?_
      refine aE aA 1 rfl (aD ?_)
      exact⟨k+1,⟨by omega,fL h2 (by omega) (show okS l[k]=true from by simp only[okS,decide_eq_true_eq]; omega) (fun h0=>by simp only[tQ,decide_eq_true_eq]; omega)⟩,by omega,cU rfl⟩
    ·
     simp only[bs] at hg3
     refine bC aA 13 rfl (dC [0,3,37] rfl rfl rfl (hK7 _ (bZ rfl (aR (hK6 _ (aB (aE aA 1 rfl ?_)))))))
     refine aI rfl (bQ rfl rfl (by omega) (by omega)) ?_
     refine aE aA 1 rfl (aD ?_)
     exact⟨k+1,⟨by omega,fL h2 (by omega) (show okS l[k]=true from by simp only[okS,decide_eq_true_eq]; omega) (fun h0=>by simp only[tQ,decide_eq_true_eq]; omega)⟩,by omega,cU rfl⟩
   ·
    simp only[bs] at hg2
    refine bC aA 3 rfl (bE rfl rfl ?_)
    refine bE rfl rfl ?_
    refine bE rfl rfl ?_
    refine bE rfl rfl ?_
    refine bE rfl rfl ?_
    refine bE rfl rfl ?_
    refine bE rfl rfl ?_
    refine bE rfl rfl ?_
    refine bE rfl rfl ?_
    refine bE rfl rfl ?_
    refine bE rfl rfl ?_
    refine bC aA 2 rfl (dC [0,3,37] rfl rfl rfl (hK7 _ (bP rfl (aC (fun K9 hK9=>(aB (aE aA 1 rfl (aD (hK9 _ (aM ?_))))))))))
    refine⟨_,rfl,?_⟩
    refine aQ ?_
    rw[eT h2 (by omega) (show okS l[k]=false from by simp only[okS,decide_eq_false_iff_not]; omega)]
  ·
   simp only[bs] at hc1
   refine bI (hK2 _ (aC (fun K10 hK10=>(aB (aE aA 1 rfl (aD (hK10 _ (aM ?_))))))))
   refine⟨_,rfl,?_⟩
   refine aQ ?_
   rw[oA h2 (by omega)]
theorem aQx (a b:List bO) (ha:a.length≤9223372036854775807) (hb:b.length≤9223372036854775807) :Den Tryz.prog 79 [.sl 4 (a.map stC),.sl 4 (b.map stC)]  (·=.s (.bool (decide (a=b)))):=by
 refine aY Tryz.func79 rfl (Nat.le_of_ble_eq_true rfl) (fun w0 A hf=>(aC (fun K1 hK1=>(aB (aE aA 1 rfl (aD (hK1 _ (aC (fun K2 hK2=>(aB (aE aA 2 rfl (aN hf rfl (aP rfl rfl aNh rfl (aN2 a b ha hb)) (aE aA 1 rfl (aD (hK2 _ ?_)))))))))))))))
 refine aM ?_
 refine⟨_,rfl,?_⟩
 rfl
theorem aOv (l:List bO) (t:Int) (hl:l.length*32+32≤140737488355328) :Den Tryz.prog 91 [.sl 4 (l.map stC),.s (.int .i64 t)]  (·=.sl 4 ((l.filter (fun s:bO=>!decide (s.1.2≤t))).map stC)):=by
 refine aY Tryz.func91 rfl (Nat.le_of_ble_eq_true rfl) (fun w0 A hf=>(aC (fun K1 hK1=>(aB (aN hf rfl (cS rfl rfl (lf rfl)) (aI rfl (bX) (aD (hK1 _ (aC (fun K2 hK2=>(aB (aE aA 1 rfl (gP hf rfl rfl rfl rfl rfl tM rfl (sV l (by omega)) ?_)))))))))))))
 rintro _ rfl
 refine aI rfl (eK rfl) (gE hf 6 rfl rfl rfl rfl rfl aMt (aB6 aMs rfl (fun _=>rfl) (fun s=>decide (s.1.2≤t)) l _ (by rw[List.length_map]) (by omega) (fun x _=>aLm x t)) ?_)
 rintro r zs ⟨rfl,rfl⟩
 refine aE aA 1 rfl (aD (hK2 _ (aM ?_)))
 refine⟨_,rfl,?_⟩
 exact cL (g:=6) rfl (by rw[List.length_map])
end Go.Proofs.YtijnkglkchhomaaGreat
set_option linter.unusedVariables false
set_option linter.unusedSimpArgs false
namespace Go.Proofs.YtijnkglkchhomaaGreat
open Go Go.Abs
theorem kN (n a b:Int) :Den Tryz.prog 139 [.s (.int .i64 n),.s (.int .i64 a),.s (.int .i64 b)]  (·=.s (.bool (decide (a≤n)&&decide (n≤b)))):=by
 refine aY Tryz.func139 rfl (Nat.le_of_ble_eq_true rfl) (fun w0 A hf=>(aC (fun K1 hK1=>(aB (aE aA 1 rfl (aD (hK1 _ (aC (fun K2 hK2=>(aB (aE aA 4 rfl (bA rfl rfl rfl (fun hg1=>?_) (fun hg1=>?_)))))))))))))
 ·
  simp only[bs] at hg1
  refine aI rfl (fV rfl) (aE aA 4 rfl (aD (hK2 _ (aM ?_))))
  refine⟨_,rfl,?_⟩
  refine aQ ?_
  rw[Bool.eq_iff_iff]
  simp only[Bool.and_eq_true,decide_eq_true_eq,true_iff,Bool.false_eq_true,false_iff]
  omega
 ·
  simp only[bs] at hg1
  refine aE aA 4 rfl (aD (hK2 _ (aM ?_)))
  refine⟨_,rfl,?_⟩
  refine aQ ?_
  rw[Bool.eq_iff_iff]
  simp only[Bool.and_eq_true,decide_eq_true_eq,true_iff,Bool.false_eq_true,false_iff]
  omega
theorem jV (n a b:Int) :Den Tryz.prog 152 [.s (.int .i64 n),.s (.int .i64 a),.s (.int .i64 b)]  (·=.s (.bool (decide (a≤n)&&decide (n≤b)))):=by
 refine aY Tryz.func152 rfl (Nat.le_of_ble_eq_true rfl) (fun w0 A hf=>(aC (fun K1 hK1=>(aB (aE aA 1 rfl (aD (hK1 _ (aC (fun K2 hK2=>(aB (aE aA 4 rfl (bA rfl rfl rfl (fun hg1=>?_) (fun hg1=>?_)))))))))))))
 ·
  simp only[bs] at hg1
  refine aI rfl (fV rfl) (aE aA 4 rfl (aD (hK2 _ (aM ?_))))
  refine⟨_,rfl,?_⟩
  refine aQ ?_
  rw[Bool.eq_iff_iff]
  simp only[Bool.and_eq_true,decide_eq_true_eq,true_iff,Bool.false_eq_true,false_iff]
  omega
 ·
  simp only[bs] at hg1
  refine aE aA 4 rfl (aD (hK2 _ (aM ?_)))
  refine⟨_,rfl,?_⟩
  refine aQ ?_
  rw[Bool.eq_iff_iff]
  simp only[Bool.and_eq_true,decide_eq_true_eq,true_iff,Bool.false_eq_true,false_iff]
  omega
theorem tF (x:Us) :Den Tryz.prog 68 [.agg (usC x)]  (·=.s (.string x.1)):=by
 refine aY Tryz.func68 rfl (Nat.le_of_ble_eq_true rfl) (fun w0 A hf=>(aC (fun K1 hK1=>(aB (aN hf rfl (cS rfl rfl (lf rfl)) (aE aA 1 rfl (aD (hK1 _ (aC (fun K2 hK2=>(aB (aE aA 3 rfl (aD (hK2 _ (aM ?_)))))))))))))))
 refine⟨_,rfl,?_⟩
 rfl
theorem sP (x:Tm) :Den Tryz.prog 132 [.agg (tmC x)]  (·=.s (.string x.1)):=by
 refine aY Tryz.func132 rfl (Nat.le_of_ble_eq_true rfl) (fun w0 A hf=>(aC (fun K1 hK1=>(aB (aN hf rfl (cS rfl rfl (lf rfl)) (aE aA 1 rfl (aD (hK1 _ (aC (fun K2 hK2=>(aB (aE aA 3 rfl (aD (hK2 _ (aM ?_)))))))))))))))
 refine⟨_,rfl,?_⟩
 rfl
theorem aFy (e:Se) (s:Sta) :Den Tryz.prog 135 [.agg (seC e),.adr (aL s)]  (·=.s (.bool (decide (s.now<e.2.2)))):=by
 refine aY Tryz.func135 rfl (Nat.le_of_ble_eq_true rfl) (fun w0 A hf=>(aC (fun K1 hK1=>(aB (aN hf rfl (cS rfl rfl (lf rfl)) (aE aA 1 rfl (aD (hK1 _ (aC (fun K2 hK2=>(aB (aE aA 6 rfl (aD (hK2 _ (aM ?_)))))))))))))))
 refine⟨_,rfl,?_⟩
 rfl
theorem aFz (e:Se) (x:bO) :Den Tryz.prog 137 [.agg (seC e),.adr (stC x)]  (·=.s (.bool (decide (e.1.1=x.2.1)&&decide (e.2.2<x.1.2)))):=by
 refine aY Tryz.func137 rfl (Nat.le_of_ble_eq_true rfl) (fun w0 A hf=>(aC (fun K1 hK1=>(aB (aN hf rfl (cS rfl rfl (lf rfl)) (aE aA 1 rfl (aD (hK1 _ (aC (fun K2 hK2=>(aB (aE aA 6 rfl (bA rfl rfl rfl (fun hg1=>?_) (fun hg1=>?_))))))))))))))
 ·
  simp only[bs] at hg1
  refine aI rfl (bM rfl oY mI rfl) ?_
  refine aE aA 7 rfl (aD (hK2 _ (aM ?_)))
  refine⟨_,rfl,?_⟩
  refine aQ ?_
  rw[Bool.eq_iff_iff]
  (simp_all[eD,lA,jG,pV]; done)
 ·
  simp only[bs] at hg1
  refine aE aA 7 rfl (aD (hK2 _ (aM ?_)))
  refine⟨_,rfl,?_⟩
  refine aQ ?_
  rw[Bool.eq_iff_iff]
  (simp_all[eD,lA,jG,pV]; done)
theorem aHu (x:bO) (s:Sta) (hs:s.opn.length≤9223372036854775807) :Den Tryz.prog 136 [.agg (stC x),.adr (aL s)]  (·=.s (.bool (!eD s x))):=by
 refine aY Tryz.func136 rfl (Nat.le_of_ble_eq_true rfl) (fun w0 A hf=>(aC (fun K1 hK1=>(aB (aN hf rfl (cS rfl rfl (lf rfl)) (aE aA 1 rfl (aD (hK1 _ (aC (fun K2 hK2=>(aB (aI rfl (eK rfl) (aE aA 1 rfl (aD (hK2 _ ?_)))))))))))))))
 refine aC (fun K3 hK3=>(aB (aE aA 3 rfl (aN hf rfl (aP rfl rfl aBv rfl (wK aNc rfl (fun e=>decide (e.1.1=x.2.1)&&decide (e.2.2<x.1.2)) s.opn hs (fun e _=>aFz e x))) (aE aA 1 rfl (bA rfl rfl rfl (fun hg1=>?_) (fun hg1=>?_)))))))
 ·
  refine aI rfl (bM rfl oY mI rfl) ?_
  refine aE aA 5 rfl (bA rfl rfl rfl (fun hg2=>?_) (fun hg2=>?_))
  ·
   simp only[bs] at hg2
   refine aI rfl (bM rfl oY mI rfl) ?_
   refine aE aA 7 rfl (bA rfl rfl rfl (fun hg3=>?_) (fun hg3=>?_))
   ·
    simp only[bs] at hg3
    refine aI rfl (bM rfl aI2 cP rfl) ?_
    refine aE aA 1 rfl (bF rfl rfl rfl (aN hf rfl (aP rfl rfl mF rfl (kN _ _ _)) (aE aA 3 rfl (bA rfl rfl rfl (fun hg4=>?_) (fun hg4=>?_)))))
    ·
     simp only[bs] at hg4
     refine aI rfl (bM rfl aI1 cP rfl) ?_
     refine aE aA 1 rfl (bF rfl rfl rfl (aN hf rfl (aP rfl rfl mF rfl (kN _ _ _)) (aE aA 3 rfl (aD (hK3 _ (aM ?_))))))
     refine⟨_,rfl,?_⟩
     refine aQ ?_
     unfold eD
     generalize (s.opn.any fun e=>decide (e.1.1=x.2.1)&&decide (e.2.2<x.1.2))=bb at *
     rw[Bool.eq_iff_iff]
     (simp_all; done)
    ·
     simp only[bs] at hg4
     refine aE aA 5 rfl (aD (hK3 _ (aM ?_)))
     refine⟨_,rfl,?_⟩
     refine aQ ?_
     unfold eD
     generalize (s.opn.any fun e=>decide (e.1.1=x.2.1)&&decide (e.2.2<x.1.2))=bb at *
     rw[Bool.eq_iff_iff]
     (simp_all; omega)
   ·
    simp only[bs] at hg3
    refine aE aA 11 rfl (aD (hK3 _ (aM ?_)))
    refine⟨_,rfl,?_⟩
    refine aQ ?_
    unfold eD
    generalize (s.opn.any fun e=>decide (e.1.1=x.2.1)&&decide (e.2.2<x.1.2))=bb at *
    rw[Bool.eq_iff_iff]
    (simp_all; done)
  ·
   simp only[bs] at hg2
   refine aE aA 19 rfl (aD (hK3 _ (aM ?_)))
   refine⟨_,rfl,?_⟩
   refine aQ ?_
   unfold eD
   generalize (s.opn.any fun e=>decide (e.1.1=x.2.1)&&decide (e.2.2<x.1.2))=bb at *
   rw[Bool.eq_iff_iff]
   (simp_all; done)
 ·
  simp only[bs] at hg1
  refine aE aA 25 rfl (aD (hK3 _ (aM ?_)))
  refine⟨_,rfl,?_⟩
  refine aQ ?_
  unfold eD
  generalize (s.opn.any fun e=>decide (e.1.1=x.2.1)&&decide (e.2.2<x.1.2))=bb at *
  rw[Bool.eq_iff_iff]
  (simp_all; done)
theorem aFw (x:Us) (s:Sta) (hs:s.opn.length≤9223372036854775807) (hx:x.2.length≤9223372036854775807) :Den Tryz.prog 140 [.agg (usC x),.adr [.fn 136 [.adr (aL s)]]]  (·=.s (.bool (!lA s x))):=by
 refine aY Tryz.func140 rfl (Nat.le_of_ble_eq_true rfl) (fun w0 A hf=>(aC (fun K1 hK1=>(aB (aN hf rfl (cS rfl rfl (lf rfl)) (aE aA 1 rfl (aD (hK1 _ (aC (fun K2 hK2=>(aB (aE aA 5 rfl (bA rfl rfl rfl (fun hg1=>?_) (fun hg1=>?_))))))))))))))
 ·
  simp only[bs] at hg1
  refine aI rfl (bM rfl tL qO rfl) ?_
  refine aE aA 1 rfl (bF rfl rfl rfl (aN hf rfl (aP rfl rfl aNa rfl (aJr x.2 hx)) (aE aA 3 rfl (bA rfl rfl rfl (fun hg2=>?_) (fun hg2=>?_)))))
  ·
   simp only[bs] at hg2
   refine aI rfl (bM rfl tL qO rfl) ?_
   refine aE aA 2 rfl (bF rfl rfl rfl (aN hf rfl (aP rfl rfl aM9 rfl (aFu aNd rfl (fun y=>!eD s y) x.2 hx (fun y _=>aHu y s hs))) (aE aA 2 rfl (aD (hK2 _ (aM ?_))))))
   refine⟨_,rfl,?_⟩
   refine aQ ?_
   unfold lA
   have hna:(x.2.any fun y=>!eD s y)=!x.2.all (eD s):=List.not_all_eq_any_not.symm
   simp only[hna] at *
   generalize x.2.all (eD s)=bb at *
   generalize tV x.2=b2 at *
   rw[Bool.eq_iff_iff]
   (simp_all; done)
  ·
   simp only[bs] at hg2
   refine aE aA 5 rfl (aD (hK2 _ (aM ?_)))
   refine⟨_,rfl,?_⟩
   refine aQ ?_
   unfold lA
   have hna:(x.2.any fun y=>!eD s y)=!x.2.all (eD s):=List.not_all_eq_any_not.symm
   simp only[hna] at *
   generalize x.2.all (eD s)=bb at *
   generalize tV x.2=b2 at *
   rw[Bool.eq_iff_iff]
   (simp_all; done)
 ·
  simp only[bs] at hg1
  refine aE aA 11 rfl (aD (hK2 _ (aM ?_)))
  refine⟨_,rfl,?_⟩
  refine aQ ?_
  unfold lA
  have hna:(x.2.any fun y=>!eD s y)=!x.2.all (eD s):=List.not_all_eq_any_not.symm
  simp only[hna] at *
  generalize x.2.all (eD s)=bb at *
  generalize tV x.2=b2 at *
  rw[Bool.eq_iff_iff]
  (simp_all; done)
theorem aHt (e:En) (s:Sta) :Den Tryz.prog 143 [.agg (enC e),.adr (aL s)]  (·=.s (.bool (!jG s e))):=by
 refine aY Tryz.func143 rfl (Nat.le_of_ble_eq_true rfl) (fun w0 A hf=>(aC (fun K1 hK1=>(aB (aN hf rfl (cS rfl rfl (lf rfl)) (aE aA 1 rfl (aD (hK1 _ (aC (fun K2 hK2=>(aB (aE aA 5 rfl (aN hf rfl (aP rfl rfl mF rfl (kN _ _ _)) (aE aA 2 rfl (bA rfl rfl rfl (fun hg1=>?_) (fun hg1=>?_))))))))))))))))
 ·
  simp only[bs] at hg1
  refine aI rfl (bM rfl tK mI rfl) ?_
  refine aE aA 6 rfl (bA rfl rfl rfl (fun hg2=>?_) (fun hg2=>?_))
  ·
   simp only[bs] at hg2
   refine aI rfl (bM rfl tK mI rfl) ?_
   refine aE aA 6 rfl (aD (hK2 _ (aM ?_)))
   refine⟨_,rfl,?_⟩
   refine aQ ?_
   rw[Bool.eq_iff_iff]
   (simp_all[eD,lA,jG,pV]; done)
  ·
   simp only[bs] at hg2
   refine aE aA 6 rfl (aD (hK2 _ (aM ?_)))
   refine⟨_,rfl,?_⟩
   refine aQ ?_
   rw[Bool.eq_iff_iff]
   (simp_all[eD,lA,jG,pV]; done)
 ·
  simp only[bs] at hg1
  refine aE aA 6 rfl (gF rfl rfl rfl ?_)
  refine gF rfl rfl rfl ?_
  refine gF rfl rfl rfl ?_
  refine gF rfl rfl rfl ?_
  refine aE aA 3 rfl (aD (hK2 _ (aM ?_)))
  refine⟨_,rfl,?_⟩
  refine aQ ?_
  rw[Bool.eq_iff_iff]
  (simp_all[eD,lA,jG,pV]; omega)
theorem aFx (x:Tm) (s:Sta) :Den Tryz.prog 144 [.agg (tmC x),.adr (aL s)]  (·=.s (.bool (!pV s x))):=by
 refine aY Tryz.func144 rfl (Nat.le_of_ble_eq_true rfl) (fun w0 A hf=>(aC (fun K1 hK1=>(aB (aN hf rfl (cS rfl rfl (lf rfl)) (aE aA 1 rfl (aD (hK1 _ (aC (fun K2 hK2=>(aB (aE aA 4 rfl (aN hf rfl (aP rfl rfl mF rfl (kN _ _ _)) (aE aA 2 rfl (aD ?_)))))))))))))))
 refine hK2 _ (aM ?_)
 refine⟨_,rfl,?_⟩
 refine aQ ?_
 rw[Bool.eq_iff_iff]
 (simp_all[eD,lA,jG,pV]; done)
theorem aN0 (x y:Us) (hx:x.2.length≤9223372036854775807) (hy:y.2.length≤9223372036854775807) :Den Tryz.prog 78 [.agg (usC x),.agg (usC y)]  (·=.s (.bool (decide (x=y)))):=by
 refine aY Tryz.func78 rfl (Nat.le_of_ble_eq_true rfl) (fun w0 A hf=>(aC (fun K1 hK1=>(aB (aN hf rfl (cS rfl rfl (lf rfl)) (aN hf rfl (cS rfl rfl (lf rfl)) (aE aA 1 rfl (aD (hK1 _ (aC (fun K2 hK2=>(aB (aE aA 6 rfl (bA rfl rfl rfl (fun hg1=>?_) (fun hg1=>?_)))))))))))))))
 ·
  simp only[bs] at hg1
  refine aI rfl (bM rfl tL qO rfl) ?_
  refine aE aA 3 rfl (bF rfl rfl rfl (aN hf rfl (aP rfl rfl aPb rfl (aQx x.2 y.2 hx hy)) (aE aA 2 rfl (aD (hK2 _ (aM ?_))))))
  refine⟨_,rfl,?_⟩
  refine aQ ?_
  rw[Bool.eq_iff_iff]
  simp_all[Prod.ext_iff,toList_inj]
 ·
  simp only[bs] at hg1
  refine aE aA 6 rfl (aD (hK2 _ (aM ?_)))
  refine⟨_,rfl,?_⟩
  refine aQ ?_
  rw[Bool.eq_iff_iff]
  simp_all[Prod.ext_iff,toList_inj]
end Go.Proofs.YtijnkglkchhomaaGreat
set_option linter.unusedVariables false
set_option linter.unusedSimpArgs false
namespace Go.Proofs.YtijnkglkchhomaaGreat
open Go Go.Abs
theorem aI8 {g:Nat} {cap:List AV} (hent:∀ args w,(callFunc g args).run Tryz.prog w=.ok (.enter g args) w) (hcl:cleanL (fun _=>false) cap=true) (l:List Us) (u:ByteArray) (hl:l.length≤4611686018427387903) (hr:dG cM l) (hp:∀ x∈l,Den Tryz.prog g (.agg (usC x)::.s (.string u)::cap) (·=.s (.int .i64 (eG x.1 u)))) :Den Tryz.prog 111 [.sl 2 (l.map usC),.s (.string u),.fn g cap]  (·=.tup [.s (.int .i64 (dM cM l u:Nat)),.s (.bool (iG cM l u))]):=by
 refine aY Tryz.func111 rfl (Nat.le_of_ble_eq_true rfl) (fun w0 A hf=>(aC (fun K1 hK1=>(aB (aE aA 2 rfl (aD (hK1 _ (aC (fun K2 hK2=>(aB (aE aA 3 rfl (aD (hK2 _ (aC (fun K3 hK3=>(aB ?_))))))))))))))))
 refine aE aA 3 rfl (aD (hK3 _ (aC (fun K4 hK4=>(aU (bW (ι:=Nat×Nat) (fun(⟨i,j⟩:Nat×Nat)=>⟨49,[(0,.sl 2 (l.map usC)),(1,.s (.string u)),(2,.fn g cap),(8,.s (.int .i64 (((l.map usC)).length:Nat))),(9,.s (.int .i64 (i:Nat))),(10,.s (.int .i64 (j:Nat)))],[]⟩) (fun(⟨i,j⟩:Nat×Nat)=>BsI l cM u i j) (fun(⟨i,j⟩:Nat×Nat)=>j - i) (0,l.length) ?_ ?_ ?_))))))
 · exact BsI.start l u
 · exact jU ⟨rfl,rfl,rfl,rfl,rfl,(by rw[List.length_map]; rfl),trivial⟩
 ·
  rintro ⟨i,j⟩ hC
  have hi1:=hC.1
  have hi2:=hC.2.1
  refine aC (fun K5 hK5=>(aC (fun K6 hK6=>(aB (aE aA 3 rfl (aD (hK6 _ (aO rfl (fun hc1=>?_) (fun hc1=>?_)))))))))
  ·
   simp only[bs] at hc1
   refine aR (hK5 _ (aU (aC (fun K7 hK7=>(aB ?_)))))
   have hz:=aAf (a:=((i:Nat):Int)+((j:Nat):Int)) (b:=(((i+j) / 2:Nat):Int)) (by omega) (by omega) (by omega)
   have hm1:i≤(i+j) / 2:=by omega
   have hm2:(i+j) / 2<j:=by omega
   have hml:(i+j) / 2<l.length:=by omega
   refine aE aA 2 rfl (aI rfl (bQ rfl rfl (by omega) (by omega)) (aI rfl (oM rfl Tryz.underlying3 Tryz.underlying234 hz.1) (aI rfl (zX rfl hz.2.1 (by decide)) (aI rfl (oM rfl Tryz.underlying234 Tryz.underlying3 hz.2.2) (aE aA 1 rfl (aD (hK7 _ (aC (fun K8 hK8=>(aB (aE aA 3 rfl (aI rfl (bJ rfl rfl eC cV (gQ (k:=(i+j) / 2) (by omega) (by omega))) (aE aA 2 rfl ?_)))))))))))))
   refine aN hf rfl (aP rfl rfl hent (by show (true&&(true&&cleanL (fun _=>false) cap))=true; rw[hcl]; rfl) (hp _ (List.getElem_mem hml))) ?_
   refine aE aA 1 rfl (aD (hK8 _ (aO rfl (fun hc2=>?_) (fun hc2=>?_))))
   ·
    simp only[bs] at hc2
    refine aB (aE aA 1 rfl ?_)
    refine aI rfl (bQ rfl rfl (by omega) (by omega)) ?_
    refine aE aA 1 rfl ?_
    refine bV ?_
    exact⟨((i+j) / 2+1,j),hC.lo hr hm1 hm2 hml (by show eG l[(i+j) / 2].1 u<0; omega),by simp only; omega,jU ⟨rfl,rfl,rfl,rfl,rfl,rfl,trivial⟩⟩
   ·
    simp only[bs] at hc2
    refine aB (aE aA 2 rfl ?_)
    refine bV ?_
    exact⟨(i,(i+j) / 2),hC.hi hr hm1 hm2 hml (by show ¬ eG l[(i+j) / 2].1 u<0; omega),by simp only; omega,jU ⟨rfl,rfl,rfl,rfl,rfl,rfl,trivial⟩⟩
  ·
   simp only[bs] at hc1
   refine bI (hK4 _ (aC (fun K9 hK9=>(aB (aE aA 5 rfl (bA rfl rfl rfl (fun hg3=>?_) (fun hg3=>?_)))))))
   ·
    simp only[bs] at hg3
    refine aI rfl (fV rfl) (aE aA 2 rfl (bF rfl rfl rfl ?_))
    refine aI rfl (bJ rfl rfl eC cV (by first | exact ixm (by omega) | assumption | exact⟨by decide,rfl⟩)) ?_
    refine aE aA 2 rfl (bF rfl rfl rfl (aN hf rfl (aP rfl rfl hent (by show (true&&(true&&cleanL (fun _=>false) cap))=true; rw[hcl]; rfl) (hp _ (List.getElem_mem (by omega)))) ?_))
    refine aE aA 4 rfl (aD (hK9 _ (aM ?_)))
    refine⟨_,rfl,?_⟩
    (rw[(hC.fin hr (by omega)).1,hC.fin_t hr (by omega) (show i<l.length by omega)]; rfl)
   ·
    simp only[bs] at hg3
    refine aE aA 10 rfl (aD (hK9 _ (aM ?_)))
    refine⟨_,rfl,?_⟩
    (rw[(hC.fin hr (by omega)).1,hC.fin_f hr (by omega) (by omega)]; rfl)
theorem aJa (x:Us) (u:ByteArray) :Den Tryz.prog 112 [.agg (usC x),.s (.string u),.adr [.fn 68 []]]  (·=.s (.int .i64 (eG x.1 u))):=by
 refine aY Tryz.func112 rfl (Nat.le_of_ble_eq_true rfl) (fun w0 A hf=>(aC (fun K1 hK1=>(aB (aN hf rfl (cS rfl rfl (lf rfl)) (aE aA 1 rfl (aD (hK1 _ (aC (fun K2 hK2=>(aB (aE aA 2 rfl (aN hf rfl (aP rfl rfl tN rfl (tF x)) (aE aA 1 rfl (aN hf rfl (aP rfl rfl mH rfl (Nm.cmp_den x.1 u)) ?_)))))))))))))))
 refine aE aA 1 rfl (aD (hK2 _ (aM ?_)))
 refine⟨_,rfl,?_⟩
 rfl
theorem wV (l:List Us) (u:ByteArray) (hl:l.length≤4611686018427387903) (hr:dG cM l) :Den Tryz.prog 67 [.sl 2 (l.map usC),.s (.string u),.fn 68 []]  (·=.tup [.s (.int .i64 (dM cM l u:Nat)),.s (.bool (iG cM l u))]):=by
 refine aY Tryz.func67 rfl (Nat.le_of_ble_eq_true rfl) (fun w0 A hf=>(aC (fun K1 hK1=>(aB (aN hf rfl (cS rfl rfl (lf rfl)) (aE aA 2 rfl (aD (hK1 _ (aC (fun K2 hK2=>(aB (aE aA 2 rfl (aI rfl (eK rfl) (aN hf rfl (aP rfl rfl aNl rfl (aI8 aNk rfl l u hl hr (fun x _=>aJa x u))) (aE aA 4 rfl ?_)))))))))))))))
 refine aD (hK2 _ (aM ?_))
 refine⟨_,rfl,?_⟩
 rfl
theorem aJf {g:Nat} {cap:List AV} (hent:∀ args w,(callFunc g args).run Tryz.prog w=.ok (.enter g args) w) (hcl:cleanL (fun _=>false) cap=true) (l:List Tm) (u:ByteArray) (hl:l.length≤4611686018427387903) (hr:dG dH l) (hp:∀ x∈l,Den Tryz.prog g (.agg (tmC x)::.s (.string u)::cap) (·=.s (.int .i64 (eG x.1 u)))) :Den Tryz.prog 182 [.sl 2 (l.map tmC),.s (.string u),.fn g cap]  (·=.tup [.s (.int .i64 (dM dH l u:Nat)),.s (.bool (iG dH l u))]):=by
 refine aY Tryz.func182 rfl (Nat.le_of_ble_eq_true rfl) (fun w0 A hf=>(aC (fun K1 hK1=>(aB (aE aA 2 rfl (aD (hK1 _ (aC (fun K2 hK2=>(aB (aE aA 3 rfl (aD (hK2 _ (aC (fun K3 hK3=>(aB ?_))))))))))))))))
 refine aE aA 3 rfl (aD (hK3 _ (aC (fun K4 hK4=>(aU (bW (ι:=Nat×Nat) (fun(⟨i,j⟩:Nat×Nat)=>⟨49,[(0,.sl 2 (l.map tmC)),(1,.s (.string u)),(2,.fn g cap),(8,.s (.int .i64 (((l.map tmC)).length:Nat))),(9,.s (.int .i64 (i:Nat))),(10,.s (.int .i64 (j:Nat)))],[]⟩) (fun(⟨i,j⟩:Nat×Nat)=>BsI l dH u i j) (fun(⟨i,j⟩:Nat×Nat)=>j - i) (0,l.length) ?_ ?_ ?_))))))
 · exact BsI.start l u
 · exact jU ⟨rfl,rfl,rfl,rfl,rfl,(by rw[List.length_map]; rfl),trivial⟩
 ·
  rintro ⟨i,j⟩ hC
  have hi1:=hC.1
  have hi2:=hC.2.1
  refine aC (fun K5 hK5=>(aC (fun K6 hK6=>(aB (aE aA 3 rfl (aD (hK6 _ (aO rfl (fun hc1=>?_) (fun hc1=>?_)))))))))
  ·
   simp only[bs] at hc1
   refine aR (hK5 _ (aU (aC (fun K7 hK7=>(aB ?_)))))
   have hz:=aAf (a:=((i:Nat):Int)+((j:Nat):Int)) (b:=(((i+j) / 2:Nat):Int)) (by omega) (by omega) (by omega)
   have hm1:i≤(i+j) / 2:=by omega
   have hm2:(i+j) / 2<j:=by omega
   have hml:(i+j) / 2<l.length:=by omega
   refine aE aA 2 rfl (aI rfl (bQ rfl rfl (by omega) (by omega)) (aI rfl (oM rfl Tryz.underlying3 Tryz.underlying234 hz.1) (aI rfl (zX rfl hz.2.1 (by decide)) (aI rfl (oM rfl Tryz.underlying234 Tryz.underlying3 hz.2.2) (aE aA 1 rfl (aD (hK7 _ (aC (fun K8 hK8=>(aB (aE aA 3 rfl (aI rfl (bJ rfl rfl gN eR (gQ (k:=(i+j) / 2) (by omega) (by omega))) (aE aA 2 rfl ?_)))))))))))))
   refine aN hf rfl (aP rfl rfl hent (by show (true&&(true&&cleanL (fun _=>false) cap))=true; rw[hcl]; rfl) (hp _ (List.getElem_mem hml))) ?_
   refine aE aA 1 rfl (aD (hK8 _ (aO rfl (fun hc2=>?_) (fun hc2=>?_))))
   ·
    simp only[bs] at hc2
    refine aB (aE aA 1 rfl ?_)
    refine aI rfl (bQ rfl rfl (by omega) (by omega)) ?_
    refine aE aA 1 rfl ?_
    refine bV ?_
    exact⟨((i+j) / 2+1,j),hC.lo hr hm1 hm2 hml (by show eG l[(i+j) / 2].1 u<0; omega),by simp only; omega,jU ⟨rfl,rfl,rfl,rfl,rfl,rfl,trivial⟩⟩
   ·
    simp only[bs] at hc2
    refine aB (aE aA 2 rfl ?_)
    refine bV ?_
    exact⟨(i,(i+j) / 2),hC.hi hr hm1 hm2 hml (by show ¬ eG l[(i+j) / 2].1 u<0; omega),by simp only; omega,jU ⟨rfl,rfl,rfl,rfl,rfl,rfl,trivial⟩⟩
  ·
   simp only[bs] at hc1
   refine bI (hK4 _ (aC (fun K9 hK9=>(aB (aE aA 5 rfl (bA rfl rfl rfl (fun hg3=>?_) (fun hg3=>?_)))))))
   ·
    simp only[bs] at hg3
    refine aI rfl (fV rfl) (aE aA 2 rfl (bF rfl rfl rfl ?_))
    refine aI rfl (bJ rfl rfl gN eR (by first | exact ixm (by omega) | assumption | exact⟨by decide,rfl⟩)) ?_
    refine aE aA 2 rfl (bF rfl rfl rfl (aN hf rfl (aP rfl rfl hent (by show (true&&(true&&cleanL (fun _=>false) cap))=true; rw[hcl]; rfl) (hp _ (List.getElem_mem (by omega)))) ?_))
    refine aE aA 4 rfl (aD (hK9 _ (aM ?_)))
    refine⟨_,rfl,?_⟩
    (rw[(hC.fin hr (by omega)).1,hC.fin_t hr (by omega) (show i<l.length by omega)]; rfl)
   ·
    simp only[bs] at hg3
    refine aE aA 10 rfl (aD (hK9 _ (aM ?_)))
    refine⟨_,rfl,?_⟩
    (rw[(hC.fin hr (by omega)).1,hC.fin_f hr (by omega) (by omega)]; rfl)
theorem aJh (x:Tm) (u:ByteArray) :Den Tryz.prog 183 [.agg (tmC x),.s (.string u),.adr [.fn 132 []]]  (·=.s (.int .i64 (eG x.1 u))):=by
 refine aY Tryz.func183 rfl (Nat.le_of_ble_eq_true rfl) (fun w0 A hf=>(aC (fun K1 hK1=>(aB (aN hf rfl (cS rfl rfl (lf rfl)) (aE aA 1 rfl (aD (hK1 _ (aC (fun K2 hK2=>(aB (aE aA 2 rfl (aN hf rfl (aP rfl rfl rN rfl (sP x)) (aE aA 1 rfl (aN hf rfl (aP rfl rfl mH rfl (Nm.cmp_den x.1 u)) ?_)))))))))))))))
 refine aE aA 1 rfl (aD (hK2 _ (aM ?_)))
 refine⟨_,rfl,?_⟩
 rfl
theorem aC2 (l:List Tm) (u:ByteArray) (hl:l.length≤4611686018427387903) (hr:dG dH l) :Den Tryz.prog 131 [.sl 2 (l.map tmC),.s (.string u),.fn 132 []]  (·=.tup [.s (.int .i64 (dM dH l u:Nat)),.s (.bool (iG dH l u))]):=by
 refine aY Tryz.func131 rfl (Nat.le_of_ble_eq_true rfl) (fun w0 A hf=>(aC (fun K1 hK1=>(aB (aN hf rfl (cS rfl rfl (lf rfl)) (aE aA 2 rfl (aD (hK1 _ (aC (fun K2 hK2=>(aB (aE aA 2 rfl (aI rfl (eK rfl) (aN hf rfl (aP rfl rfl aMm rfl (aJf aMl rfl l u hl hr (fun x _=>aJh x u))) (aE aA 4 rfl ?_)))))))))))))))
 refine aD (hK2 _ (aM ?_))
 refine⟨_,rfl,?_⟩
 rfl
end Go.Proofs.YtijnkglkchhomaaGreat
set_option linter.unusedVariables false
set_option linter.unusedSimpArgs false
namespace Go.Proofs.YtijnkglkchhomaaGreat
open Go Go.Abs
theorem uB {g:Nat} {cap:List AV} (hent:∀ args w,(callFunc g args).run Tryz.prog w=.ok (.enter g args) w) (hcl:cleanL (fun _=>false) cap=true) (p:Us→Bool) (l:List Us) (hl:l.length≤9223372036854775807) (hp:∀ x∈l,Den Tryz.prog g (.agg (usC x)::cap) (·=.s (.bool (p x)))) :Den Tryz.prog 191 [.sl 2 (l.map usC),.fn g cap]  (·=.s (.int .i64 (oO p l))):=by
 refine aY Tryz.func191 rfl (Nat.le_of_ble_eq_true rfl) (fun w0 A hf=>(aC (fun K1 hK1=>(aB (aE aA 1 rfl (aD (hK1 _ (aC (fun K2 hK2=>(aC (fun K3 hK3=>(aB (aE aA 3 rfl (aD (hK3 _ (aU ?_))))))))))))))))
 refine bW (ι:=Nat) (fun k=>⟨19,[(0,.sl 2 (l.map usC)),(1,.fn g cap),(7,.s (.int .i64 ((l.map usC).length:Nat))),(8,.s (.int .i64 (k:Nat)))],[]⟩) (fun k=>k≤l.length∧∀ (j:Nat) (hj:j<l.length),j<k→p l[j]=false) (fun k=>l.length - k) 0 ?_ ?_ ?_
 · exact⟨by omega,by omega⟩
 · exact cU rfl
 ·
  rintro k hC
  obtain ⟨h1,h2⟩:=hC
  refine aC (fun K4 hK4=>(aB (aE aA 1 rfl (aD (hK4 _ (aC (fun K5 hK5=>(aO rfl (fun hc1=>?_) (fun hc1=>?_)))))))))
  ·
   simp only[bs] at hc1
   refine aR (hK5 _ (aC (fun K6 hK6=>(aU (aC (fun K7 hK7=>(aB (aE aA 2 rfl (aD (hK7 _ (aC (fun K8 hK8=>(aB (aE aA 3 rfl ?_))))))))))))))
   refine aI rfl (bJ rfl rfl eC cV (by first | exact ixm (by omega) | assumption | exact⟨by decide,rfl⟩)) ?_
   refine aE aA 1 rfl (aN hf rfl (aP rfl rfl hent (by rw[fT,hcl]; rfl) (hp _ (List.getElem_mem _))) ?_)
   refine aD (hK8 _ (aO rfl (fun hc2=>?_) (fun hc2=>?_)))
   ·
    refine aC (fun K9 hK9=>(aB (aE aA 2 rfl (aD (hK9 _ (aM ?_))))))
    refine⟨_,rfl,?_⟩
    refine eP ?_
    rw[nG (by omega) h2 (by assumption)]
   ·
    refine aR (hK6 _ (aB ?_))
    refine aI rfl (bQ rfl rfl (by omega) (by omega)) ?_
    refine aE aA 1 rfl (aD ?_)
    exact⟨k+1,⟨by omega,fun j hj hjk=>by
      by_cases e:j=k
      · subst e; simp_all
      · exact h2 j hj (by omega)⟩,by omega,cU rfl⟩
  ·
   simp only[bs] at hc1
   refine bI (hK2 _ (aC (fun K10 hK10=>(aB (aE aA 1 rfl (aD (hK10 _ (aM ?_))))))))
   refine⟨_,rfl,?_⟩
   refine eP ?_
   rw[pF (fun j hj=>h2 j hj (by omega))]
theorem aFm {g:Nat} {cap:List AV} (hent:∀ args w,(callFunc g args).run Tryz.prog w=.ok (.enter g args) w) (hcl:cleanL (fun _=>false) cap=true) (p:Us→Bool) (l:List Us) (hl:l.length≤9223372036854775807) (hp:∀ x∈l,Den Tryz.prog g (.agg (usC x)::cap) (·=.s (.bool (p x)))) :Den Tryz.prog 147 [.sl 2 (l.map usC),.fn g cap]  (·=.s (.bool (l.any p))):=by
 refine aY Tryz.func147 rfl (Nat.le_of_ble_eq_true rfl) (fun w0 A hf=>(aC (fun K1 hK1=>(aB (aE aA 1 rfl (aD (hK1 _ (aC (fun K2 hK2=>(aB (aE aA 2 rfl (aN hf rfl (aP rfl rfl aBs (by show (true&&(cleanL (fun _=>false) cap&&true))=true; rw[hcl]; rfl) (uB hent hcl p l hl hp)) ?_))))))))))))
 refine aE aA 2 rfl (aD (hK2 _ (aM ?_)))
 refine⟨_,rfl,?_⟩
 refine aQ ?_
 rw[← qB]
theorem aB4 {g:Nat} {cap:List AV} (hent:∀ args w,(callFunc g args).run Tryz.prog w=.ok (.enter g args) w) (hcl:cleanL (fun _=>false) cap=true) (hcv:∀ m,convL m cap=cap) (p:Us→Bool) (l:List Us) (n:Nat) (hn:n=l.length) (hl:l.length≤9223372036854775807) (hp:∀ x∈l,Den Tryz.prog g (.agg (usC x)::cap) (·=.s (.bool (p x)))) :DenM Tryz.prog 205 [.own E0 2 0 n,.fn g cap] 2 ((l.map usC)) (fun r ys=>r=.own E0 2 0 (l.filter fun x=>!p x).length∧ys=((l.filter fun x=>!p x).map usC)):=by
 subst hn
 have hq0:∀ j,((l.take j).filter fun x=>!p x).length≤j:=fun j=>gV _ l j
 have hq1:∀ j,((l.take j).filter fun x=>!p x).length≤l.length:=fun j=>gJ _ l j
 refine gK Tryz.func205 rfl (Nat.le_of_ble_eq_true rfl) (fun w0 x0 A hf=>?_)
 refine aC (fun K1 hK1=>(aB (aI rfl (bX) (aD (hK1 _ (aC (fun K2 hK2=>(aB (aE aA 2 rfl (aN hf rfl (qW rfl rfl (by show [AV.conv _ _,AV.fn g (convL _ cap)]=_; rw[hcv,cL (g:=E0) rfl (by simp)]) aBs (uB hent hcl p l hl hp) rfl) ?_))))))))))
 refine aE aA 1 rfl (aD (hK2 _ (aC (fun K3 hK3=>(aC (fun K4 hK4=>(aB (aE aA 2 rfl (aD (hK4 _ (aO rfl (fun hc1=>?_) (fun hc1=>?_))))))))))))
 ·
  simp only[bs] at hc1
  refine aC (fun K5 hK5=>(aB (aE aA 2 rfl (aD (hK5 _ (aM ?_))))))
  have hno:oO p l=-1:=by simpa using hc1
  rcases eE p l with ⟨_,hn⟩ | ⟨k,hk,e,_⟩
  · exact⟨_,.own E0 2 0 l.length,(l.map usC),Le.refl _,rfl,rfl,by rw[fS p l hn],by rw[fS p l hn]⟩
  · exfalso; omega
 ·
  simp only[bs] at hc1
  refine aR (hK3 _ (aC (fun K6 hK6=>(aC (fun K7 hK7=>(aB ?_))))))
  rcases eE p l with ⟨e0,_⟩ | ⟨k0,hk0,ek0,hpk0,hbef⟩
  · exact absurd e0 (by simpa using hc1)
  have hst:=kT (fun x=>!p x) l k0 hk0 (fun j hj hjk=>by simp [hbef j hj hjk]) (by simp [hpk0])
  rw[ek0]
  refine aE aA 1 rfl ?_
  refine aI rfl (bQ rfl rfl (by omega) (by omega)) ?_
  refine aE aA 1 rfl (aD (hK7 _ (aU (bW (ι:=Nat) (fun j=>⟨42,[(0,.own E0 2 0 l.length),(1,.fn g cap),(5,.s (.int .i64 (((l.take j).filter fun x=>!p x).length:Nat))),(6,.s (.int .i64 (j:Nat)))],[(E0,.buf 2 ((iR (fun x=>!p x) l j).map usC))]⟩) (fun j=>j≤l.length) (fun j=>l.length - j) (k0+1) ?_ ?_ ?_))))
  · exact hk0
  · rw[hst.1,hst.2]; exact jU ⟨rfl,rfl,rfl,rfl,trivial⟩
  ·
   rintro j hC
   let q:=fun x=>!p x
   have hle:((l.take j).filter q).length≤j:=hq0 j
   have hle2:((l.take j).filter fun x=>!p x).length≤j:=hq0 j
   refine aC (fun K8 hK8=>(aC (fun K9 hK9=>(aB (aE aA 4 rfl (aD (hK9 _ (aO rfl (fun hc2=>?_) (fun hc2=>?_)))))))))
   ·
    simp only[bs] at hc2
    refine aR (hK8 _ (aC (fun K10 hK10=>(aU (aC (fun K11 hK11=>(aB (aE aA 2 rfl ?_))))))))
    refine aI rfl (cF rfl rfl eC cV (by omega)) ?_
    refine aI rfl (cD rfl aHf cV rfl (qZ (c:=2) (k:=j) (enc:=usC) (by omega) (by rw[eF]; omega) rfl) (cs':=usC l[j]) (by rw[oD (c:=2) (k:=j) (enc:=usC) (by omega) (by rw[eF]; omega) rfl,pG q l j j (by omega) hle])) ?_
    refine cC hf rfl jM rfl cV rfl rfl rfl rfl (lf rfl) (aD (hK11 _ (aC (fun K12 hK12=>(aB (aE aA 2 rfl (aN hf rfl (aP rfl rfl hent (by rw[fT,hcl]; rfl) (hp _ (List.getElem_mem _))) ?_)))))))
    refine aE aA 1 rfl (aD (hK12 _ (aO rfl (fun hc3=>?_) (fun hc3=>?_))))
    ·
     simp only[bs] at hc3
     refine aC (fun K13 hK13=>(aB (aE aA 3 rfl ?_)))
     refine aI rfl (cF rfl rfl eC cV (by omega)) ?_
     refine bD hf rfl rfl cV rfl rfl (by simp [usC,AV.cells,AV.one,Value.oneCell',splice]) (by simp [usC,AV.cells,AV.leaf,Value.oneCell',splice]) (hU (c:=2) (k:=((l.take j).filter fun x=>!p x).length) (enc:=usC) (v:=l[j]) (by omega) (by rw[eF]; omega) rfl (Nat.le_refl _)) ?_
     refine aD (hK13 _ (aB ?_))
     rw[jJ (fun x=>!p x) l j (by omega) (by simp_all)]
     refine aE aA 1 rfl ?_
     refine aI rfl (bQ rfl rfl (by omega) (by omega)) ?_
     rw[lW (fun x=>!p x) l j (by omega) (by simp_all)]
     refine aE aA 1 rfl ?_
     refine bV ?_
     refine hK10 _ (aB (aE aA 1 rfl ?_))
     refine aI rfl (bQ rfl rfl (by omega) (by omega)) ?_
     refine aE aA 1 rfl (aD ?_)
     exact⟨j+1,(by omega),by omega,cU rfl⟩
    ·
     simp only[bs] at hc3
     rw[jK (fun x=>!p x) l j (by omega) (by simp_all),lX (fun x=>!p x) l j (by omega) (by simp_all)]
     refine aR (hK10 _ (aB (aE aA 1 rfl ?_)))
     refine aI rfl (bQ rfl rfl (by omega) (by omega)) ?_
     refine aE aA 1 rfl (aD ?_)
     exact⟨j+1,(by omega),by omega,cU rfl⟩
   ·
    simp only[bs] at hc2
    refine bI (hK6 _ (aC (fun K14 hK14=>(aB (aE aA 2 rfl ?_)))))
    refine aI rfl (eJ rfl eC cV rfl rfl (by omega) (by omega)) ?_
    refine vN hf jP jM (by simp [Value.oneCell']) rfl rfl ?_
    refine aD (hK14 _ (aC (fun K15 hK15=>(aB (aE aA 2 rfl ?_)))))
    refine aI rfl (eJ rfl eC cV rfl rfl (by omega) (by omega)) ?_
    refine aE aA 1 rfl (aD (hK15 _ (aM ?_)))
    have hjl:l.length≤j:=by omega
    have he:=nJ (fun x=>!p x) l j hjl
    refine⟨_,_,_,Le.refl _,rfl,rfl,?_,?_⟩
    · rw[List.take_of_length_le hjl]; rfl
    · rw[List.take_of_length_le hjl,Nat.zero_add,Int.toNat_natCast,← List.map_take,he]
theorem pL (l:List Us) (hl:l.length*40≤140737488355328) :DenO Tryz.prog 96 [.sl 2 (l.map usC)] 2 (·=(l.map usC)):=by
 refine fP Tryz.func96 rfl (Nat.le_of_ble_eq_true rfl) (fun w0 A hf=>?_)
 refine aC (fun K1 hK1=>(aB (aI rfl (bX) (aD (hK1 _ (aC (fun K2 hK2=>(aC (fun K3 hK3=>(aB (aE aA 1 rfl ?_)))))))))))
 refine nD rfl rfl rfl eC (fun b hb1=>?_)
 refine aD (hK3 _ (aO rfl (fun hc2=>?_) (fun hc2=>?_)))
 ·
  have hl0:l=[]:=by simpa using hb1 (by assumption)
  refine aC (fun K4 hK4=>(aB (qS hf 2 rfl rfl rfl (aD (hK4 _ (aM ?_))))))
  exact⟨2,[],by decide,rfl,rfl,by rw[hl0]; rfl⟩
 ·
  refine aR (hK2 _ (aC (fun K5 hK5=>(aB (cR hf rfl rfl rfl jP rfl rfl rfl rfl (l2 rfl) ?_)))))
  refine aE aA 1 rfl (dQ hf rfl jP rfl rfl rfl (.inl rfl) rfl rfl (by first | rfl | simp [iS,bU]) (by first | (simp only[maxLen,List.length_map,List.length_append,List.length_cons,List.length_nil]; omega) | (simp [maxLen] <;> omega)) (by first | (simp only[List.length_map,List.length_append,List.length_cons,List.length_nil]; omega) | (simp <;> omega)) ?_)
  refine cB (iK [7] rfl) (aE aA 1 rfl (aD (hK5 _ (aM ?_))))
  refine⟨5,(l.map usC),by decide,rfl,?_,rfl⟩
  show some (AV.own 5 2 0 (0+(l.map usC).length))=_
  rw[Nat.zero_add]
theorem aQo (n:Nat) (hn:n*40≤140737488355328) :DenO Tryz.prog 211 [.s (.slice none 0 0),.s (.int .i64 (n:Nat))] 2 (·=[]):=by
 refine fP Tryz.func211 rfl (Nat.le_of_ble_eq_true rfl) (fun w0 A hf=>?_)
 refine aC (fun K1 hK1=>(aB (aI rfl (bX) (aD (hK1 _ (aC (fun K2 hK2=>(aC (fun K3 hK3=>(aB (aE aA 2 rfl (aD (hK3 _ (aO rfl (fun hc1=>?_) (fun hc1=>?_)))))))))))))))
 ·
  simp only[bs] at hc1
  omega
 ·
  simp only[bs] at hc1
  refine aR (hK2 _ (aC (fun K4 hK4=>(aC (fun K5 hK5=>(aB (aE aA 2 rfl (aI rfl (lS rfl eC) (aE aA 2 rfl ?_)))))))))
  refine aI rfl (eU rfl rfl (by omega) (by omega)) ?_
  refine aI rfl (eU rfl rfl (by omega) (by omega)) ?_
  refine aE aA 1 rfl (aD (hK5 _ (aC (fun K6 hK6=>(aB (aE aA 2 rfl (aD (hK6 _ (aO rfl (fun hc2=>?_) (fun hc2=>?_))))))))))
  ·
   simp only[bs] at hc2
   refine aB (aE aA 2 rfl (aI rfl (lS rfl eC) ?_))
   refine aI rfl (qY rfl eC cV rfl) ?_
   refine aE aA 1 rfl (vO hf rfl rfl rfl jP Tryz.underlying3 rfl rfl (by omega) (by omega) (by simp only[maxLen]; omega) ?_)
   refine aE aA 2 rfl ?_
   refine aI rfl (eJ rfl eC cV rfl rfl (by omega) (by omega)) ?_
   refine aE aA 1 rfl (aD (hK4 _ (aC (fun K7 hK7=>(aB (aE aA 1 rfl ?_))))))
   refine aI rfl (uN rfl) ?_
   refine aD (hK7 _ (aM ?_))
   exact⟨22,[],by decide,rfl,rfl,rfl⟩
  ·
   simp only[bs] at hc2
   refine aR (hK4 _ (aC (fun K8 hK8=>(aB (aE aA 1 rfl ?_)))))
   refine aHl hf 2 rfl rfl rfl rfl ?_
   refine aD (hK8 _ (aM ?_))
   exact⟨4,[],by decide,rfl,rfl,rfl⟩
theorem aJb (rows:List (List Us)) (hl:rows.length≤9223372036854775807) (hb:rows.flatten.length*40≤140737488355328) :DenO Tryz.prog 162 [.sl 1 (rows.map fun r=>[AV.sl 2 (r.map usC)])] 2 (·=(rows.flatten.map usC)):=by
 refine fP Tryz.func162 rfl (Nat.le_of_ble_eq_true rfl) (fun w0 A hf=>?_)
 refine aC (fun K1 hK1=>(aB (aI rfl (bX) (aD (hK1 _ (aC (fun K2 hK2=>(aB (aE aA 1 rfl (aD (hK2 _ (aC (fun K3 hK3=>(aC (fun K4 hK4=>(aB ?_))))))))))))))))
 refine aE aA 3 rfl (aD (hK4 _ (aU (bW (ι:=Nat) (fun k=>⟨36,[(0,.sl 1 (rows.map fun r=>[AV.sl 2 (r.map usC)])),(3,.s (.int .i64 ((rows.take k).flatten.length:Nat))),(9,.sl 1 (rows.map fun r=>[AV.sl 2 (r.map usC)])),(10,.s (.int .i64 ((rows.map fun r=>[AV.sl 2 (r.map usC)]).length:Nat))),(11,.s (.int .i64 (k:Nat)))],[]⟩) (fun k=>k≤rows.length) (fun k=>rows.length - k) 0 ?_ ?_ ?_))))
 · exact Nat.zero_le _
 · exact cU rfl
 ·
  rintro k hC
  refine aC (fun K5 hK5=>(aB (aE aA 1 rfl (aD (hK5 _ (aC (fun K6 hK6=>(aO rfl (fun hc1=>?_) (fun hc1=>?_)))))))))
  ·
   simp only[bs] at hc1
   refine aR (hK6 _ (aC (fun K7 hK7=>(aU (aC (fun K8 hK8=>(aB ?_)))))))
   refine aI rfl (bJ rfl rfl aHh mZ (by first | exact ixm (by omega) | assumption | exact⟨by decide,rfl⟩)) ?_
   refine aE aA 2 rfl (aD (hK8 _ (aC (fun K9 hK9=>(aB ?_)))))
   have hk:k<rows.length:=by omega
   have e1:=congrArg List.length (hJ rows k hk)
   rw[List.length_append] at e1
   have e2:=rD rows (k+1)
   have e3:(rows[k].map usC).length=rows[k].length:=List.length_map _
   refine aE aA 3 rfl ?_
   refine aI rfl (bQ rfl rfl (by omega) (by omega)) ?_
   rw[show ((((rows.take k).flatten.length:Nat):Int)+(((rows[k].map usC).length:Nat):Int))=(((rows.take (k+1)).flatten.length:Nat):Int) from by omega]
   refine aE aA 1 rfl (aD (hK9 _ (aC (fun K10 hK10=>(aB (aE aA 2 rfl (aD (hK10 _ (aO rfl (fun hc2=>?_) (fun hc2=>?_))))))))))
   ·
    simp only[bs] at hc2
    omega
   ·
    simp only[bs] at hc2
    refine aR (hK7 _ (aB ?_))
    refine aI rfl (bQ rfl rfl (by omega) (by omega)) ?_
    refine aE aA 1 rfl (aD ?_)
    exact⟨k+1,(by omega),by omega,cU rfl⟩
  ·
   simp only[bs] at hc1
   refine bI (hK3 _ (aC (fun K11 hK11=>(aB ?_))))
   rw[List.take_of_length_le (show rows.length≤k by omega)]
   refine aE aA 1 rfl (gP hf rfl rfl rfl rfl rfl aL2 rfl (aQo rows.flatten.length (by omega)) ?_)
   rintro _ rfl
   refine aE aA 1 rfl (aD (hK11 _ (aC (fun K12 hK12=>(aC (fun K13 hK13=>(aB (aE aA 3 rfl (aD (hK13 _ (aU (bW (ι:=Nat) (fun j=>⟨36,[(6,.own 24 2 0 (rows.take j).flatten.length),(25,.sl 1 (rows.map fun r=>[AV.sl 2 (r.map usC)])),(26,.s (.int .i64 ((rows.map fun r=>[AV.sl 2 (r.map usC)]).length:Nat))),(27,.s (.int .i64 (j:Nat)))],[(24,.buf 2 ((rows.take j).flatten.map usC))]⟩) (fun j=>j≤rows.length) (fun j=>rows.length - j) 0 ?_ ?_ ?_))))))))))))
   · exact Nat.zero_le _
   · exact cU rfl
   ·
    rintro j hC
    refine aC (fun K14 hK14=>(aB (aE aA 1 rfl (aD (hK14 _ (aC (fun K15 hK15=>(aO rfl (fun hc3=>?_) (fun hc3=>?_)))))))))
    ·
     simp only[bs] at hc3
     refine aR (hK15 _ (aC (fun K16 hK16=>(aU (aC (fun K17 hK17=>(aB ?_)))))))
     refine aI rfl (bJ rfl rfl aHh mZ (by first | exact ixm (by omega) | assumption | exact⟨by decide,rfl⟩)) ?_
     refine aE aA 2 rfl (aD (hK17 _ (aB ?_)))
     have hj:j<rows.length:=by omega
     have e1:=congrArg List.length (hJ rows j hj)
     rw[List.length_append] at e1
     have e2:=rD rows (j+1)
     have e3:(rows[j].map usC).length=rows[j].length:=List.length_map _
     refine aE aA 2 rfl (dQ hf rfl jP rfl rfl rfl (.inl rfl) (by simp only[List.length_map]) rfl (by first | rfl | simp [iS,bU]) (by first | (simp only[maxLen,List.length_map,List.length_append,List.length_cons,List.length_nil]; omega) | (simp [maxLen] <;> omega)) (by first | (simp only[List.length_map,List.length_append,List.length_cons,List.length_nil]; omega) | (simp <;> omega)) ?_)
     refine cB (iK [25,26,27,33] rfl) ?_
     rw[show (rows.take j).flatten.length+(rows[j].map usC).length=(rows.take (j+1)).flatten.length from by omega,← List.map_append,← hJ rows j hj]
     refine aE aA 1 rfl ?_
     refine bV ?_
     refine hK16 _ (aB ?_)
     refine aI rfl (bQ rfl rfl (by omega) (by omega)) ?_
     refine aE aA 1 rfl (aD ?_)
     exact⟨j+1,(by omega),by omega,cU rfl⟩
    ·
     simp only[bs] at hc3
     refine bI (hK12 _ (aC (fun K18 hK18=>(aB (aE aA 2 rfl (aD (hK18 _ (aM ?_))))))))
     refine⟨24,(rows.flatten.map usC),by decide,?_,?_,rfl⟩
     · rw[List.take_of_length_le (show rows.length≤j by omega)]; rfl
     · rw[List.take_of_length_le (show rows.length≤j by omega)]
       show some (AV.own 24 2 0 rows.flatten.length)=_
       rw[List.length_map]
end Go.Proofs.YtijnkglkchhomaaGreat
