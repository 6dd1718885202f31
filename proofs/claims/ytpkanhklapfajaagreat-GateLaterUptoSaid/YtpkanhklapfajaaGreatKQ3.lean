import Derived.WalkKit
import Derived.WalkSpells
import Derived.WalkLawsBesides
import Derived.Deep.LoopGhost
import Derived.ChangeKeysEq
import Derived.Still
import Derived.Lib.AppendZeros
import Derived.Laws.StructEq
import Derived.OpenShut
import Derived.Scope
import Derived.Shelf.SlSortCmp.Kit1
import Derived.Shelf.SlSortCmp.InsertionK
import Derived.Lib.SlicesCompact
import Derived.ProofKit
import Derived.ChangeSame
import Derived.Carry
import Derived.SliceStrings
import Derived.ChangeMaps5
import Derived.Deep.Slices
import Derived.Test.YtpkanhklapfajaaGreatRows
import Derived.Shelf.Abstract
import Derived.Shelf.SlSortCmp.WholeK
import Derived.Shelf.SlSortCmp.Whole1
import Derived.Shelf.SlSortCmp.NoneTotal
import Derived.Deep.RegionLaw
import Derived.Lib.Walk
import Derived.Lib.Overlaps
import Derived.Lib.AppendZerosOnto
import Derived.Laws.CopyRow
import Derived.Test.YtpkanhklapfajaaGreatKQ1
import Derived.Test.YtpkanhklapfajaaGreatKQ2
set_option maxRecDepth 20000
set_option maxHeartbeats 16000000
set_option linter.unusedVariables false
namespace Go.Abs
open Go
def spC (s:Sp):List AV:=[.s (.int .i64 s.1),.s (.int .i64 s.2)]
theorem aWs (s:Sp):∀ c∈spC s,c.leaf=true:=by simp [spC,AV.leaf,Value.oneCell']
def kH (a b:Int):Int:=if a<b then -1 else if b<a then 1 else 0
theorem uP {l:List Sp} (h:0<l.length):l.getLast?=some (l[l.length - 1]'(by omega)):=by
  rw[List.getLast?_eq_getElem?,List.getElem?_eq_getElem (by omega)]
theorem aLi {l:List Sp} (h:0<l.length) (x:Sp):l.dropLast++[x]=l.set (l.length - 1) x:=by
  rcases List.eq_nil_or_concat l with rfl | ⟨i,y,rfl⟩
  · simp at h
  · rw[List.concat_eq_append,List.dropLast_concat]
    simp
theorem yO {out:List Sp} {s:Sp} (h:0<out.length) (h1:s.1≤(out[out.length - 1]'(by omega)).2):dF out s=out.set (out.length - 1) ((out[out.length - 1]'(by omega)).1,max (out[out.length - 1]'(by omega)).2 s.2):=by
  simp only[dF,uP h]
  rw[if_pos h1,aLi h]
theorem yP {out:List Sp} {s:Sp} (h:0<out.length) (h1:¬ s.1≤(out[out.length - 1]'(by omega)).2):dF out s=out++[s]:=by
  simp only[dF,uP h]
  rw[if_neg h1]
theorem pF (out:List Sp) (s:Sp):(dF out s).length≤out.length+1:=by
  by_cases h:0<out.length
  · by_cases h1:s.1≤(out[out.length - 1]'(by omega)).2
    · rw[yO h h1]; simp
    · rw[yP h h1]; simp
  · have:out=[]:=List.eq_nil_of_length_eq_zero (by omega)
    subst this; simp [dF]
theorem aXz:Go.Sort.SWO (fun x y:Sp=>decide (kH x.1 y.1<0)):=by
  have h:∀ x y:Sp,decide (kH x.1 y.1<0)=decide (x.1<y.1):=by
    intro x y
    unfold kH
    rw[Bool.eq_iff_iff]; simp only[decide_eq_true_eq]
    (repeat' split) <;> omega
  exact⟨fun x=>by rw[h]; simp,fun x y z=>by rw[h,h,h]; simp; omega,fun x y z=>by rw[h,h,h]; simp; omega⟩
theorem cmpI_le {x y:Int} (h:¬ kH y x<0):x≤y:=by
  unfold kH at h
  split at h
  · omega
  · omega
def wI (s:Sp):Bool:=decide (s.2≤s.1)
theorem aIa (l:List Sp):(l.filter fun x=>!wI x)=l.filter pI:=by
  congr 1; funext x; unfold wI pI; rw[Bool.eq_iff_iff]; simp
theorem aU4 {l ms:List Sp} (hp:ms.Perm (l.filter fun x=>!wI x)) (hs:ms.Pairwise (fun x y=>¬ kH y.1 x.1<0)):ms.foldl dF []=dC l:=by
  rw[aIa] at hp
  exact aF7 hp (hs.imp fun h=>cmpI_le h)
theorem aRf (a b:List Sp) (k:Nat) (h:k<a.length):sV (a.take k) b++b.map (eD a[k])=sV (a.take (k+1)) b:=by
  simp only[sV]
  rw[List.take_add_one,List.getElem?_eq_getElem h,List.flatMap_append]
  simp
def aKx (n:Int):List AV:=[.s (.int .i64 n)]
def aEj (l:List Int) (n:Int) (k:Nat) (out:List Int) (done:Bool):Prop:=lB l n=out++(if done=true then l.drop k else lB (l.drop k) n)∧out.length≤k+(if done=true then 1 else 0)
theorem aUs (l:List Int) (n:Int):aEj l n 0 [] false:=⟨by simp,by simp⟩
theorem put_le {l:List Int} {n:Int} {k:Nat} {out:List Int} {done:Bool} (h:aEj l n k out done):out.length≤k+1:=by
  have:=h.2; split at this <;> omega
theorem put_eq {l:List Int} {n:Int} {k:Nat} {out:List Int} {done:Bool} (h:aEj l n k out done) (hk:k<l.length) (e:l[k]=n):aEj l n (k+1) (out++[l[k]]) true:=by
  obtain ⟨h1,h2⟩:=h
  refine⟨?_,?_⟩
  · rw[h1,List.drop_eq_getElem_cons hk]
    have:lB (l[k]::l.drop (k+1)) n=l[k]::l.drop (k+1):=by simp only[lB]; rw[if_neg (by omega),if_pos e]
    rw[this,ite_self]; simp only[List.append_assoc,List.singleton_append,if_true]
  · simp only[List.length_append,List.length_cons,List.length_nil,if_true]
    split at h2 <;> omega
theorem aW0 {l:List Int} {n:Int} {k:Nat} {out:List Int} {done:Bool} (hd:done=true) (h:aEj l n k out done) (hk:k<l.length):aEj l n (k+1) (out++[l[k]]) done:=by
  subst hd
  obtain ⟨h1,h2⟩:=h
  simp only[if_true] at h1 h2
  refine⟨?_,by simp; omega⟩
  rw[h1,List.drop_eq_getElem_cons hk]; simp
theorem put_ins {l:List Int} {n:Int} {k:Nat} {out:List Int} {done:Bool} (hd:done=false) (h:aEj l n k out done) (hk:k<l.length) (e:n<l[k]):aEj l n (k+1) (out++[n]++[l[k]]) true:=by
  subst hd
  obtain ⟨h1,h2⟩:=h
  simp only[Bool.false_eq_true,if_false] at h1 h2
  refine⟨?_,by simp; omega⟩
  rw[h1,List.drop_eq_getElem_cons hk]
  simp only[lB]; rw[if_pos e]; simp
theorem put_go {l:List Int} {n:Int} {k:Nat} {out:List Int} {done:Bool} (hd:done=false) (h:aEj l n k out done) (hk:k<l.length) (e:¬ n<l[k]) (e2:¬ l[k]=n):aEj l n (k+1) (out++[l[k]]) done:=by
  subst hd
  obtain ⟨h1,h2⟩:=h
  simp only[Bool.false_eq_true,if_false] at h1 h2
  refine⟨?_,by simp; omega⟩
  rw[h1,List.drop_eq_getElem_cons hk]
  simp only[lB]; rw[if_neg e,if_neg e2]; simp
theorem aTr {l:List Int} {n:Int} {k:Nat} {out:List Int} {done:Bool} (h:aEj l n k out done) (hk:l.length≤k):lB l n=out++(if done=true then [] else [n]):=by
  rw[h.1,List.drop_eq_nil_of_le hk]; simp [lB]
def aT4 (out:List Int) (s:Sp):List Int:=lB (lB out s.1) s.2
theorem cV {out:List Sp} {s:Sp} (h:0<out.length) (e:(out[out.length - 1]'(by omega)).2=s.1):dU out s=out.take (out.length - 1)++[((out[out.length - 1]'(by omega)).1,s.2)]:=by
  simp only[dU,uP h]
  rw[if_pos e,List.dropLast_eq_take]
theorem aRo {out:List Sp} {s:Sp} (h:0<out.length) (e:¬ (out[out.length - 1]'(by omega)).2=s.1):dU out s=out++[s]:=by
  simp only[dU,uP h]
  rw[if_neg e]
theorem nU (p:Int→Bool) (out:List Sp) (e:List Int) (k:Nat) (h:k+1<e.length):gG p out (e.drop k)=gG p (if p e[k]=true then dU out (e[k],e[k+1]) else out) (e.drop (k+1)):=by
  rw[List.drop_eq_getElem_cons (show k<e.length by omega),List.drop_eq_getElem_cons h]
  rfl
theorem aCz (p:Int→Bool) (out:List Sp) (e:List Int) (k:Nat) (h:e.length≤k+1):gG p out (e.drop k)=out:=by
  have:(e.drop k).length≤1:=by simp; omega
  generalize e.drop k=q at this
  match q,this with
  | [],_=>rfl
  | [a],_=>rfl
section
variable {P:Program}
theorem aOq {t:TypeId} (ht:P.underlying t=some .bool) {a b:Bool} (h:a=b):uW P .eql t (.bool a) (.bool b)=some (.bool true):=by
  subst h; simp [uW,ht]
theorem iO {t:TypeId} {k:IntKind} {a b:Int} (h:a=b):uW P .eql t (.int k a) (.int k b)=some (.bool true):=by
  subst h; simp [uW,aCh]
end
end Go.Abs
set_option linter.unusedSimpArgs false
namespace Go.Abs
theorem aU5 (a b:List Sp):mL b a=mL a b :=
  nY _ _ (gP b a).1 (gP a b).1 fun t=>by rw[(gP b a).2,(gP a b).2,Bool.and_comm]
end Go.Abs
set_option linter.unusedVariables false
set_option linter.unusedSimpArgs false
namespace Go.Abs
open Go
end Go.Abs
set_option linter.unusedVariables false
set_option linter.unusedSimpArgs false
namespace Go.Abs
abbrev Pr:=ByteArray×ByteArray
abbrev En:=Pr×Sp
def prC (p:Pr):List AV:=[.s (.string p.1),.s (.string p.2)]
def enC (e:En):List AV:=[.s (.string e.1.1),.s (.string e.1.2),.s (.int .i64 e.2.1),.s (.int .i64 e.2.2)]
theorem cmpI_tri:Tri kH:=by
  refine⟨fun x y=>?_,fun x y=>?_,fun x y z=>?_⟩ <;> unfold kH <;> (repeat' split) <;> omega
theorem cmpB_tri:Tri eR:=⟨rS,qX,fun _ _ _=>aIp⟩
def tL (p q:Pr):Int:=xW p.1 p.2 q.1 q.2
theorem aJa:tL=wN (fun p q:Pr=>eR p.1 q.1) (fun p q=>eR p.2 q.2):=by
  funext p q
  simp only[tL,xW,orI,wN]
  (repeat' split) <;> simp_all
theorem pairC_tri:Tri tL:=by
  rw[aJa]
  exact(cmpB_tri.comap Prod.fst).lex (cmpB_tri.comap Prod.snd)
theorem aF3 {p q:Pr}:tL p q=0↔p=q:=by
  rw[aJa,tO,uT,uT,Prod.ext_iff]
def nW (a b:En):Int:=orI [tL a.1 b.1,kH a.2.1 b.2.1]
theorem wH:nW=wN (fun a b:En=>tL a.1 b.1) (fun a b=>kH a.2.1 b.2.1):=by
  funext p q
  simp only[nW,orI,wN]
  (repeat' split) <;> simp_all
theorem ordE_tri:Tri nW:=by
  rw[wH]
  exact(pairC_tri.comap Prod.fst).lex (cmpI_tri.comap fun a:En=>a.2.1)
def iI (p:Pr) (e:En):Bool:=decide (e.1=p)&&decide (e.2.2=1099511627776)
def onB (l:List En) (p:Pr):Bool:=l.any (iI p)
theorem onB_iff {l:List En} {p:Pr}:onB l p=true↔∃ e∈l,e.1=p∧e.2.2=1099511627776:=by simp [onB,iI]
def aB7:List En→En→List En
  | [],e=>[e]
  | x::l,e=>if 0<nW x e then e::x::l else x::aB7 l e
theorem aK1 (e:En):∀ (l:List En) (k:Nat),k≤l.length→(∀ (j:Nat) (hj:j<l.length),j<k→¬ 0<nW l[j] e)→(∀ (h:k<l.length),0<nW l[k] e)→aB7 l e=l.take k++e::l.drop k
  | [],k,hk,_,_=>by
                          have:k=0:=by simpa using hk
                          subst this; rfl
  | x::l,0,_,_,h=>by have:=h (by simp); simp only[List.getElem_cons_zero] at this; simp [aB7,this]
  | x::l,k+1,hk,h1,h2=>by
    have hx:=h1 0 (by simp) (by omega)
    simp only[List.getElem_cons_zero] at hx
    rw[aB7,if_neg hx,aK1 e l k (by simpa using hk) (fun j hj hjk=>by have:=h1 (j+1) (by simpa using hj) (by omega); simpa using this) (fun h=>by have:=h2 (by simpa using h); simpa using this)]
    rfl
theorem aNw (e:En):∀ l:List En,(aB7 l e).length=l.length+1
  | []=>rfl
  | x::l=>by rw[aB7]; split <;> simp [aNw e l]
theorem wQ {e x:En}:∀ {l:List En},x∈aB7 l e↔x=e∨x∈l
  | []=>by simp [aB7]
  | y::l=>by
    rw[aB7]; split
    · simp
    · simp only[List.mem_cons,wQ (l:=l)]
      constructor
      · rintro (h | h | h) <;> simp [h]
      · rintro (h | h | h) <;> simp [h]
def lC (l:List En) (p:Pr) (t:Int):List En:=aB7 l (p,(t,1099511627776))
def wD (e:En) (t:Int):List En:=if t≤e.2.1 then [] else [(e.1,(e.2.1,t))]
def mH:List En→Pr→Int→List En
  | [],_,_=>[]
  | e::l,p,t=>if iI p e=true then wD e t++l else e::mH l p t
theorem aEp (p:Pr) (t:Int):∀ (l:List En) (k:Nat) (hk:k<l.length),(∀ (j:Nat) (hj:j<l.length),j<k→iI p l[j]=false)→iI p l[k]=true→mH l p t=l.take k++(wD l[k] t++l.drop (k+1))
  | [],k,hk,_,_=>by simp at hk
  | x::l,0,_,_,h=>by simp only[List.getElem_cons_zero] at h; simp [mH,h]
  | x::l,k+1,hk,h1,h2=>by
    have hx:=h1 0 (by simp) (by omega)
    simp only[List.getElem_cons_zero] at hx
    rw[mH,if_neg (by simp [hx]),aEp p t l k (by simpa using hk) (fun j hj hjk=>by have:=h1 (j+1) (by simpa using hj) (by omega); simpa using this) (by simpa using h2)]
    rfl
def ofB (p:Pr) (e:En):Bool:=decide (e.1=p)
def dS (l:List En) (p:Pr):List Sp:=dC ((l.filter (ofB p)).map Prod.snd)
def aA0 (u:ByteArray) (e:En):Bool:=tK e.1.1 e.1.2 u
def okE (e:En):Bool:=decide (e.2.1<e.2.2)&&(cF e.1.1&&cF e.1.2)
def aJe (a b:En):Bool:=decide (nW a b<0)&&!(decide (a.1=b.1)&&decide (b.2.1<a.2.2))
def rY (l:List En):Bool:=nP okE aJe none l
end Go.Abs
set_option linter.unusedVariables false
set_option linter.unusedSimpArgs false
namespace Go.Abs
abbrev bI:=Sp×(Int×Int)
def stC (s:bI):List AV:=[.s (.int .i64 s.1.1),.s (.int .i64 s.1.2),.s (.int .i64 s.2.1),.s (.int .i64 s.2.2)]
def jG (a b:bI):Int:=orI [kH a.1.1 b.1.1,kH a.1.2 b.1.2,kH a.2.1 b.2.1,kH a.2.2 b.2.2]
theorem aOj:jG=wN (fun a b:bI=>kH a.1.1 b.1.1) (wN (fun a b=>kH a.1.2 b.1.2) (wN (fun a b=>kH a.2.1 b.2.1) (fun a b=>kH a.2.2 b.2.2))):=by
  funext p q
  simp only[jG,orI,wN]
  (repeat' split) <;> simp_all
theorem cmpS_tri:Tri jG:=by
  rw[aOj]
  exact(cmpI_tri.comap fun a:bI=>a.1.1).lex ((cmpI_tri.comap fun a:bI=>a.1.2).lex ((cmpI_tri.comap fun a:bI=>a.2.1).lex (cmpI_tri.comap fun a:bI=>a.2.2)))
theorem sN {a b:Int}:kH a b=0↔a=b:=by unfold kH; (repeat' split) <;> omega
theorem aLm {a b:bI}:jG a b=0↔a=b:=by
  rw[aOj,tO,tO,tO,sN,sN,sN,sN,Prod.ext_iff,Prod.ext_iff,Prod.ext_iff,and_assoc]
def okS (s:bI):Bool:=decide (s.1.1<s.1.2)
def vJ (a b:bI):Bool:=decide (jG a b<0)
def vN (l:List bI):Bool:=nP okS vJ none l
theorem pQ (l:List bI):vN l=true↔(∀ x∈l,okS x=true)∧l.Pairwise fun a b=>jG a b<0:=by
  rw[vN,tH (fun a b=>jG a b<0) (fun x y=>by simp [vJ]) (fun x y z _ h1 h2=>cmpS_tri.lt_tr h1 h2)]
  simp
theorem yZ {α:Type} {c:α→α→Int} (hc:Tri c) (h0:∀ x y,c x y=0→x=y):∀ {a b:List α},Srt c a→Srt c b→a.Perm b→a=b
  | [],b,_,_,hp=>by have:=hp.length_eq; exact(List.eq_nil_of_length_eq_zero (by simpa using this.symm)).symm
  | x::a,[],_,_,hp=>by have:=hp.length_eq; simp at this
  | x::a,y::b,ha,hb,hp=>by
    have e:x=y:=by
      have h1:x∈y::b:=hp.mem_iff.1 (by simp)
      have h2:y∈x::a:=hp.mem_iff.2 (by simp)
      rcases List.mem_cons.1 h1 with e | h1
      · exact e
      · rcases List.mem_cons.1 h2 with e | h2
        · exact e.symm
        · have e1:=(List.pairwise_cons.1 ha).1 y h2
          have e2:=(List.pairwise_cons.1 hb).1 x h1
          have:=hc.swap x y
          exact h0 x y (by omega)
    subst e
    rw[yZ hc h0 (List.pairwise_cons.1 ha).2 (List.pairwise_cons.1 hb).2 (List.Perm.cons_inv hp)]
def aK2:List bI→bI→List bI
  | [],x=>[x]
  | y::r,x=>if jG x y<0 then x::y::r else y::aK2 r x
theorem aB8 (x:bI):∀ l:List bI,(aK2 l x).Perm (x::l)
  | []=>.refl _
  | y::l=>by
    rw[aK2]; split
    · exact .refl _
    · exact((aB8 x l).cons y).trans (List.Perm.swap x y l)
theorem aNx {x:bI}:∀ {l:List bI},Srt jG l→Srt jG (aK2 l x)
  | [],_=>List.pairwise_singleton _ _
  | y::l,h=>by
    obtain ⟨h1,h2⟩:=List.pairwise_cons.1 h
    rw[aK2]; split
    · rename_i h0
      refine List.pairwise_cons.2 ⟨fun z hz=>?_,h⟩
      rcases List.mem_cons.1 hz with rfl | hz
      · omega
      · exact cmpS_tri.tr x y z (by omega) (h1 z hz)
    · rename_i h0
      refine List.pairwise_cons.2 ⟨fun z hz=>?_,aNx h2⟩
      rcases List.mem_cons.1 ((aB8 x l).mem_iff.1 hz) with rfl | hz
      · have:=cmpS_tri.swap z y; omega
      · exact h1 z hz
def vX (l:List bI):List bI:=l.foldl aK2 []
theorem aFe:∀ (l out:List bI),Srt jG out→Srt jG (l.foldl aK2 out)∧(l.foldl aK2 out).Perm (out++l)
  | [],out,h=>⟨h,by simp⟩
  | x::l,out,h=>by
    obtain ⟨h1,h2⟩:=aFe l (aK2 out x) (aNx h)
    exact⟨h1,h2.trans (((aB8 x out).append_right l).trans List.perm_middle.symm)⟩
theorem aIx (l:List bI):Srt jG (vX l):=(aFe l [] List.Pairwise.nil).1
theorem oP (l:List bI):(vX l).Perm l:=(aFe l [] List.Pairwise.nil).2
theorem vW {l t:List bI} (hp:t.Perm l) (hs:Srt jG t):t=vX l :=
  yZ cmpS_tri (fun _ _ h=>aLm.1 h) hs (aIx l) (hp.trans (oP l).symm)
theorem aBr (l:List bI):(vX l).length=l.length:=(oP l).length_eq
def aEf:List bI→bI→List bI
  | [],s=>[s]
  | x::l,s=>if (x::l).all (fun y=>decide (0<jG y s))=true then s::x::l else x::aEf l s
theorem aKz (s:bI):∀ (l:List bI) (k:Nat),k≤l.length→(∀ (j:Nat) (hj:j<l.length),k≤j→0<jG l[j] s)→(∀ (h0:0<k) (h:k - 1<l.length),jG l[k - 1] s≤0)→aEf l s=l.take k++s::l.drop k
  | [],k,hk,_,_=>by
                          have:k=0:=by simpa using hk
                          subst this; rfl
  | x::l,0,_,h,_=>by
    rw[aEf,if_pos]
    · rfl
    · rw[List.all_eq_true]
      intro y hy
      obtain ⟨j,hj,rfl⟩:=List.mem_iff_getElem.1 hy
      simpa using h j hj (Nat.zero_le _)
  | x::l,k+1,hk,h1,h2=>by
    have hn:=h2 (by omega) (by simp at hk ⊢; omega)
    rw[aEf,if_neg]
    · rw[aKz s l k (by simpa using hk) (fun j hj hkj=>by have:=h1 (j+1) (by simpa using hj) (by omega); simpa using this) (fun h0 h=>by
        have e:(x::l)[k+1 - 1]'(by simp at hk ⊢; omega)=l[k - 1]'h:=by
          simp only[Nat.add_sub_cancel]
          obtain ⟨k',rfl⟩:∃ k',k=k'+1:=⟨k - 1,by omega⟩
          simp
        rw[e] at hn; exact hn)]
      rfl
    · rw[List.all_eq_true]
      intro hall
      have:=hall _ (List.getElem_mem (show k+1 - 1<(x::l).length by simp at hk ⊢; omega))
      simp only[decide_eq_true_eq] at this
      omega
theorem iT (s:bI):∀ l:List bI,(aEf l s).Perm (s::l)
  | []=>.refl _
  | x::l=>by
    rw[aEf]; split
    · exact .refl _
    · exact((iT s l).cons x).trans (List.Perm.swap s x l)
theorem aGd (l:List bI) (s:bI):(aEf l s).length=l.length+1:=by simpa using (iT s l).length_eq
theorem rP {s:bI}:∀ {l:List bI},Srt jG l→Srt jG (aEf l s)
  | [],_=>List.pairwise_singleton _ _
  | x::l,h=>by
    obtain ⟨h1,h2⟩:=List.pairwise_cons.1 h
    rw[aEf]; split
    · rename_i h0
      rw[List.all_eq_true] at h0
      refine List.pairwise_cons.2 ⟨fun z hz=>?_,h⟩
      have:=h0 z hz
      simp only[decide_eq_true_eq] at this
      have:=cmpS_tri.swap z s; omega
    · rename_i h0
      refine List.pairwise_cons.2 ⟨fun z hz=>?_,rP h2⟩
      rcases List.mem_cons.1 ((iT s l).mem_iff.1 hz) with rfl | hz
      · -- some one of the row is not above it: so the first one is not
        have h3:∃ y∈x::l,¬ 0<jG y z:=by
          apply Classical.byContradiction
          intro hn
          exact h0 (List.all_eq_true.2 fun y hy=>by
            simp only[decide_eq_true_eq]
            apply Classical.byContradiction
            intro hh
            exact hn ⟨y,hy,hh⟩)
        obtain ⟨y,hy,hyz⟩:=h3
        rcases List.mem_cons.1 hy with rfl | hy
        · omega
        · exact cmpS_tri.tr x y z (h1 y hy) (by omega)
      · exact h1 z hz
def iL (l:List bI) (s:bI):List bI:=if s.1.2≤s.1.1 then l else aEf l s
theorem tS (l:List bI) (s:bI):(iL l s).length≤l.length+1:=by
  unfold iL; split
  · omega
  · rw[aGd]; omega
def kU (s:bI) (b:Sp):List bI:=if (eD s.1 b).2≤(eD s.1 b).1 then [] else [(eD s.1 b,s.2)]
def fF (l:List bI) (by':List Sp):List bI:=l.flatMap fun s=>by'.flatMap (kU s)
def sA (l:List bI) (b:List Sp):List bI:=vX (fF l (dC b))
def lN (acc:Int×Bool) (s:bI):Int×Bool:=if s.1.1<s.1.2∧(acc.2=false∨acc.1<s.1.2) then (s.1.2,true) else acc
def aT0 (l:List bI):Int×Bool:=l.foldl lN (0,false)
theorem aBq {l:List bI} (h:l.Pairwise fun a b=>jG a b<0):Srt jG l:=h.imp fun h=>by omega
theorem ris_add {l:List bI} {s:bI} (h:vN l=true):vN (iL l s)=!(l.any fun y=>decide (y=s)):=by
  obtain ⟨h1,h2⟩:=(pQ l).1 h
  unfold iL
  split
  · rename_i h0
    have:l.any (fun y=>decide (y=s))=false:=by
      rw[Bool.eq_false_iff]; intro ha
      obtain ⟨y,hy,e⟩:=List.any_eq_true.1 ha
      simp only[decide_eq_true_eq] at e
      subst e
      have:=h1 y hy
      simp only[okS,decide_eq_true_eq] at this; omega
    rw[this,h]; rfl
  · rename_i h0
    have hs:=rP (s:=s) (aBq h2)
    cases ha:l.any (fun y=>decide (y=s))
    · rw[Bool.not_false,pQ]
      refine⟨fun x hx=>?_,?_⟩
      · rcases List.mem_cons.1 ((iT s l).mem_iff.1 hx) with rfl | hx
        · simp only[okS,decide_eq_true_eq]; omega
        · exact h1 x hx
      · have hnd:(aEf l s).Nodup:=by
          rw[(iT s l).nodup_iff]
          refine List.nodup_cons.2 ⟨fun hm=>?_,?_⟩
          · rw[Bool.eq_false_iff] at ha
            exact ha (List.any_eq_true.2 ⟨s,hm,by simp⟩)
          · exact h2.imp fun {a b} h e=>by subst e; have:=cmpS_tri.self a; omega
        refine(List.Pairwise.and hs hnd).imp fun {a b} ⟨h3,h4⟩=>?_
        rcases Int.lt_or_eq_of_le h3 with e | e
        · exact e
        · exact absurd (aLm.1 e) h4
    · rw[Bool.not_true,Bool.eq_false_iff]
      intro hr
      obtain ⟨y,hy,e⟩:=List.any_eq_true.1 ha
      simp only[decide_eq_true_eq] at e
      subst e
      have hnd:(aEf l y).Nodup:=((pQ _).1 hr).2.imp fun {a b} h e=>by subst e; have:=cmpS_tri.self a; omega
      rw[(iT y l).nodup_iff] at hnd
      exact(List.nodup_cons.1 hnd).1 hy
theorem add_comm {l:List bI} {a b:bI} (h:vN l=true):iL (iL l a) b=iL (iL l b) a:=by
  have hs:=aBq ((pQ l).1 h).2
  unfold iL
  split <;> split <;> try rfl
  exact yZ cmpS_tri (fun _ _ h=>aLm.1 h) (rP (rP hs)) (rP (rP hs)) (((iT _ _).trans ((iT _ _).cons _)).trans ((List.Perm.swap _ _ _).trans (((iT _ _).trans ((iT _ _).cons _)).symm)))
theorem stC_eq (x y:bI):(((x.1.1 == y.1.1&&(x.1.2 == y.1.2&&true)))&&(x.2.1 == y.2.1&&(x.2.2 == y.2.2&&true)))=decide (x=y):=by
  rw[Bool.eq_iff_iff]
  simp only[Bool.and_eq_true,beq_iff_eq,and_true,decide_eq_true_eq,Prod.ext_iff]
theorem aEu {a b:Int}:kH a b<0↔a<b:=by unfold kH; (repeat' split) <;> omega
theorem qW (a:Int):kH a a=0:=sN.2 rfl
theorem ah1 {a b:bI} (h:¬ a.1.1=b.1.1):decide (a.1.1<b.1.1)=decide (jG a b<0):=by
  have:jG a b=kH a.1.1 b.1.1:=by rw[jG,orI,if_pos (fun e=>h (sN.1 e))]
  rw[this,Bool.eq_iff_iff,decide_eq_true_eq,decide_eq_true_eq,aEu]
theorem ah2 {a b:bI} (h1:a.1.1=b.1.1) (h:¬ a.1.2=b.1.2):decide (a.1.2<b.1.2)=decide (jG a b<0):=by
  have:jG a b=kH a.1.2 b.1.2:=by rw[jG,h1,qW,orI,if_neg (by simp),orI,if_pos (fun e=>h (sN.1 e))]
  rw[this,Bool.eq_iff_iff,decide_eq_true_eq,decide_eq_true_eq,aEu]
theorem ah3 {a b:bI} (h1:a.1.1=b.1.1) (h2:a.1.2=b.1.2) (h:¬ a.2.1=b.2.1):decide (a.2.1<b.2.1)=decide (jG a b<0):=by
  have:jG a b=kH a.2.1 b.2.1:=by rw[jG,h1,h2,qW,qW,orI,if_neg (by simp),orI,if_neg (by simp),orI,if_pos (fun e=>h (sN.1 e))]
  rw[this,Bool.eq_iff_iff,decide_eq_true_eq,decide_eq_true_eq,aEu]
theorem ah4 {a b:bI} (h1:a.1.1=b.1.1) (h2:a.1.2=b.1.2) (h3:a.2.1=b.2.1):decide (a.2.2<b.2.2)=decide (jG a b<0):=by
  have:jG a b<0↔kH a.2.2 b.2.2<0:=by
    rw[jG,h1,h2,h3,qW,qW,qW,orI,if_neg (by simp),orI,if_neg (by simp),orI,if_neg (by simp),orI,orI]
    split
    · exact Iff.rfl
    · rename_i h; omega
  rw[Bool.eq_iff_iff,decide_eq_true_eq,decide_eq_true_eq,this,aEu]
theorem kM {α β:Type} (l:List α) (f:α→List β) (k:Nat) (h:k<l.length):(l.take (k+1)).flatMap f=(l.take k).flatMap f++f l[k]:=by
  rw[← List.take_append_getElem h,List.flatMap_append]; simp
theorem aOe {l:List bI} {b:List Sp} {k:Nat} (h:k<l.length):fF (l.take (k+1)) b=fF (l.take k) b++b.flatMap (kU l[k]):=kM l _ k h
theorem sK {s:bI} {b:Sp} (h:(eD s.1 b).2≤(eD s.1 b).1):kU s b=[]:=if_pos h
theorem aAt {s:bI} {b:Sp} (h:¬ (eD s.1 b).2≤(eD s.1 b).1):kU s b=[(eD s.1 b,s.2)]:=if_neg h
theorem aT5 (l:List bI) (b:List Sp):(sA l b).length≤l.length*(dC b).length:=by
  rw[sA,aBr]
  have:∀ (l:List bI) (c:List Sp),(fF l c).length≤l.length*c.length:=by
    intro l c
    induction l with
    | nil=>simp [fF]
    | cons s l ih =>
      have h1:(c.flatMap (kU s)).length≤c.length:=by
        clear ih
        induction c with
        | nil=>simp
        | cons x c ih =>
          rw[List.flatMap_cons,List.length_append,List.length_cons]
          have:(kU s x).length≤1:=by unfold kU; split <;> simp
          omega
      simp only[fF,List.flatMap_cons,List.length_append,List.length_cons,Nat.add_mul,Nat.one_mul] at *
      omega
  exact this l _
end Go.Abs
set_option linter.unusedVariables false
set_option linter.unusedSimpArgs false
namespace Go.Proofs.YtpkanhklapfajaaGreat
open Go Go.Abs
theorem vV (g:Nat) (a1 u b1 v c1:List bI) (N:Nat) (za zb zn:Int) (hN:N=a1.length+u.length+b1.length+v.length+c1.length) (huv:v.length=u.length) (hza:za=(a1.length:Nat)) (hzb:zb=((a1.length+u.length+b1.length:Nat):Int)) (hzn:zn=(u.length:Nat)) (hM:N<4611686018427387904) :DenM Tryz.prog 206 [.own E0 4 0 N,.s (.int .i64 za),.s (.int .i64 zb),.s (.int .i64 zn),.fn g []] 4 ((List.map stC (a1++(u++(b1++(v++c1)))))) (fun r ys=>ys=(List.map stC (a1++(v++(b1++(u++c1)))))):=by
 subst hza
 subst hzb
 subst hzn
 refine iK Tryz.func206 rfl (Nat.le_of_ble_eq_true rfl) (fun w0 x0 A hf=>?_)
 refine aC (fun K1 hK1=>(aB (aE aA 1 rfl (aD (hK1 _ (aP (bT (ι:=Nat) (fun i=>⟨38,[(0,.own E0 4 0 N),(1,.s (.int .i64 (a1.length:Nat))),(2,.s (.int .i64 ((a1.length+u.length+b1.length:Nat):Int))),(3,.s (.int .i64 (u.length:Nat))),(10,.s (.int .i64 (i:Nat)))],[(E0,.buf 4 (List.map stC (swr a1 u b1 v c1 i)))]⟩) (fun i=>i≤u.length) (fun i=>u.length - i) 0 ?_ ?_ ?_)))))))
 · exact Nat.zero_le _
 · exact cJ ⟨rfl,rfl,rfl,rfl,rfl,trivial⟩ (by simp [swr])
 ·
  rintro i hC
  have hsl:=swr_len (A:=a1) (B:=b1) (C:=c1) (i:=i) huv
  refine aC (fun K2 hK2=>(aC (fun K3 hK3=>(aB (aE aA 3 rfl (aD (hK3 _ (aL rfl (fun hc1=>?_) (fun hc1=>?_)))))))))
  ·
   simp only[bs] at hc1
   refine aN (hK2 _ (aC (fun K4 hK4=>(aP (eH bE ?_)))))
   refine bV (listed':=#[true,false,false,false,false,false,false,false,false,false,false,false,false,false,false,false,false,false,false,false,false,false,false,false]) 0 rfl (by kernel_rfl) (by kernel_rfl) (by kernel_rfl) rfl (fun _ _ h=>h) (eA rfl) ?_
   refine bV (listed':=#[true,true,false,false,false,false,false,false,false,false,false,false,false,false,false,false,false,false,false,false,false,false,false,false]) 1 rfl (by kernel_rfl) (by kernel_rfl) (by kernel_rfl) rfl (fun _ _ h=>h) (eA rfl) ?_
   refine bV (listed':=#[true,true,true,false,false,false,false,false,false,false,false,false,false,false,false,false,false,false,false,false,false,false,false,false]) 2 rfl (by kernel_rfl) (by kernel_rfl) (by kernel_rfl) rfl (fun _ _ h=>h) (eA rfl) ?_
   refine bV (listed':=#[true,true,true,true,false,false,false,false,false,false,false,false,false,false,false,false,false,false,false,false,false,false,false,false]) 3 rfl (by kernel_rfl) (by kernel_rfl) (by kernel_rfl) rfl (fun _ _ h=>h) (aIt rfl rfl (by omega) (by omega)) ?_
   refine bV (listed':=#[true,true,true,true,true,false,false,false,false,false,false,false,false,false,false,false,false,false,false,false,false,false,false,false]) 4 rfl (by kernel_rfl) (by kernel_rfl) (by kernel_rfl) rfl (fun _ _ h=>h) (eA rfl) ?_
   refine bV (listed':=#[true,true,true,true,true,true,false,false,false,false,false,false,false,false,false,false,false,false,false,false,false,false,false,false]) 5 rfl (by kernel_rfl) (by kernel_rfl) (by kernel_rfl) rfl (fun _ _ h=>h) (eA rfl) ?_
   refine bV (listed':=#[true,true,true,true,true,true,true,false,false,false,false,false,false,false,false,false,false,false,false,false,false,false,false,false]) 6 rfl (by kernel_rfl) (by kernel_rfl) (by kernel_rfl) rfl (fun _ _ h=>h) (eA rfl) ?_
   refine bV (listed':=#[true,true,true,true,true,true,true,true,false,false,false,false,false,false,false,false,false,false,false,false,false,false,false,false]) 7 rfl (by kernel_rfl) (by kernel_rfl) (by kernel_rfl) rfl (fun _ _ h=>h) (aIt rfl rfl (by omega) (by omega)) ?_
   refine bV (listed':=#[true,true,true,true,true,true,true,true,true,false,false,false,false,false,false,false,false,false,false,false,false,false,false,false]) 8 rfl (by kernel_rfl) (by kernel_rfl) (by kernel_rfl) rfl (fun _ _ h=>h) (eA rfl) ?_
   refine bV (listed':=#[true,true,true,true,true,true,true,true,true,true,false,false,false,false,false,false,false,false,false,false,false,false,false,false]) 9 rfl (by kernel_rfl) (by kernel_rfl) (by kernel_rfl) rfl (fun _ _ h=>h) (eA rfl) ?_
   refine bV (listed':=#[true,true,true,true,true,true,true,true,true,true,true,false,false,false,false,false,false,false,false,false,false,false,false,false]) 10 rfl (by kernel_rfl) (by kernel_rfl) (by kernel_rfl) rfl (fun _ _ h=>h) (eA rfl) ?_
   refine bV (listed':=#[true,true,true,true,true,true,true,true,true,true,true,true,false,false,false,false,false,false,false,false,false,false,false,false]) 11 rfl (by kernel_rfl) (by kernel_rfl) (by kernel_rfl) rfl (fun _ _ h=>h) (aIt rfl rfl (by omega) (by omega)) ?_
   refine bV (listed':=#[true,true,true,true,true,true,true,true,true,true,true,true,true,false,false,false,false,false,false,false,false,false,false,false]) 12 rfl (by kernel_rfl) (by kernel_rfl) (by kernel_rfl) rfl (fun _ _ h=>h) (lU rfl rfl cC bC (by omega)) ?_
   refine bV (listed':=#[true,true,true,true,true,true,true,true,true,true,true,true,true,false,true,false,false,false,false,false,false,false,false,false]) 14 rfl (by kernel_rfl) (by kernel_rfl) (by kernel_rfl) rfl (fun _ _ h=>h) (eA rfl) ?_
   refine bV (listed':=#[true,true,true,true,true,true,true,true,true,true,true,true,true,false,true,true,false,false,false,false,false,false,false,false]) 15 rfl (by kernel_rfl) (by kernel_rfl) (by kernel_rfl) rfl (fun _ _ h=>h) (eA rfl) ?_
   refine bV (listed':=#[true,true,true,true,true,true,true,true,true,true,true,true,true,false,true,true,true,false,false,false,false,false,false,false]) 16 rfl (by kernel_rfl) (by kernel_rfl) (by kernel_rfl) rfl (fun _ _ h=>h) (eA rfl) ?_
   refine bV (listed':=#[true,true,true,true,true,true,true,true,true,true,true,true,true,false,true,true,true,true,false,false,false,false,false,false]) 17 rfl (by kernel_rfl) (by kernel_rfl) (by kernel_rfl) rfl (fun _ _ h=>h) (aIt rfl rfl (by omega) (by omega)) ?_
   refine bV (listed':=#[true,true,true,true,true,true,true,true,true,true,true,true,true,false,true,true,true,true,true,false,false,false,false,false]) 18 rfl (by kernel_rfl) (by kernel_rfl) (by kernel_rfl) rfl (fun _ _ h=>h) (lU rfl rfl cC bC (by omega)) ?_
   refine kQ (cX [0,1,2,3,10,16,19,20,23,28,34] rfl) (aG 13 [19] (by kernel_rfl) ⟨?_,?_,trivial⟩)
   ·
    refine⟨_,rfl,rfl,(ao rfl (aH rfl (cD rfl eV bC rfl (fA (k:=4) (enc:=stC) (z:=a1.length+u.length+b1.length+i) (by omega) (aEm huv (by omega)) rfl) (dX (k:=4) (enc:=stC) (z:=a1.length+u.length+b1.length+i) (by omega) (aEm huv (by omega)) rfl)) (aF (aG 19 [] (by kernel_rfl) ⟨?_,trivial⟩))))⟩
    ·
     refine⟨_,rfl,rfl,(ao rfl (aH rfl (cD rfl eV bC rfl (fA (k:=4) (enc:=stC) (z:=a1.length+i) (by omega) (aEn huv (by omega)) rfl) (dX (k:=4) (enc:=stC) (z:=a1.length+i) (by omega) (aEn huv (by omega)) rfl)) (aF (aG 20 [] (by kernel_rfl) ⟨?_,trivial⟩))))⟩
     ·
      refine⟨_,rfl,rfl,(ao rfl ?_)⟩
      refine aH rfl (cB rfl rfl cC bC (by omega)) ?_
      refine aF (aG 21 [] (by kernel_rfl) ⟨?_,trivial⟩)
      ·
       refine⟨_,rfl,rfl,(ao rfl (bB hf rfl rfl bC rfl rfl (by simp [stC,AV.cells,AV.one,Value.oneCell']) (by simp [stC,AV.cells,AV.leaf,Value.oneCell']) (fP (k:=4) (enc:=stC) (z:=a1.length+i) (v:=v[i]) (by omega) (by rw[hsl]; omega) rfl rfl rfl) ?_))⟩
       refine aF (aG 22 [] (by kernel_rfl) ⟨?_,trivial⟩)
       ·
        refine⟨_,rfl,rfl,(ao rfl ?_)⟩
        refine aH rfl (cB rfl rfl cC bC (by omega)) ?_
        refine aF (aG 23 [] (by kernel_rfl) ⟨?_,trivial⟩)
        ·
         refine⟨_,rfl,rfl,(ao rfl (bB hf rfl rfl bC rfl rfl (by simp [stC,AV.cells,AV.one,Value.oneCell']) (by simp [stC,AV.cells,AV.leaf,Value.oneCell']) (fP (k:=4) (enc:=stC) (z:=a1.length+u.length+b1.length+i) (v:=u[i]) (by omega) (by rw[List.length_set,hsl]; omega) rfl rfl rfl) ?_))⟩
         refine aF (bX (by kernel_rfl) ?_)
         refine hK4 _ (aB (aE aA 1 rfl ?_))
         refine aH rfl (bO rfl rfl (by omega) (by omega)) ?_
         refine aE aA 1 rfl (aD ?_)
         exact⟨i+1,by omega,by omega,cJ ⟨rfl,rfl,rfl,rfl,rfl,trivial⟩ (by rw[← aMl huv (by omega)]; rfl)⟩
   ·
    refine⟨_,rfl,rfl,(ao rfl (aH rfl (cD rfl eV bC rfl (fA (k:=4) (enc:=stC) (z:=a1.length+i) (by omega) (aEn huv (by omega)) rfl) (dX (k:=4) (enc:=stC) (z:=a1.length+i) (by omega) (aEn huv (by omega)) rfl)) (aF (aG 13 [] (by kernel_rfl) ⟨?_,trivial⟩))))⟩
    ·
     refine⟨_,rfl,rfl,(ao rfl (aH rfl (cD rfl eV bC rfl (fA (k:=4) (enc:=stC) (z:=a1.length+u.length+b1.length+i) (by omega) (aEm huv (by omega)) rfl) (dX (k:=4) (enc:=stC) (z:=a1.length+u.length+b1.length+i) (by omega) (aEm huv (by omega)) rfl)) (aF (aG 20 [] (by kernel_rfl) ⟨?_,trivial⟩))))⟩
     ·
      refine⟨_,rfl,rfl,(ao rfl ?_)⟩
      refine aH rfl (cB rfl rfl cC bC (by omega)) ?_
      refine aF (aG 21 [] (by kernel_rfl) ⟨?_,trivial⟩)
      ·
       refine⟨_,rfl,rfl,(ao rfl (bB hf rfl rfl bC rfl rfl (by simp [stC,AV.cells,AV.one,Value.oneCell']) (by simp [stC,AV.cells,AV.leaf,Value.oneCell']) (fP (k:=4) (enc:=stC) (z:=a1.length+i) (v:=v[i]) (by omega) (by rw[hsl]; omega) rfl rfl rfl) ?_))⟩
       refine aF (aG 22 [] (by kernel_rfl) ⟨?_,trivial⟩)
       ·
        refine⟨_,rfl,rfl,(ao rfl ?_)⟩
        refine aH rfl (cB rfl rfl cC bC (by omega)) ?_
        refine aF (aG 23 [] (by kernel_rfl) ⟨?_,trivial⟩)
        ·
         refine⟨_,rfl,rfl,(ao rfl (bB hf rfl rfl bC rfl rfl (by simp [stC,AV.cells,AV.one,Value.oneCell']) (by simp [stC,AV.cells,AV.leaf,Value.oneCell']) (fP (k:=4) (enc:=stC) (z:=a1.length+u.length+b1.length+i) (v:=u[i]) (by omega) (by rw[List.length_set,hsl]; omega) rfl rfl rfl) ?_))⟩
         refine aF (bX (by kernel_rfl) ?_)
         refine hK4 _ (aB (aE aA 1 rfl ?_))
         refine aH rfl (bO rfl rfl (by omega) (by omega)) ?_
         refine aE aA 1 rfl (aD ?_)
         exact⟨i+1,by omega,by omega,cJ ⟨rfl,rfl,rfl,rfl,rfl,trivial⟩ (by rw[← aMl huv (by omega)]; rfl)⟩
  ·
   simp only[bs] at hc1
   refine bF ?_
   refine⟨_,_,_,Le.refl _,rfl,rfl,?_⟩
   have hi:i=u.length:=by omega
   rw[hi,swr,← huv,List.take_length,List.drop_length,huv,List.take_length,List.drop_length,List.append_nil,List.append_nil]
theorem aQy (g:Nat) (p s1 s2 q:List bI) (N:Nat) (za zm zb:Int) (hN:N=p.length+s1.length+s2.length+q.length) (hza:za=(p.length:Nat)) (hzm:zm=((p.length+s1.length:Nat):Int)) (hzb:zb=((p.length+s1.length+s2.length:Nat):Int)) (h01:0<s1.length) (h02:0<s2.length) (hM:N<4611686018427387904) :DenM Tryz.prog 198 [.own E0 4 0 N,.s (.int .i64 za),.s (.int .i64 zm),.s (.int .i64 zb),.fn g []] 4 ((List.map stC (p++(s1++(s2++q))))) (fun r ys=>ys=(List.map stC (p++(s2++(s1++q))))):=by
 subst hza
 subst hzm
 subst hzb
 refine iK Tryz.func198 rfl (Nat.le_of_ble_eq_true rfl) (fun w0 x0 A hf=>?_)
 refine aC (fun K1 hK1=>(aB (aE aA 2 rfl ?_)))
 refine aH rfl (eZ rfl rfl (by omega) (by omega)) ?_
 refine aE aA 1 rfl (aD (hK1 _ (aC (fun K2 hK2=>(aB (aE aA 2 rfl ?_))))))
 refine aH rfl (eZ rfl rfl (by omega) (by omega)) ?_
 refine aE aA 1 rfl (aD (hK2 _ (aC (fun K3 hK3=>(aP (bT (ι:=(List bI×List bI)×(List bI×List bI)) (fun(⟨⟨L,u⟩,⟨v,R⟩⟩:(List bI×List bI)×(List bI×List bI))=>⟨58,[(0,.own E0 4 0 N),(2,.s (.int .i64 ((p.length+s1.length:Nat):Int))),(4,.fn g []),(10,.s (.int .i64 (u.length:Nat))),(11,.s (.int .i64 (v.length:Nat)))],[(E0,.buf 4 (List.map stC (L++(u++(v++R)))))]⟩) (fun(⟨⟨L,u⟩,⟨v,R⟩⟩:(List bI×List bI)×(List bI×List bI))=>L.length+u.length=p.length+s1.length∧0<u.length∧0<v.length∧L++(v++(u++R))=p++(s2++(s1++q))) (fun(⟨⟨L,u⟩,⟨v,R⟩⟩:(List bI×List bI)×(List bI×List bI))=>u.length+v.length) ((p,s1),(s2,q)) ?_ ?_ ?_))))))
 · exact⟨rfl,h01,h02,rfl⟩
 · exact cJ ⟨rfl,rfl,rfl,aQ (by omega),aQ (by omega),trivial⟩ rfl
 ·
  rintro ⟨⟨L,u⟩,⟨v,R⟩⟩ hC
  obtain ⟨hl,hu,hv,ht⟩:=hC
  have htl:=congrArg List.length ht
  simp only[List.length_append] at htl
  have hf1:=List.length_take (i:=v.length) (l:=u)
  have hf2:=List.length_drop (i:=v.length) (l:=u)
  have hf3:=List.length_take (i:=v.length - u.length) (l:=v)
  have hf4:=List.length_drop (i:=v.length - u.length) (l:=v)
  refine aC (fun K4 hK4=>(aC (fun K5 hK5=>(aB (aE aA 3 rfl (aD (hK5 _ (aL rfl (fun hc1=>?_) (fun hc1=>?_)))))))))
  ·
   simp only[bs] at hc1
   refine aN (hK4 _ (aP (aC (fun K6 hK6=>(aB (aE aA 3 rfl (aD (hK6 _ (aL rfl (fun hc2=>?_) (fun hc2=>?_))))))))))
   ·
    simp only[bs] at hc2
    refine aC (fun K7 hK7=>(aB ?_))
    rw[show L++(u++(v++R))=L++(u.take v.length++(u.drop v.length++(v++R))) from by rw[← List.append_assoc (u.take v.length),List.take_append_drop]]
    refine aE aA 3 rfl ?_
    refine aH rfl (eZ rfl rfl (by omega) (by omega)) ?_
    refine aE aA 3 rfl (gE hf E0 rfl rfl rfl rfl rfl xD (vV g L (u.take v.length) (u.drop v.length) v R N _ _ _ (by omega) (by omega) (by omega) (by omega) (by omega) hM) ?_)
    rintro r zs rfl
    refine aD (hK7 _ (aB (aE aA 2 rfl ?_)))
    refine aH rfl (eZ rfl rfl (by omega) (by omega)) ?_
    refine aE aA 1 rfl ?_
    refine bS ?_
    exact⟨((L++v,u.drop v.length),(u.take v.length,R)),⟨by rw[List.length_append]; omega,by omega,by omega,by rw[← ht]; simp [← List.append_assoc (u.take v.length)]⟩,by simp only; omega,cJ ⟨rfl,rfl,rfl,aQ (by omega),aQ (by omega),trivial⟩ (by rw[List.append_assoc L v]; rfl)⟩
   ·
    simp only[bs] at hc2
    refine aC (fun K8 hK8=>(aB ?_))
    rw[show L++(u++(v++R))=L++(u++(v.take (v.length - u.length)++(v.drop (v.length - u.length)++R))) from by rw[← List.append_assoc (v.take (v.length - u.length)),List.take_append_drop]]
    refine aE aA 3 rfl ?_
    refine aH rfl (eZ rfl rfl (by omega) (by omega)) ?_
    refine aE aA 2 rfl ?_
    refine aH rfl (bO rfl rfl (by omega) (by omega)) ?_
    refine aE aA 1 rfl ?_
    refine aH rfl (eZ rfl rfl (by omega) (by omega)) ?_
    refine aE aA 2 rfl (gE hf E0 rfl rfl rfl rfl rfl xD (vV g L u (v.take (v.length - u.length)) (v.drop (v.length - u.length)) R N _ _ _ (by omega) (by omega) (by omega) (by omega) (by omega) hM) ?_)
    rintro r zs rfl
    refine aD (hK8 _ (aB (aE aA 2 rfl ?_)))
    refine aH rfl (eZ rfl rfl (by omega) (by omega)) ?_
    refine aE aA 1 rfl ?_
    refine bS ?_
    exact⟨((L,v.drop (v.length - u.length)),(v.take (v.length - u.length),u++R)),⟨by omega,by omega,by omega,by rw[← ht]; simp [← List.append_assoc (v.take (v.length - u.length))]⟩,by simp only; omega,cJ ⟨rfl,rfl,rfl,aQ (by omega),aQ (by omega),trivial⟩ rfl⟩
  ·
   simp only[bs] at hc1
   refine bF (hK3 _ (aB ?_))
   rw[show L++(u++(v++R))=L++(u++([]++(v++R))) from rfl]
   refine aE aA 3 rfl ?_
   refine aH rfl (eZ rfl rfl (by omega) (by omega)) ?_
   refine aE aA 3 rfl (gE hf E0 rfl rfl rfl rfl rfl xD (vV g L u [] v R N _ _ _ (by simp only[List.length_nil]; omega) (by omega) (by omega) (by simp only[List.length_nil]; omega) (by omega) hM) ?_)
   rintro r zs rfl
   refine bS ?_
   refine⟨_,_,_,Le.refl _,rfl,rfl,?_⟩
   rw[← ht]; rfl
theorem aFd {g:Nat} (hent:∀ args w,(callFunc g args).run Tryz.prog w=.ok (.enter g args) w) {c:bI→bI→Int} (hc:Tri c) (hcmp:∀ x y:bI,Den Tryz.prog g [.agg (stC x),.agg (stC y)] (·=.s (.int .i64 (c x y)))) (p s0 q:List bI) (N:Nat) (za zb:Int) (hN:N=p.length+s0.length+q.length) (hza:za=(p.length:Nat)) (hzb:zb=((p.length+s0.length:Nat):Int)) (hM:N<4611686018427387904) :DenM Tryz.prog 170 [.own E0 4 0 N,.s (.int .i64 za),.s (.int .i64 zb),.fn g []] 4 ((List.map stC (p++(s0++q)))) (fun r ys=>∃ t:List bI,t.Perm s0∧Srt c t∧ys=(List.map stC (p++(t++q)))):=by
 subst hza
 subst hzb
 refine iK Tryz.func170 rfl (Nat.le_of_ble_eq_true rfl) (fun w0 x0 A hf=>?_)
 refine aC (fun K1 hK1=>(aB (aE aA 1 rfl ?_)))
 refine aH rfl (bO rfl rfl (by omega) (by omega)) ?_
 refine aE aA 1 rfl (aD (hK1 _ (aP (bT (ι:=List bI×List bI) (fun(⟨s1,s2⟩:List bI×List bI)=>⟨53,[(0,.own E0 4 0 N),(1,.s (.int .i64 (p.length:Nat))),(2,.s (.int .i64 ((p.length+s0.length:Nat):Int))),(3,.fn g []),(8,.s (.int .i64 ((p.length+1+(s1.length - 1):Nat):Int)))],[(E0,.buf 4 (List.map stC (p++(s1++(s2++q)))))]⟩) (fun(⟨s1,s2⟩:List bI×List bI)=>Srt c s1∧(s1++s2).Perm s0∧(0<s1.length∨s0=[])) (fun(⟨s1,s2⟩:List bI×List bI)=>s2.length) (s0.take 1,s0.drop 1) ?_ ?_ ?_))))
 · exact⟨srt_one (by simp; omega),by rw[List.take_append_drop],by cases s0 <;> simp⟩
 · exact cJ ⟨rfl,rfl,rfl,rfl,aQ (by have:=List.length_take (i:=1) (l:=s0); omega),trivial⟩ (by rw[← List.append_assoc (s0.take 1),List.take_append_drop])
 ·
  rintro ⟨s1,s2⟩ hC
  obtain ⟨hs1,hp12,hne⟩:=hC
  have hpl:=hp12.length_eq
  rw[List.length_append] at hpl
  have hnl:s0=[]→s0.length=0:=fun h=>by rw[h]; rfl
  refine aC (fun K2 hK2=>(aC (fun K3 hK3=>(aB (aE aA 3 rfl (aD (hK3 _ (aL rfl (fun hc1=>?_) (fun hc1=>?_)))))))))
  ·
   simp only[bs] at hc1
   refine aN (hK2 _ (aC (fun K4 hK4=>(aP (aC (fun K5 hK5=>(aB ?_)))))))
   have h0:0<s1.length:=by rcases hne with h | h; exact h; exfalso; have:=hnl h; omega
   obtain ⟨e,s3,rfl⟩:∃ e s3,s2=e::s3:=by
    cases s2 with
    | nil=>exfalso; simp only[List.length_nil] at hpl; omega
    | cons e r=>exact⟨e,r,rfl⟩
   simp only[List.length_cons] at hpl
   refine aE aA 2 rfl (aD (hK5 _ (aP (bT (ι:=List bI×List bI) (fun(⟨u,v⟩:List bI×List bI)=>⟨53,[(0,.own E0 4 0 N),(1,.s (.int .i64 (p.length:Nat))),(2,.s (.int .i64 ((p.length+s0.length:Nat):Int))),(3,.fn g []),(8,.s (.int .i64 ((p.length+1+(s1.length - 1):Nat):Int))),(9,.s (.int .i64 ((p.length+u.length:Nat):Int)))],[(E0,.buf 4 (List.map stC (p++(u++(e::(v++(s3++q)))))))]⟩) (fun(⟨u,v⟩:List bI×List bI)=>u++v=s1∧∀ y∈v,c e y≤0) (fun(⟨u,v⟩:List bI×List bI)=>u.length) (s1,[]) ?_ ?_ ?_))))
   · exact⟨List.append_nil _,by simp⟩
   · exact cJ ⟨rfl,rfl,rfl,rfl,rfl,aQ (by omega),trivial⟩ rfl
   ·
    rintro ⟨u,v⟩ hC
    obtain ⟨huv,hv⟩:=hC
    have hul:=congrArg List.length huv
    rw[List.length_append] at hul
    refine aC (fun K6 hK6=>(aC (fun K7 hK7=>(cP hf bE (by kernel_rfl) rfl (aV aA 4 rfl (fC 21 true rfl (fun hg2=>?_) (fun hg2=>?_)))))))
    ·
     simp only[bs] at hg2
     obtain ⟨u1,z,hu1⟩:=last_of (u:=u) (by omega)
     have hu2:=congrArg List.length hu1
     simp only[List.length_append,List.length_cons,List.length_nil] at hu2
     refine aV aA 3 rfl ?_
     refine bQ [(23,_),(24,_)] rfl rfl ⟨⟨rfl,rfl⟩,⟨rfl,rfl⟩,trivial⟩ rfl (cB rfl rfl cC bC (by omega)) ?_
     refine bQ [(25,_)] rfl rfl ⟨⟨rfl,rfl⟩,trivial⟩ rfl (cD rfl eV bC rfl (fA (k:=4) (enc:=stC) (z:=p.length+u.length) (by omega) (atQ (p:=p++u) (q:=v++(s3++q)) (x:=e) (by simp) (by simp)) rfl) (dX (k:=4) (enc:=stC) (z:=p.length+u.length) (by omega) (atQ (p:=p++u) (q:=v++(s3++q)) (x:=e) (by simp) (by simp)) rfl)) ?_
     refine aV aA 2 rfl ?_
     refine bQ [(28,_)] rfl rfl ⟨⟨rfl,rfl⟩,trivial⟩ rfl (eZ rfl rfl (by omega) (by omega)) ?_
     refine bQ [(27,_),(29,_)] rfl rfl ⟨⟨rfl,rfl⟩,⟨rfl,rfl⟩,trivial⟩ rfl (cB rfl rfl cC bC (by omega)) ?_
     refine bQ [(30,_)] rfl rfl ⟨⟨rfl,rfl⟩,trivial⟩ rfl (cD rfl eV bC rfl (fA (k:=4) (enc:=stC) (z:=p.length+u1.length) (by omega) (atQ (p:=p++u1) (q:=e::(v++(s3++q))) (x:=z) (by rw[hu1]; simp) (by simp)) rfl) (dX (k:=4) (enc:=stC) (z:=p.length+u1.length) (by omega) (atQ (p:=p++u1) (q:=e::(v++(s3++q))) (x:=z) (by rw[hu1]; simp) (by simp)) rfl)) ?_
     refine bJ [(22,_),(26,_),(31,_)] rfl rfl ⟨⟨rfl,rfl⟩,⟨rfl,rfl⟩,⟨rfl,rfl⟩,trivial⟩ rfl (aK rfl rfl hent rfl (hcmp e z)) (aV aA 2 rfl (cT [0,1,2,3,8,9,34] rfl rfl rfl (hK7 _ (aL rfl (fun hc3=>?_) (fun hc3=>?_)))))
     ·
      simp only[bs] at hc3
      refine aN (hK6 _ (aC (fun K8 hK8=>(aP (eH bE ?_)))))
      refine bV (listed':=#[true,false,false,false,false,false,false,false,false,false,false,false,false,false,false,false,false,false]) 0 rfl (by kernel_rfl) (by kernel_rfl) (by kernel_rfl) rfl (fun _ _ h=>h) (eA rfl) ?_
      refine bV (listed':=#[true,true,false,false,false,false,false,false,false,false,false,false,false,false,false,false,false,false]) 1 rfl (by kernel_rfl) (by kernel_rfl) (by kernel_rfl) rfl (fun _ _ h=>h) (eA rfl) ?_
      refine bV (listed':=#[true,true,true,false,false,false,false,false,false,false,false,false,false,false,false,false,false,false]) 2 rfl (by kernel_rfl) (by kernel_rfl) (by kernel_rfl) rfl (fun _ _ h=>h) (eA rfl) ?_
      refine bV (listed':=#[true,true,true,true,false,false,false,false,false,false,false,false,false,false,false,false,false,false]) 3 rfl (by kernel_rfl) (by kernel_rfl) (by kernel_rfl) rfl (fun _ _ h=>h) (eA rfl) ?_
      refine bV (listed':=#[true,true,true,true,true,false,false,false,false,false,false,false,false,false,false,false,false,false]) 4 rfl (by kernel_rfl) (by kernel_rfl) (by kernel_rfl) rfl (fun _ _ h=>h) (aIs rfl rfl (by omega) (by omega)) ?_
      refine bV (listed':=#[true,true,true,true,true,true,false,false,false,false,false,false,false,false,false,false,false,false]) 5 rfl (by kernel_rfl) (by kernel_rfl) (by kernel_rfl) rfl (fun _ _ h=>h) (eA rfl) ?_
      refine bV (listed':=#[true,true,true,true,true,true,true,false,false,false,false,false,false,false,false,false,false,false]) 6 rfl (by kernel_rfl) (by kernel_rfl) (by kernel_rfl) rfl (fun _ _ h=>h) (eA rfl) ?_
      refine bV (listed':=#[true,true,true,true,true,true,true,true,false,false,false,false,false,false,false,false,false,false]) 7 rfl (by kernel_rfl) (by kernel_rfl) (by kernel_rfl) rfl (fun _ _ h=>h) (aIs rfl rfl (by omega) (by omega)) ?_
      refine bV (listed':=#[true,true,true,true,true,true,true,true,true,false,false,false,false,false,false,false,false,false]) 8 rfl (by kernel_rfl) (by kernel_rfl) (by kernel_rfl) rfl (fun _ _ h=>h) (lU rfl rfl cC bC (by omega)) ?_
      refine bV (listed':=#[true,true,true,true,true,true,true,true,true,false,true,false,false,false,false,false,false,false]) 10 rfl (by kernel_rfl) (by kernel_rfl) (by kernel_rfl) rfl (fun _ _ h=>h) (eA rfl) ?_
      refine bV (listed':=#[true,true,true,true,true,true,true,true,true,false,true,true,false,false,false,false,false,false]) 11 rfl (by kernel_rfl) (by kernel_rfl) (by kernel_rfl) rfl (fun _ _ h=>h) (eA rfl) ?_
      refine bV (listed':=#[true,true,true,true,true,true,true,true,true,false,true,true,true,false,false,false,false,false]) 12 rfl (by kernel_rfl) (by kernel_rfl) (by kernel_rfl) rfl (fun _ _ h=>h) (lU rfl rfl cC bC (by omega)) ?_
      refine kQ (cX [0,1,2,3,8,9,37,38,39,41,45,49] rfl) (aG 9 [13] (by kernel_rfl) ⟨?_,?_,trivial⟩)
      ·
       refine⟨_,rfl,rfl,(ao rfl (aH rfl (cD rfl eV bC rfl (fA (k:=4) (enc:=stC) (z:=p.length+u1.length) (by omega) (atQ (p:=p++u1) (q:=e::(v++(s3++q))) (x:=z) (by rw[hu1]; simp) (by simp)) rfl) (dX (k:=4) (enc:=stC) (z:=p.length+u1.length) (by omega) (atQ (p:=p++u1) (q:=e::(v++(s3++q))) (x:=z) (by rw[hu1]; simp) (by simp)) rfl)) ?_))⟩
       refine aF (aG 13 [] (by kernel_rfl) ⟨?_,trivial⟩)
       ·
        refine⟨_,rfl,rfl,(ao rfl (aH rfl (cD rfl eV bC rfl (fA (k:=4) (enc:=stC) (z:=p.length+u.length) (by omega) (atQ (p:=p++u) (q:=v++(s3++q)) (x:=e) (by simp) (by simp)) rfl) (dX (k:=4) (enc:=stC) (z:=p.length+u.length) (by omega) (atQ (p:=p++u) (q:=v++(s3++q)) (x:=e) (by simp) (by simp)) rfl)) ?_))⟩
        refine aF (aG 14 [] (by kernel_rfl) ⟨?_,trivial⟩)
        ·
         refine⟨_,rfl,rfl,(ao rfl ?_)⟩
         refine aH rfl (cB rfl rfl cC bC (by omega)) ?_
         refine aF (aG 15 [] (by kernel_rfl) ⟨?_,trivial⟩)
         ·
          refine⟨_,rfl,rfl,(ao rfl (bB hf rfl rfl bC rfl rfl (by simp [stC,AV.cells,AV.one,Value.oneCell']) (by simp [stC,AV.cells,AV.leaf,Value.oneCell']) (fP (k:=4) (enc:=stC) (z:=p.length+u.length) (v:=z) (by omega) (by simp only[List.length_append,List.length_cons,List.length_set]; omega) rfl rfl rfl) ?_))⟩
          refine aF (aG 16 [] (by kernel_rfl) ⟨?_,trivial⟩)
          ·
           refine⟨_,rfl,rfl,(ao rfl ?_)⟩
           refine aH rfl (cB rfl rfl cC bC (by omega)) ?_
           refine aF (aG 17 [] (by kernel_rfl) ⟨?_,trivial⟩)
           ·
            refine⟨_,rfl,rfl,(ao rfl (bB hf rfl rfl bC rfl rfl (by simp [stC,AV.cells,AV.one,Value.oneCell']) (by simp [stC,AV.cells,AV.leaf,Value.oneCell']) (fP (k:=4) (enc:=stC) (z:=p.length+u1.length) (v:=e) (by omega) (by simp only[List.length_append,List.length_cons,List.length_set]; omega) rfl rfl rfl) ?_))⟩
            refine aF (bX (by kernel_rfl) ?_)
            refine hK8 _ (aB (aE aA 1 rfl ?_))
            refine aH rfl (eZ rfl rfl (by omega) (by omega)) ?_
            refine aE aA 1 rfl (aD ?_)
            exact⟨(u1,z::v),⟨by rw[← huv,hu1]; simp,fun y hy=>by
             rcases List.mem_cons.1 hy with rfl | hy
             · omega
             · exact hv y hy⟩,by simp only; omega,cJ ⟨rfl,rfl,rfl,rfl,rfl,aQ (by omega),trivial⟩ (congrArg (fun l=>[(E0,AM.buf 4 (List.map stC l))]) ((xR (p:=p++u1) (x:=z) (y:=e) (q:=v++(s3++q)) (by rw[hu1]; simp) (by simp; omega) (by simp)).trans (by simp)))⟩
      ·
       refine⟨_,rfl,rfl,(ao rfl (aH rfl (cD rfl eV bC rfl (fA (k:=4) (enc:=stC) (z:=p.length+u.length) (by omega) (atQ (p:=p++u) (q:=v++(s3++q)) (x:=e) (by simp) (by simp)) rfl) (dX (k:=4) (enc:=stC) (z:=p.length+u.length) (by omega) (atQ (p:=p++u) (q:=v++(s3++q)) (x:=e) (by simp) (by simp)) rfl)) ?_))⟩
       refine aF (aG 9 [] (by kernel_rfl) ⟨?_,trivial⟩)
       ·
        refine⟨_,rfl,rfl,(ao rfl (aH rfl (cD rfl eV bC rfl (fA (k:=4) (enc:=stC) (z:=p.length+u1.length) (by omega) (atQ (p:=p++u1) (q:=e::(v++(s3++q))) (x:=z) (by rw[hu1]; simp) (by simp)) rfl) (dX (k:=4) (enc:=stC) (z:=p.length+u1.length) (by omega) (atQ (p:=p++u1) (q:=e::(v++(s3++q))) (x:=z) (by rw[hu1]; simp) (by simp)) rfl)) ?_))⟩
        refine aF (aG 14 [] (by kernel_rfl) ⟨?_,trivial⟩)
        ·
         refine⟨_,rfl,rfl,(ao rfl ?_)⟩
         refine aH rfl (cB rfl rfl cC bC (by omega)) ?_
         refine aF (aG 15 [] (by kernel_rfl) ⟨?_,trivial⟩)
         ·
          refine⟨_,rfl,rfl,(ao rfl (bB hf rfl rfl bC rfl rfl (by simp [stC,AV.cells,AV.one,Value.oneCell']) (by simp [stC,AV.cells,AV.leaf,Value.oneCell']) (fP (k:=4) (enc:=stC) (z:=p.length+u.length) (v:=z) (by omega) (by simp only[List.length_append,List.length_cons,List.length_set]; omega) rfl rfl rfl) ?_))⟩
          refine aF (aG 16 [] (by kernel_rfl) ⟨?_,trivial⟩)
          ·
           refine⟨_,rfl,rfl,(ao rfl ?_)⟩
           refine aH rfl (cB rfl rfl cC bC (by omega)) ?_
           refine aF (aG 17 [] (by kernel_rfl) ⟨?_,trivial⟩)
           ·
            refine⟨_,rfl,rfl,(ao rfl (bB hf rfl rfl bC rfl rfl (by simp [stC,AV.cells,AV.one,Value.oneCell']) (by simp [stC,AV.cells,AV.leaf,Value.oneCell']) (fP (k:=4) (enc:=stC) (z:=p.length+u1.length) (v:=e) (by omega) (by simp only[List.length_append,List.length_cons,List.length_set]; omega) rfl rfl rfl) ?_))⟩
            refine aF (bX (by kernel_rfl) ?_)
            refine hK8 _ (aB (aE aA 1 rfl ?_))
            refine aH rfl (eZ rfl rfl (by omega) (by omega)) ?_
            refine aE aA 1 rfl (aD ?_)
            exact⟨(u1,z::v),⟨by rw[← huv,hu1]; simp,fun y hy=>by
             rcases List.mem_cons.1 hy with rfl | hy
             · omega
             · exact hv y hy⟩,by simp only; omega,cJ ⟨rfl,rfl,rfl,rfl,rfl,aQ (by omega),trivial⟩ (congrArg (fun l=>[(E0,AM.buf 4 (List.map stC l))]) ((xR (p:=p++u1) (x:=z) (y:=e) (q:=v++(s3++q)) (by rw[hu1]; simp) (by simp; omega) (by simp)).trans (by simp)))⟩
     ·
      simp only[bs] at hc3
      refine bF (hK4 _ (aB (aE aA 1 rfl ?_)))
      refine aH rfl (bO rfl rfl (by omega) (by omega)) ?_
      refine aE aA 1 rfl (aD ?_)
      exact⟨(u++e::v,s3),⟨aGc hc (by rw[huv]; exact hs1) hv (fun z' hz'=>by rw[hu1] at hz'; simp at hz'; subst hz'; have:=hc.swap e z; omega),aNu huv hp12,.inl (by simp only[List.length_append,List.length_cons]; omega)⟩,by simp,cJ ⟨rfl,rfl,rfl,rfl,aQ (by simp only[List.length_append,List.length_cons]; omega),trivial⟩ (by simp)⟩
    ·
     simp only[bs] at hg2
     refine aV aA 13 rfl (cT [0,1,2,3,8,9,34] rfl rfl rfl (hK7 _ (bW rfl (bF (hK4 _ (aB (aE aA 1 rfl ?_)))))))
     refine aH rfl (bO rfl rfl (by omega) (by omega)) ?_
     refine aE aA 1 rfl (aD ?_)
     exact⟨(u++e::v,s3),⟨aGc hc (by rw[huv]; exact hs1) hv (fun z' hz'=>by rw[List.eq_nil_of_length_eq_zero (show u.length=0 by omega)] at hz'; simp at hz'),aNu huv hp12,.inl (by simp only[List.length_append,List.length_cons]; omega)⟩,by simp,cJ ⟨rfl,rfl,rfl,rfl,aQ (by simp only[List.length_append,List.length_cons]; omega),trivial⟩ (by simp)⟩
  ·
   simp only[bs] at hc1
   refine bF ?_
   have hs2:s2=[]:=List.eq_nil_of_length_eq_zero (by rcases hne with h | h; omega; have:=hnl h; omega)
   subst hs2
   exact⟨_,_,_,Le.refl _,rfl,rfl,s1,by simpa using hp12,hs1,rfl⟩
theorem aFc {g:Nat} (hent:∀ args w,(callFunc g args).run Tryz.prog w=.ok (.enter g args) w) {c:bI→bI→Int} (hc:Tri c) (hcmp:∀ x y:bI,Den Tryz.prog g [.agg (stC x),.agg (stC y)] (·=.s (.int .i64 (c x y)))) (NN:Nat) (ih:∀ (p s1 s2 q:List bI) (N:Nat) (za zm zb:Int),s1.length+s2.length≤NN→N=p.length+s1.length+s2.length+q.length→za=(p.length:Nat)→zm=((p.length+s1.length:Nat):Int)→zb=((p.length+s1.length+s2.length:Nat):Int)→0<s1.length→0<s2.length→Srt c s1→Srt c s2→N<4611686018427387904→DenM Tryz.prog 171 [.own E0 4 0 N,.s (.int .i64 za),.s (.int .i64 zm),.s (.int .i64 zb),.fn g []] 4 (List.map stC (p++(s1++(s2++q)))) (fun r ys=>∃ t:List bI,t.Perm (s1++s2)∧Srt c t∧ys=(List.map stC (p++(t++q))))) (p s1 s2 q:List bI) (N:Nat) (za zm zb:Int) (hle:s1.length+s2.length≤NN+1) (hN:N=p.length+s1.length+s2.length+q.length) (hza:za=(p.length:Nat)) (hzm:zm=((p.length+s1.length:Nat):Int)) (hzb:zb=((p.length+s1.length+s2.length:Nat):Int)) (h01:0<s1.length) (h02:0<s2.length) (hs1:Srt c s1) (hs2:Srt c s2) (hM:N<4611686018427387904) :DenM Tryz.prog 171 [.own E0 4 0 N,.s (.int .i64 za),.s (.int .i64 zm),.s (.int .i64 zb),.fn g []] 4 ((List.map stC (p++(s1++(s2++q))))) (fun r ys=>∃ t:List bI,t.Perm (s1++s2)∧Srt c t∧ys=(List.map stC (p++(t++q)))):=by
 subst hza
 subst hzm
 subst hzb
 refine iK Tryz.func171 rfl (Nat.le_of_ble_eq_true rfl) (fun w0 x0 A hf=>?_)
 refine aC (fun K1 hK1=>(aC (fun K2 hK2=>(aB (aE aA 2 rfl ?_)))))
 refine aH rfl (eZ rfl rfl (by omega) (by omega)) ?_
 refine aE aA 1 rfl (aD (hK2 _ (aL rfl (fun hc1=>?_) (fun hc1=>?_))))
 ·
  simp only[bs] at hc1
  obtain ⟨x,hx1⟩:∃ x,s1=[x]:=List.length_eq_one_iff.1 (by omega)
  have hl1:s1.length=1:=by rw[hx1]; rfl
  refine aC (fun K3 hK3=>(aB (aE aA 2 rfl (aD (hK3 _ (aC (fun K4 hK4=>(aB (aE aA 2 rfl (aD (hK4 _ (aC (fun K5 hK5=>(aP (bT (ι:=Nat×Nat) (fun(⟨i,j⟩:Nat×Nat)=>⟨220,[(0,.own E0 4 0 N),(1,.s (.int .i64 (p.length:Nat))),(4,.fn g []),(10,.s (.int .i64 ((p.length+s1.length+i:Nat):Int))),(11,.s (.int .i64 ((p.length+s1.length+j:Nat):Int)))],[(E0,.buf 4 (List.map stC (p++(s1++(s2++q)))))]⟩) (fun(⟨i,j⟩:Nat×Nat)=>i≤j∧j≤s2.length∧(∀ z,s2[i - 1]?=some z→0<i→c z x≤0)∧(∀ z,s2[j]?=some z→c x z≤0)) (fun(⟨i,j⟩:Nat×Nat)=>j - i) (0,s2.length) ?_ ?_ ?_)))))))))))))))
  · exact⟨Nat.zero_le _,Nat.le_refl _,fun _ _ h=>absurd h (by omega),fun z hz=>by rw[List.getElem?_eq_none (Nat.le_refl _)] at hz; cases hz⟩
  · exact cJ ⟨(by first | rfl | exact aQ (by omega)),(by first | rfl | exact aQ (by omega)),(by first | rfl | exact aQ (by omega)),(by first | rfl | exact aQ (by omega)),(by first | rfl | exact aQ (by omega)),trivial⟩ rfl
  ·
   rintro ⟨i,j⟩ hC
   obtain ⟨q1,q2,q3,q4⟩:=hC
   refine aC (fun K6 hK6=>(aC (fun K7 hK7=>(aB (aE aA 3 rfl (aD (hK7 _ (aL rfl (fun hc2=>?_) (fun hc2=>?_)))))))))
   ·
    simp only[bs] at hc2
    refine aN (hK6 _ (aP (aC (fun K8 hK8=>(aB ?_)))))
    obtain ⟨h,eh⟩:∃ h,h=(i+j) / 2:=⟨_,rfl⟩
    have hz:=aCa (a:=((p.length+s1.length+i:Nat):Int)+((p.length+s1.length+j:Nat):Int)) (b:=((p.length+s1.length+h:Nat):Int)) (by omega) (by omega) (by omega)
    refine aE aA 2 rfl ?_
    refine aH rfl (bO rfl rfl (by omega) (by omega)) ?_
    refine aH rfl (qF rfl Tryz.underlying3 Tryz.underlying228 hz.1) (aH rfl (aBw rfl hz.2.1 (by decide)) (aH rfl (qF rfl Tryz.underlying228 Tryz.underlying3 hz.2.2) (aE aA 1 rfl (aD (hK8 _ (aC (fun K9 hK9=>(cP hf bE (by kernel_rfl) rfl ?_))))))))
    have hh2:h<s2.length:=by omega
    refine aV aA 3 rfl ?_
    refine bQ [(41,_),(42,_)] rfl rfl ⟨⟨rfl,rfl⟩,⟨rfl,rfl⟩,trivial⟩ rfl (cB rfl rfl cC bC (by omega)) ?_
    refine bQ [(43,_)] rfl rfl ⟨⟨rfl,rfl⟩,trivial⟩ rfl (cD rfl eV bC rfl (fA (k:=4) (enc:=stC) (z:=p.length+s1.length+h) (by omega) (atM hh2) rfl) (dX (k:=4) (enc:=stC) (z:=p.length+s1.length+h) (by omega) (atM hh2) rfl)) (aV aA 2 rfl ?_)
    refine bQ [(45,_),(46,_)] rfl rfl ⟨⟨rfl,rfl⟩,⟨rfl,rfl⟩,trivial⟩ rfl (cB rfl rfl cC bC (by omega)) ?_
    refine bQ [(47,_)] rfl rfl ⟨⟨rfl,rfl⟩,trivial⟩ rfl (cD rfl eV bC rfl (fA (k:=4) (enc:=stC) (z:=p.length) (by omega) (atQ (p:=p) (q:=s2++q) (by rw[hx1]; rfl) rfl) rfl) (dX (k:=4) (enc:=stC) (z:=p.length) (by omega) (atQ (p:=p) (q:=s2++q) (by rw[hx1]; rfl) rfl) rfl)) ?_
    refine bJ [(40,_),(44,_),(48,_)] rfl rfl ⟨⟨rfl,rfl⟩,⟨rfl,rfl⟩,⟨rfl,rfl⟩,trivial⟩ rfl (aK rfl rfl hent rfl (hcmp s2[h] x)) (aV aA 1 rfl (cT [0,1,4,10,11,12,50] rfl rfl rfl (hK9 _ (aL rfl (fun hc3=>?_) (fun hc3=>?_)))))
    ·
     simp only[bs] at hc3
     refine aB (aE aA 1 rfl ?_)
     refine aH rfl (bO rfl rfl (by omega) (by omega)) ?_
     refine aE aA 1 rfl ?_
     refine bS ?_
     exact⟨(h+1,j),⟨by omega,by omega,fun z hz _=>by rw[Nat.add_sub_cancel,List.getElem?_eq_getElem hh2] at hz; cases hz; omega,q4⟩,by simp only; omega,cJ ⟨(by first | rfl | exact aQ (by omega)),(by first | rfl | exact aQ (by omega)),(by first | rfl | exact aQ (by omega)),(by first | rfl | exact aQ (by omega)),(by first | rfl | exact aQ (by omega)),trivial⟩ rfl⟩
    ·
     simp only[bs] at hc3
     refine aB (aE aA 2 rfl ?_)
     refine bS ?_
     exact⟨(i,h),⟨by omega,by omega,q3,fun z hz=>by rw[List.getElem?_eq_getElem hh2] at hz; cases hz; have:=hc.swap s2[h] x; omega⟩,by simp only; omega,cJ ⟨(by first | rfl | exact aQ (by omega)),(by first | rfl | exact aQ (by omega)),(by first | rfl | exact aQ (by omega)),(by first | rfl | exact aQ (by omega)),(by first | rfl | exact aQ (by omega)),trivial⟩ rfl⟩
   ·
    simp only[bs] at hc2
    refine bF (hK5 _ (aC (fun K10 hK10=>(aC (fun K11 hK11=>(aB (aE aA 2 rfl (aD (hK11 _ (aP (bT (ι:=Nat) (fun t=>⟨220,[(0,.own E0 4 0 N),(10,.s (.int .i64 ((p.length+s1.length+i:Nat):Int))),(13,.s (.int .i64 ((p.length+t:Nat):Int)))],[(E0,.buf 4 (List.map stC (p++(s2.take t++(x::(s2.drop t++q))))))]⟩) (fun t=>t≤i) (fun t=>i - t) 0 ?_ ?_ ?_)))))))))))
    · exact Nat.zero_le _
    · exact cJ ⟨(by first | rfl | exact aQ (by omega)),(by first | rfl | exact aQ (by omega)),(by first | rfl | exact aQ (by omega)),trivial⟩ (by rw[hx1]; rfl)
    ·
     rintro t hC
     have hq:=hC
     refine aC (fun K12 hK12=>(aC (fun K13 hK13=>(aB (aE aA 2 rfl ?_)))))
     refine aH rfl (eZ rfl rfl (by omega) (by omega)) ?_
     refine aE aA 1 rfl (aD (hK13 _ (aL rfl (fun hc4=>?_) (fun hc4=>?_))))
     ·
      simp only[bs] at hc4
      refine aN (hK12 _ (aC (fun K14 hK14=>(aP (eH bE ?_)))))
      refine bV (listed':=#[true,false,false,false,false,false,false,false,false,false,false,false,false,false,false,false,false,false]) 0 rfl (by kernel_rfl) (by kernel_rfl) (by kernel_rfl) rfl (fun _ _ h=>h) (eA rfl) ?_
      refine bV (listed':=#[true,true,false,false,false,false,false,false,false,false,false,false,false,false,false,false,false,false]) 1 rfl (by kernel_rfl) (by kernel_rfl) (by kernel_rfl) rfl (fun _ _ h=>h) (eA rfl) ?_
      refine bV (listed':=#[true,true,true,false,false,false,false,false,false,false,false,false,false,false,false,false,false,false]) 2 rfl (by kernel_rfl) (by kernel_rfl) (by kernel_rfl) rfl (fun _ _ h=>h) (eA rfl) ?_
      refine bV (listed':=#[true,true,true,true,false,false,false,false,false,false,false,false,false,false,false,false,false,false]) 3 rfl (by kernel_rfl) (by kernel_rfl) (by kernel_rfl) rfl (fun _ _ h=>h) (eA rfl) ?_
      refine bV (listed':=#[true,true,true,true,true,false,false,false,false,false,false,false,false,false,false,false,false,false]) 4 rfl (by kernel_rfl) (by kernel_rfl) (by kernel_rfl) rfl (fun _ _ h=>h) (aIt rfl rfl (by omega) (by omega)) ?_
      refine bV (listed':=#[true,true,true,true,true,true,false,false,false,false,false,false,false,false,false,false,false,false]) 5 rfl (by kernel_rfl) (by kernel_rfl) (by kernel_rfl) rfl (fun _ _ h=>h) (eA rfl) ?_
      refine bV (listed':=#[true,true,true,true,true,true,true,false,false,false,false,false,false,false,false,false,false,false]) 6 rfl (by kernel_rfl) (by kernel_rfl) (by kernel_rfl) rfl (fun _ _ h=>h) (eA rfl) ?_
      refine bV (listed':=#[true,true,true,true,true,true,true,true,false,false,false,false,false,false,false,false,false,false]) 7 rfl (by kernel_rfl) (by kernel_rfl) (by kernel_rfl) rfl (fun _ _ h=>h) (aIt rfl rfl (by omega) (by omega)) ?_
      refine bV (listed':=#[true,true,true,true,true,true,true,true,true,false,false,false,false,false,false,false,false,false]) 8 rfl (by kernel_rfl) (by kernel_rfl) (by kernel_rfl) rfl (fun _ _ h=>h) (lU rfl rfl cC bC (by omega)) ?_
      refine bV (listed':=#[true,true,true,true,true,true,true,true,true,false,true,false,false,false,false,false,false,false]) 10 rfl (by kernel_rfl) (by kernel_rfl) (by kernel_rfl) rfl (fun _ _ h=>h) (eA rfl) ?_
      refine bV (listed':=#[true,true,true,true,true,true,true,true,true,false,true,true,false,false,false,false,false,false]) 11 rfl (by kernel_rfl) (by kernel_rfl) (by kernel_rfl) rfl (fun _ _ h=>h) (eA rfl) ?_
      refine bV (listed':=#[true,true,true,true,true,true,true,true,true,false,true,true,true,false,false,false,false,false]) 12 rfl (by kernel_rfl) (by kernel_rfl) (by kernel_rfl) rfl (fun _ _ h=>h) (lU rfl rfl cC bC (by omega)) ?_
      refine kQ (cX [0,10,13,61,62,63,65,69,73] rfl) (aG 9 [13] (by kernel_rfl) ⟨?_,?_,trivial⟩)
      ·
       refine⟨_,rfl,rfl,(ao rfl (aH rfl (cD rfl eV bC rfl (fA (k:=4) (enc:=stC) (z:=p.length+t+1) (by omega) (atQ (p:=p++(s2.take t++[x])) (q:=s2.drop (t+1)++q) (x:=s2[t]) (by rw[List.drop_eq_getElem_cons (show t<s2.length by omega)]; simp only[List.append_assoc,List.cons_append,List.nil_append]) (by simp only[List.length_append,List.length_take,List.length_cons,List.length_nil]; omega)) rfl) (dX (k:=4) (enc:=stC) (z:=p.length+t+1) (by omega) (atQ (p:=p++(s2.take t++[x])) (q:=s2.drop (t+1)++q) (x:=s2[t]) (by rw[List.drop_eq_getElem_cons (show t<s2.length by omega)]; simp only[List.append_assoc,List.cons_append,List.nil_append]) (by simp only[List.length_append,List.length_take,List.length_cons,List.length_nil]; omega)) rfl)) ?_))⟩
       refine aF (aG 13 [] (by kernel_rfl) ⟨?_,trivial⟩)
       ·
        refine⟨_,rfl,rfl,(ao rfl (aH rfl (cD rfl eV bC rfl (fA (k:=4) (enc:=stC) (z:=p.length+t) (by omega) (atQ (p:=p++s2.take t) (q:=s2.drop t++q) (x:=x) (by simp only[List.append_assoc]) (by(try simp only[List.length_take,List.length_drop,List.length_append]); omega)) rfl) (dX (k:=4) (enc:=stC) (z:=p.length+t) (by omega) (atQ (p:=p++s2.take t) (q:=s2.drop t++q) (x:=x) (by simp only[List.append_assoc]) (by(try simp only[List.length_take,List.length_drop,List.length_append]); omega)) rfl)) ?_))⟩
        refine aF (aG 14 [] (by kernel_rfl) ⟨?_,trivial⟩)
        ·
         refine⟨_,rfl,rfl,(ao rfl ?_)⟩
         refine aH rfl (cB rfl rfl cC bC (by omega)) ?_
         refine aF (aG 15 [] (by kernel_rfl) ⟨?_,trivial⟩)
         ·
          refine⟨_,rfl,rfl,(ao rfl (bB hf rfl rfl bC rfl rfl (by simp [stC,AV.cells,AV.one,Value.oneCell']) (by simp [stC,AV.cells,AV.leaf,Value.oneCell']) (fP (k:=4) (enc:=stC) (z:=p.length+t) (v:=s2[t]) (by omega) (by simp only[List.length_append,List.length_cons,List.length_set,List.length_take,List.length_drop]; omega) rfl rfl rfl) ?_))⟩
          refine aF (aG 16 [] (by kernel_rfl) ⟨?_,trivial⟩)
          ·
           refine⟨_,rfl,rfl,(ao rfl ?_)⟩
           refine aH rfl (cB rfl rfl cC bC (by omega)) ?_
           refine aF (aG 17 [] (by kernel_rfl) ⟨?_,trivial⟩)
           ·
            refine⟨_,rfl,rfl,(ao rfl (bB hf rfl rfl bC rfl rfl (by simp [stC,AV.cells,AV.one,Value.oneCell']) (by simp [stC,AV.cells,AV.leaf,Value.oneCell']) (fP (k:=4) (enc:=stC) (z:=p.length+t+1) (v:=x) (by omega) (by simp only[List.length_append,List.length_cons,List.length_set,List.length_take,List.length_drop]; omega) rfl rfl rfl) ?_))⟩
            refine aF (bX (by kernel_rfl) ?_)
            refine hK14 _ (aB (aE aA 1 rfl ?_))
            refine aH rfl (bO rfl rfl (by omega) (by omega)) ?_
            refine aE aA 1 rfl (aD ?_)
            exact⟨t+1,by omega,by omega,cJ ⟨(by first | rfl | exact aQ (by omega)),(by first | rfl | exact aQ (by omega)),(by first | rfl | exact aQ (by omega)),trivial⟩ (congrArg (fun l=>[(E0,AM.buf 4 (List.map stC l))]) ((aTh (p:=p++s2.take t) (x:=x) (y:=s2[t]) (q:=s2.drop (t+1)++q) (by rw[List.drop_eq_getElem_cons (show t<s2.length by omega)]; simp only[List.append_assoc,List.cons_append]) (by(try simp only[List.length_take,List.length_drop,List.length_append]); omega) (by(try simp only[List.length_take,List.length_drop,List.length_append]); omega)).trans (by rw[← List.take_append_getElem (show t<s2.length by omega)]; simp only[List.append_assoc,List.cons_append,List.nil_append])))⟩
      ·
       refine⟨_,rfl,rfl,(ao rfl (aH rfl (cD rfl eV bC rfl (fA (k:=4) (enc:=stC) (z:=p.length+t) (by omega) (atQ (p:=p++s2.take t) (q:=s2.drop t++q) (x:=x) (by simp only[List.append_assoc]) (by(try simp only[List.length_take,List.length_drop,List.length_append]); omega)) rfl) (dX (k:=4) (enc:=stC) (z:=p.length+t) (by omega) (atQ (p:=p++s2.take t) (q:=s2.drop t++q) (x:=x) (by simp only[List.append_assoc]) (by(try simp only[List.length_take,List.length_drop,List.length_append]); omega)) rfl)) ?_))⟩
       refine aF (aG 9 [] (by kernel_rfl) ⟨?_,trivial⟩)
       ·
        refine⟨_,rfl,rfl,(ao rfl (aH rfl (cD rfl eV bC rfl (fA (k:=4) (enc:=stC) (z:=p.length+t+1) (by omega) (atQ (p:=p++(s2.take t++[x])) (q:=s2.drop (t+1)++q) (x:=s2[t]) (by rw[List.drop_eq_getElem_cons (show t<s2.length by omega)]; simp only[List.append_assoc,List.cons_append,List.nil_append]) (by simp only[List.length_append,List.length_take,List.length_cons,List.length_nil]; omega)) rfl) (dX (k:=4) (enc:=stC) (z:=p.length+t+1) (by omega) (atQ (p:=p++(s2.take t++[x])) (q:=s2.drop (t+1)++q) (x:=s2[t]) (by rw[List.drop_eq_getElem_cons (show t<s2.length by omega)]; simp only[List.append_assoc,List.cons_append,List.nil_append]) (by simp only[List.length_append,List.length_take,List.length_cons,List.length_nil]; omega)) rfl)) ?_))⟩
        refine aF (aG 14 [] (by kernel_rfl) ⟨?_,trivial⟩)
        ·
         refine⟨_,rfl,rfl,(ao rfl ?_)⟩
         refine aH rfl (cB rfl rfl cC bC (by omega)) ?_
         refine aF (aG 15 [] (by kernel_rfl) ⟨?_,trivial⟩)
         ·
          refine⟨_,rfl,rfl,(ao rfl (bB hf rfl rfl bC rfl rfl (by simp [stC,AV.cells,AV.one,Value.oneCell']) (by simp [stC,AV.cells,AV.leaf,Value.oneCell']) (fP (k:=4) (enc:=stC) (z:=p.length+t) (v:=s2[t]) (by omega) (by simp only[List.length_append,List.length_cons,List.length_set,List.length_take,List.length_drop]; omega) rfl rfl rfl) ?_))⟩
          refine aF (aG 16 [] (by kernel_rfl) ⟨?_,trivial⟩)
          ·
           refine⟨_,rfl,rfl,(ao rfl ?_)⟩
           refine aH rfl (cB rfl rfl cC bC (by omega)) ?_
           refine aF (aG 17 [] (by kernel_rfl) ⟨?_,trivial⟩)
           ·
            refine⟨_,rfl,rfl,(ao rfl (bB hf rfl rfl bC rfl rfl (by simp [stC,AV.cells,AV.one,Value.oneCell']) (by simp [stC,AV.cells,AV.leaf,Value.oneCell']) (fP (k:=4) (enc:=stC) (z:=p.length+t+1) (v:=x) (by omega) (by simp only[List.length_append,List.length_cons,List.length_set,List.length_take,List.length_drop]; omega) rfl rfl rfl) ?_))⟩
            refine aF (bX (by kernel_rfl) ?_)
            refine hK14 _ (aB (aE aA 1 rfl ?_))
            refine aH rfl (bO rfl rfl (by omega) (by omega)) ?_
            refine aE aA 1 rfl (aD ?_)
            exact⟨t+1,by omega,by omega,cJ ⟨(by first | rfl | exact aQ (by omega)),(by first | rfl | exact aQ (by omega)),(by first | rfl | exact aQ (by omega)),trivial⟩ (congrArg (fun l=>[(E0,AM.buf 4 (List.map stC l))]) ((aTh (p:=p++s2.take t) (x:=x) (y:=s2[t]) (q:=s2.drop (t+1)++q) (by rw[List.drop_eq_getElem_cons (show t<s2.length by omega)]; simp only[List.append_assoc,List.cons_append]) (by(try simp only[List.length_take,List.length_drop,List.length_append]); omega) (by(try simp only[List.length_take,List.length_drop,List.length_append]); omega)).trans (by rw[← List.take_append_getElem (show t<s2.length by omega)]; simp only[List.append_assoc,List.cons_append,List.nil_append])))⟩
     ·
      simp only[bs] at hc4
      refine bF (hK10 _ (aJ ?_))
      have hti:t=i:=by omega
      subst hti
      have hij:t=j:=by omega
      subst hij
      exact⟨_,_,_,Le.refl _,rfl,rfl,s2.take t++x::s2.drop t,by rw[hx1]; exact put_perm,aM7 hc hs2 (by omega) q3 q4,by simp only[List.append_assoc,List.cons_append]⟩
 ·
  simp only[bs] at hc1
  refine aN (hK1 _ (aC (fun K15 hK15=>(aC (fun K16 hK16=>(aB (aE aA 2 rfl ?_)))))))
  refine aH rfl (eZ rfl rfl (by omega) (by omega)) ?_
  refine aE aA 1 rfl (aD (hK16 _ (aL rfl (fun hc5=>?_) (fun hc5=>?_))))
  ·
   simp only[bs] at hc5
   obtain ⟨x,hx2⟩:∃ x,s2=[x]:=List.length_eq_one_iff.1 (by omega)
   have hl2:s2.length=1:=by rw[hx2]; rfl
   refine aC (fun K17 hK17=>(aB (aE aA 2 rfl (aD (hK17 _ (aC (fun K18 hK18=>(aB (aE aA 2 rfl (aD (hK18 _ (aC (fun K19 hK19=>(aP (bT (ι:=Nat×Nat) (fun(⟨i,j⟩:Nat×Nat)=>⟨220,[(0,.own E0 4 0 N),(2,.s (.int .i64 ((p.length+s1.length:Nat):Int))),(4,.fn g []),(14,.s (.int .i64 ((p.length+i:Nat):Int))),(15,.s (.int .i64 ((p.length+j:Nat):Int)))],[(E0,.buf 4 (List.map stC (p++(s1++(s2++q)))))]⟩) (fun(⟨i,j⟩:Nat×Nat)=>i≤j∧j≤s1.length∧(∀ z,s1[i - 1]?=some z→0<i→c z x≤0)∧(∀ z,s1[j]?=some z→c x z≤0)) (fun(⟨i,j⟩:Nat×Nat)=>j - i) (0,s1.length) ?_ ?_ ?_)))))))))))))))
   · exact⟨Nat.zero_le _,Nat.le_refl _,fun _ _ h=>absurd h (by omega),fun z hz=>by rw[List.getElem?_eq_none (Nat.le_refl _)] at hz; cases hz⟩
   · exact cJ ⟨(by first | rfl | exact aQ (by omega)),(by first | rfl | exact aQ (by omega)),(by first | rfl | exact aQ (by omega)),(by first | rfl | exact aQ (by omega)),(by first | rfl | exact aQ (by omega)),trivial⟩ rfl
   ·
    rintro ⟨i,j⟩ hC
    obtain ⟨q1,q2,q3,q4⟩:=hC
    refine aC (fun K20 hK20=>(aC (fun K21 hK21=>(aB (aE aA 3 rfl (aD (hK21 _ (aL rfl (fun hc6=>?_) (fun hc6=>?_)))))))))
    ·
     simp only[bs] at hc6
     refine aN (hK20 _ (aP (aC (fun K22 hK22=>(aB ?_)))))
     obtain ⟨h,eh⟩:∃ h,h=(i+j) / 2:=⟨_,rfl⟩
     have hz:=aCa (a:=((p.length+i:Nat):Int)+((p.length+j:Nat):Int)) (b:=((p.length+h:Nat):Int)) (by omega) (by omega) (by omega)
     refine aE aA 2 rfl ?_
     refine aH rfl (bO rfl rfl (by omega) (by omega)) ?_
     refine aH rfl (qF rfl Tryz.underlying3 Tryz.underlying228 hz.1) (aH rfl (aBw rfl hz.2.1 (by decide)) (aH rfl (qF rfl Tryz.underlying228 Tryz.underlying3 hz.2.2) (aE aA 1 rfl (aD (hK22 _ (aC (fun K23 hK23=>(cP hf bE (by kernel_rfl) rfl ?_))))))))
     have hh2:h<s1.length:=by omega
     refine aV aA 3 rfl ?_
     refine bQ [(93,_),(94,_)] rfl rfl ⟨⟨rfl,rfl⟩,⟨rfl,rfl⟩,trivial⟩ rfl (cB rfl rfl cC bC (by omega)) ?_
     refine bQ [(95,_)] rfl rfl ⟨⟨rfl,rfl⟩,trivial⟩ rfl (cD rfl eV bC rfl (fA (k:=4) (enc:=stC) (z:=p.length+s1.length) (by omega) (atQ (p:=p++s1) (q:=q) (x:=x) (by rw[hx2]; simp) (by simp)) rfl) (dX (k:=4) (enc:=stC) (z:=p.length+s1.length) (by omega) (atQ (p:=p++s1) (q:=q) (x:=x) (by rw[hx2]; simp) (by simp)) rfl)) ?_
     refine aV aA 2 rfl ?_
     refine bQ [(97,_),(98,_)] rfl rfl ⟨⟨rfl,rfl⟩,⟨rfl,rfl⟩,trivial⟩ rfl (cB rfl rfl cC bC (by omega)) ?_
     refine bQ [(99,_)] rfl rfl ⟨⟨rfl,rfl⟩,trivial⟩ rfl (cD rfl eV bC rfl (fA (k:=4) (enc:=stC) (z:=p.length+h) (by omega) (atL hh2) rfl) (dX (k:=4) (enc:=stC) (z:=p.length+h) (by omega) (atL hh2) rfl)) (bJ [(92,_),(96,_),(100,_)] rfl rfl ⟨⟨rfl,rfl⟩,⟨rfl,rfl⟩,⟨rfl,rfl⟩,trivial⟩ rfl (aK rfl rfl hent rfl (hcmp x s1[h])) (aV aA 2 rfl (cT [0,2,4,14,15,16,103] rfl rfl rfl (hK23 _ (aL rfl (fun hc7=>?_) (fun hc7=>?_))))))
     ·
      simp only[bs] at hc7
      refine aB (aE aA 1 rfl ?_)
      refine aH rfl (bO rfl rfl (by omega) (by omega)) ?_
      refine aE aA 1 rfl ?_
      refine bS ?_
      exact⟨(h+1,j),⟨by omega,by omega,fun z hz _=>by rw[Nat.add_sub_cancel,List.getElem?_eq_getElem hh2] at hz; cases hz; have:=hc.swap x s1[h]; omega,q4⟩,by simp only; omega,cJ ⟨(by first | rfl | exact aQ (by omega)),(by first | rfl | exact aQ (by omega)),(by first | rfl | exact aQ (by omega)),(by first | rfl | exact aQ (by omega)),(by first | rfl | exact aQ (by omega)),trivial⟩ rfl⟩
     ·
      simp only[bs] at hc7
      refine aB (aE aA 2 rfl ?_)
      refine bS ?_
      exact⟨(i,h),⟨by omega,by omega,q3,fun z hz=>by rw[List.getElem?_eq_getElem hh2] at hz; cases hz; omega⟩,by simp only; omega,cJ ⟨(by first | rfl | exact aQ (by omega)),(by first | rfl | exact aQ (by omega)),(by first | rfl | exact aQ (by omega)),(by first | rfl | exact aQ (by omega)),(by first | rfl | exact aQ (by omega)),trivial⟩ rfl⟩
    ·
     simp only[bs] at hc6
     refine bF (hK19 _ (aC (fun K24 hK24=>(aC (fun K25 hK25=>(aB (aE aA 2 rfl (aD (hK25 _ (aP (bT (ι:=Nat) (fun t=>⟨220,[(0,.own E0 4 0 N),(14,.s (.int .i64 ((p.length+i:Nat):Int))),(17,.s (.int .i64 ((p.length+t:Nat):Int)))],[(E0,.buf 4 (List.map stC (p++(s1.take t++(x::(s1.drop t++q))))))]⟩) (fun t=>i≤t∧t≤s1.length) (fun t=>t) s1.length ?_ ?_ ?_)))))))))))
     · exact⟨by omega,Nat.le_refl _⟩
     · exact cJ ⟨(by first | rfl | exact aQ (by omega)),(by first | rfl | exact aQ (by omega)),(by first | rfl | exact aQ (by omega)),trivial⟩ (by rw[hx2,List.take_length,List.drop_length]; rfl)
     ·
      rintro t hC
      obtain ⟨hq,hq2⟩:=hC
      refine aC (fun K26 hK26=>(aC (fun K27 hK27=>(aB (aE aA 3 rfl (aD (hK27 _ (aL rfl (fun hc8=>?_) (fun hc8=>?_)))))))))
      ·
       simp only[bs] at hc8
       refine aN (hK26 _ (aC (fun K28 hK28=>(aP (eH bE ?_)))))
       have hsp:p++(s1.take t++(x::(s1.drop t++q)))=(p++s1.take (t - 1))++s1[t - 1]::x::(s1.drop t++q):=by
        rw[show s1.take t=s1.take (t - 1)++[s1[t - 1]] from by rw[List.take_append_getElem (show t - 1<s1.length by omega),show t - 1+1=t by omega]]
        simp only[List.append_assoc,List.cons_append,List.nil_append]
       refine bV (listed':=#[true,false,false,false,false,false,false,false,false,false,false,false,false,false,false,false,false,false]) 0 rfl (by kernel_rfl) (by kernel_rfl) (by kernel_rfl) rfl (fun _ _ h=>h) (eA rfl) ?_
       refine bV (listed':=#[true,true,false,false,false,false,false,false,false,false,false,false,false,false,false,false,false,false]) 1 rfl (by kernel_rfl) (by kernel_rfl) (by kernel_rfl) rfl (fun _ _ h=>h) (eA rfl) ?_
       refine bV (listed':=#[true,true,true,false,false,false,false,false,false,false,false,false,false,false,false,false,false,false]) 2 rfl (by kernel_rfl) (by kernel_rfl) (by kernel_rfl) rfl (fun _ _ h=>h) (eA rfl) ?_
       refine bV (listed':=#[true,true,true,true,false,false,false,false,false,false,false,false,false,false,false,false,false,false]) 3 rfl (by kernel_rfl) (by kernel_rfl) (by kernel_rfl) rfl (fun _ _ h=>h) (eA rfl) ?_
       refine bV (listed':=#[true,true,true,true,true,false,false,false,false,false,false,false,false,false,false,false,false,false]) 4 rfl (by kernel_rfl) (by kernel_rfl) (by kernel_rfl) rfl (fun _ _ h=>h) (aIs rfl rfl (by omega) (by omega)) ?_
       refine bV (listed':=#[true,true,true,true,true,true,false,false,false,false,false,false,false,false,false,false,false,false]) 5 rfl (by kernel_rfl) (by kernel_rfl) (by kernel_rfl) rfl (fun _ _ h=>h) (eA rfl) ?_
       refine bV (listed':=#[true,true,true,true,true,true,true,false,false,false,false,false,false,false,false,false,false,false]) 6 rfl (by kernel_rfl) (by kernel_rfl) (by kernel_rfl) rfl (fun _ _ h=>h) (eA rfl) ?_
       refine bV (listed':=#[true,true,true,true,true,true,true,true,false,false,false,false,false,false,false,false,false,false]) 7 rfl (by kernel_rfl) (by kernel_rfl) (by kernel_rfl) rfl (fun _ _ h=>h) (aIs rfl rfl (by omega) (by omega)) ?_
       refine bV (listed':=#[true,true,true,true,true,true,true,true,true,false,false,false,false,false,false,false,false,false]) 8 rfl (by kernel_rfl) (by kernel_rfl) (by kernel_rfl) rfl (fun _ _ h=>h) (lU rfl rfl cC bC (by omega)) ?_
       refine bV (listed':=#[true,true,true,true,true,true,true,true,true,false,true,false,false,false,false,false,false,false]) 10 rfl (by kernel_rfl) (by kernel_rfl) (by kernel_rfl) rfl (fun _ _ h=>h) (eA rfl) ?_
       refine bV (listed':=#[true,true,true,true,true,true,true,true,true,false,true,true,false,false,false,false,false,false]) 11 rfl (by kernel_rfl) (by kernel_rfl) (by kernel_rfl) rfl (fun _ _ h=>h) (eA rfl) ?_
       refine bV (listed':=#[true,true,true,true,true,true,true,true,true,false,true,true,true,false,false,false,false,false]) 12 rfl (by kernel_rfl) (by kernel_rfl) (by kernel_rfl) rfl (fun _ _ h=>h) (lU rfl rfl cC bC (by omega)) ?_
       refine kQ (cX [0,14,17,113,114,115,117,121,125] rfl) (aG 9 [13] (by kernel_rfl) ⟨?_,?_,trivial⟩)
       ·
        refine⟨_,rfl,rfl,(ao rfl (aH rfl (cD rfl eV bC rfl (fA (k:=4) (enc:=stC) (z:=p.length+(t - 1)) (by omega) (atQ (p:=p++s1.take (t - 1)) (q:=x::(s1.drop t++q)) (x:=s1[t - 1]) hsp (by(try simp only[List.length_take,List.length_drop,List.length_append]); omega)) rfl) (dX (k:=4) (enc:=stC) (z:=p.length+(t - 1)) (by omega) (atQ (p:=p++s1.take (t - 1)) (q:=x::(s1.drop t++q)) (x:=s1[t - 1]) hsp (by(try simp only[List.length_take,List.length_drop,List.length_append]); omega)) rfl)) ?_))⟩
        refine aF (aG 13 [] (by kernel_rfl) ⟨?_,trivial⟩)
        ·
         refine⟨_,rfl,rfl,(ao rfl (aH rfl (cD rfl eV bC rfl (fA (k:=4) (enc:=stC) (z:=p.length+t) (by omega) (atQ (p:=p++s1.take t) (q:=s1.drop t++q) (x:=x) (by simp only[List.append_assoc]) (by(try simp only[List.length_take,List.length_drop,List.length_append]); omega)) rfl) (dX (k:=4) (enc:=stC) (z:=p.length+t) (by omega) (atQ (p:=p++s1.take t) (q:=s1.drop t++q) (x:=x) (by simp only[List.append_assoc]) (by(try simp only[List.length_take,List.length_drop,List.length_append]); omega)) rfl)) ?_))⟩
         refine aF (aG 14 [] (by kernel_rfl) ⟨?_,trivial⟩)
         ·
          refine⟨_,rfl,rfl,(ao rfl ?_)⟩
          refine aH rfl (cB rfl rfl cC bC (by omega)) ?_
          refine aF (aG 15 [] (by kernel_rfl) ⟨?_,trivial⟩)
          ·
           refine⟨_,rfl,rfl,(ao rfl (bB hf rfl rfl bC rfl rfl (by simp [stC,AV.cells,AV.one,Value.oneCell']) (by simp [stC,AV.cells,AV.leaf,Value.oneCell']) (fP (k:=4) (enc:=stC) (z:=p.length+t) (v:=s1[t - 1]) (by omega) (by simp only[List.length_append,List.length_cons,List.length_set,List.length_take,List.length_drop]; omega) rfl rfl rfl) ?_))⟩
           refine aF (aG 16 [] (by kernel_rfl) ⟨?_,trivial⟩)
           ·
            refine⟨_,rfl,rfl,(ao rfl ?_)⟩
            refine aH rfl (cB rfl rfl cC bC (by omega)) ?_
            refine aF (aG 17 [] (by kernel_rfl) ⟨?_,trivial⟩)
            ·
             refine⟨_,rfl,rfl,(ao rfl (bB hf rfl rfl bC rfl rfl (by simp [stC,AV.cells,AV.one,Value.oneCell']) (by simp [stC,AV.cells,AV.leaf,Value.oneCell']) (fP (k:=4) (enc:=stC) (z:=p.length+(t - 1)) (v:=x) (by omega) (by simp only[List.length_append,List.length_cons,List.length_set,List.length_take,List.length_drop]; omega) rfl rfl rfl) ?_))⟩
             refine aF (bX (by kernel_rfl) ?_)
             refine hK28 _ (aB (aE aA 1 rfl ?_))
             refine aH rfl (eZ rfl rfl (by omega) (by omega)) ?_
             refine aE aA 1 rfl (aD ?_)
             exact⟨t - 1,⟨by omega,by omega⟩,by omega,cJ ⟨(by first | rfl | exact aQ (by omega)),(by first | rfl | exact aQ (by omega)),(by first | rfl | exact aQ (by omega)),trivial⟩ (congrArg (fun l=>[(E0,AM.buf 4 (List.map stC l))]) ((xR (p:=p++s1.take (t - 1)) (x:=s1[t - 1]) (y:=x) (q:=s1.drop t++q) hsp (by(try simp only[List.length_take,List.length_drop,List.length_append]); omega) (by(try simp only[List.length_take,List.length_drop,List.length_append]); omega)).trans (by rw[List.drop_eq_getElem_cons (show t - 1<s1.length by omega),show t - 1+1=t by omega]; simp only[List.append_assoc,List.cons_append])))⟩
       ·
        refine⟨_,rfl,rfl,(ao rfl (aH rfl (cD rfl eV bC rfl (fA (k:=4) (enc:=stC) (z:=p.length+t) (by omega) (atQ (p:=p++s1.take t) (q:=s1.drop t++q) (x:=x) (by simp only[List.append_assoc]) (by(try simp only[List.length_take,List.length_drop,List.length_append]); omega)) rfl) (dX (k:=4) (enc:=stC) (z:=p.length+t) (by omega) (atQ (p:=p++s1.take t) (q:=s1.drop t++q) (x:=x) (by simp only[List.append_assoc]) (by(try simp only[List.length_take,List.length_drop,List.length_append]); omega)) rfl)) ?_))⟩
        refine aF (aG 9 [] (by kernel_rfl) ⟨?_,trivial⟩)
        ·
         refine⟨_,rfl,rfl,(ao rfl (aH rfl (cD rfl eV bC rfl (fA (k:=4) (enc:=stC) (z:=p.length+(t - 1)) (by omega) (atQ (p:=p++s1.take (t - 1)) (q:=x::(s1.drop t++q)) (x:=s1[t - 1]) hsp (by(try simp only[List.length_take,List.length_drop,List.length_append]); omega)) rfl) (dX (k:=4) (enc:=stC) (z:=p.length+(t - 1)) (by omega) (atQ (p:=p++s1.take (t - 1)) (q:=x::(s1.drop t++q)) (x:=s1[t - 1]) hsp (by(try simp only[List.length_take,List.length_drop,List.length_append]); omega)) rfl)) ?_))⟩
         refine aF (aG 14 [] (by kernel_rfl) ⟨?_,trivial⟩)
         ·
          refine⟨_,rfl,rfl,(ao rfl ?_)⟩
          refine aH rfl (cB rfl rfl cC bC (by omega)) ?_
          refine aF (aG 15 [] (by kernel_rfl) ⟨?_,trivial⟩)
          ·
           refine⟨_,rfl,rfl,(ao rfl (bB hf rfl rfl bC rfl rfl (by simp [stC,AV.cells,AV.one,Value.oneCell']) (by simp [stC,AV.cells,AV.leaf,Value.oneCell']) (fP (k:=4) (enc:=stC) (z:=p.length+t) (v:=s1[t - 1]) (by omega) (by simp only[List.length_append,List.length_cons,List.length_set,List.length_take,List.length_drop]; omega) rfl rfl rfl) ?_))⟩
           refine aF (aG 16 [] (by kernel_rfl) ⟨?_,trivial⟩)
           ·
            refine⟨_,rfl,rfl,(ao rfl ?_)⟩
            refine aH rfl (cB rfl rfl cC bC (by omega)) ?_
            refine aF (aG 17 [] (by kernel_rfl) ⟨?_,trivial⟩)
            ·
             refine⟨_,rfl,rfl,(ao rfl (bB hf rfl rfl bC rfl rfl (by simp [stC,AV.cells,AV.one,Value.oneCell']) (by simp [stC,AV.cells,AV.leaf,Value.oneCell']) (fP (k:=4) (enc:=stC) (z:=p.length+(t - 1)) (v:=x) (by omega) (by simp only[List.length_append,List.length_cons,List.length_set,List.length_take,List.length_drop]; omega) rfl rfl rfl) ?_))⟩
             refine aF (bX (by kernel_rfl) ?_)
             refine hK28 _ (aB (aE aA 1 rfl ?_))
             refine aH rfl (eZ rfl rfl (by omega) (by omega)) ?_
             refine aE aA 1 rfl (aD ?_)
             exact⟨t - 1,⟨by omega,by omega⟩,by omega,cJ ⟨(by first | rfl | exact aQ (by omega)),(by first | rfl | exact aQ (by omega)),(by first | rfl | exact aQ (by omega)),trivial⟩ (congrArg (fun l=>[(E0,AM.buf 4 (List.map stC l))]) ((xR (p:=p++s1.take (t - 1)) (x:=s1[t - 1]) (y:=x) (q:=s1.drop t++q) hsp (by(try simp only[List.length_take,List.length_drop,List.length_append]); omega) (by(try simp only[List.length_take,List.length_drop,List.length_append]); omega)).trans (by rw[List.drop_eq_getElem_cons (show t - 1<s1.length by omega),show t - 1+1=t by omega]; simp only[List.append_assoc,List.cons_append])))⟩
      ·
       simp only[bs] at hc8
       refine bF (hK24 _ (aJ ?_))
       have hti:t=i:=by omega
       subst hti
       have hij:t=j:=by omega
       subst hij
       exact⟨_,_,_,Le.refl _,rfl,rfl,s1.take t++x::s1.drop t,by rw[hx2]; exact put_perm.trans (List.perm_append_comm (l₁:=[x])),aM7 hc hs1 (by omega) q3 q4,by simp only[List.append_assoc,List.cons_append]⟩
  ·
   simp only[bs] at hc5
   refine aN (hK15 _ (aC (fun K29 hK29=>(aB ?_))))
   obtain ⟨M,eM⟩:∃ M,M=(s1.length+s2.length) / 2:=⟨_,rfl⟩
   have hz:=aCa (a:=((p.length:Nat):Int)+((p.length+s1.length+s2.length:Nat):Int)) (b:=((p.length+M:Nat):Int)) (by omega) (by omega) (by omega)
   refine aE aA 2 rfl ?_
   refine aH rfl (bO rfl rfl (by omega) (by omega)) ?_
   refine aH rfl (qF rfl Tryz.underlying3 Tryz.underlying228 hz.1) (aH rfl (aBw rfl hz.2.1 (by decide)) (aH rfl (qF rfl Tryz.underlying228 Tryz.underlying3 hz.2.2) (aE aA 1 rfl (aD (hK29 _ (aC (fun K30 hK30=>(aB (aE aA 2 rfl ?_)))))))))
   refine aH rfl (bO rfl rfl (by omega) (by omega)) ?_
   refine aE aA 1 rfl (aD (hK30 _ (aC (fun K31 hK31=>(aB (aE aA 2 rfl (aD (hK31 _ (aLo (ι:=Nat×Nat) (fun w=>⟨220,[(0,.own E0 4 0 N),(1,.s (.int .i64 (p.length:Nat))),(2,.s (.int .i64 ((p.length+s1.length:Nat):Int))),(3,.s (.int .i64 ((p.length+s1.length+s2.length:Nat):Int))),(4,.fn g []),(18,.s (.int .i64 ((p.length+M:Nat):Int))),(19,.s (.int .i64 ((p.length+M:Nat)+(p.length+s1.length:Nat)))),(20,.s (.int .i64 ((p.length+w.1:Nat):Int))),(21,.s (.int .i64 ((p.length+w.2:Nat):Int)))],[(E0,.buf 4 (List.map stC (p++(s1++(s2++q)))))]⟩) (fun w=>(w.1=0∨M - w.1=s2.length)∧(w.2=s1.length∨w.2=M)∧w.1≤w.2∧w.2≤s1.length∧w.2≤M∧M - w.1≤s2.length) ?_ ?_)))))))))
   ·
    refine aC (fun K33 hK33=>(aB (aE aA 3 rfl (aD (hK33 _ (aL rfl (fun hc9=>?_) (fun hc9=>?_)))))))
    ·
     simp only[bs] at hc9
     refine aC (fun K34 hK34=>(aB (aE aA 2 rfl ?_)))
     refine aH rfl (eZ rfl rfl (by omega) (by omega)) ?_
     refine aE aA 1 rfl (aD (hK34 _ (aB (aE aA 2 rfl ?_))))
     refine aD ?_
     exact⟨(M - s2.length,M),⟨.inr (by simp only; omega),.inr rfl,by simp only; omega,by simp only; omega,Nat.le_refl _,by simp only; omega⟩,cJ ⟨(by first | rfl | exact aQ (by omega)),(by first | rfl | exact aQ (by omega)),(by first | rfl | exact aQ (by omega)),(by first | rfl | exact aQ (by omega)),(by first | rfl | exact aQ (by omega)),(by first | rfl | exact aQ (by omega)),(by first | rfl | exact aQ (by omega)),(by first | rfl | exact aQ (by omega)),(by first | rfl | exact aQ (by omega)),trivial⟩ rfl⟩
    ·
     simp only[bs] at hc9
     refine aC (fun K35 hK35=>(aB (aE aA 2 rfl (aD (hK35 _ (aB (aE aA 2 rfl ?_)))))))
     refine aD ?_
     exact⟨(0,s1.length),⟨.inl rfl,.inl rfl,Nat.zero_le _,Nat.le_refl _,by simp only; omega,by simp only; omega⟩,cJ ⟨(by first | rfl | exact aQ (by omega)),(by first | rfl | exact aQ (by omega)),(by first | rfl | exact aQ (by omega)),(by first | rfl | exact aQ (by omega)),(by first | rfl | exact aQ (by omega)),(by first | rfl | exact aQ (by omega)),(by first | rfl | exact aQ (by omega)),(by first | rfl | exact aQ (by omega)),(by first | rfl | exact aQ (by omega)),trivial⟩ rfl⟩
   ·
    intro w hj
    obtain ⟨S0,R0⟩:=w
    obtain ⟨j1,j2,j3,j4,j5,j6⟩:=hj
    simp only at j1 j2 j3 j4 j5 j6
    refine aC (fun K36 hK36=>(aB (aE aA 1 rfl ?_)))
    refine aH rfl (eZ rfl rfl (by omega) (by omega)) ?_
    refine aE aA 1 rfl (aD (hK36 _ (aC (fun K37 hK37=>(aP (bT (ι:=Nat×Nat) (fun(⟨S,R⟩:Nat×Nat)=>⟨220,[(0,.own E0 4 0 N),(1,.s (.int .i64 (p.length:Nat))),(2,.s (.int .i64 ((p.length+s1.length:Nat):Int))),(3,.s (.int .i64 ((p.length+s1.length+s2.length:Nat):Int))),(4,.fn g []),(18,.s (.int .i64 ((p.length+M:Nat):Int))),(19,.s (.int .i64 ((p.length+M:Nat)+(p.length+s1.length:Nat)))),(20,.s (.int .i64 ((p.length+S:Nat):Int))),(21,.s (.int .i64 ((p.length+R:Nat):Int))),(22,.s (.int .i64 ((p.length+M:Nat)+(p.length+s1.length:Nat) - 1)))],[(E0,.buf 4 (List.map stC (p++(s1++(s2++q)))))]⟩) (fun(⟨S,R⟩:Nat×Nat)=>S0≤S∧S≤R∧R≤R0∧(S=S0∨∀ z w,s1[S - 1]?=some z→s2[M - S]?=some w→c z w≤0)∧(R=R0∨∀ z w,s2[M - 1 - R]?=some z→s1[R]?=some w→c z w≤0)) (fun(⟨S,R⟩:Nat×Nat)=>R - S) (S0,R0) ?_ ?_ ?_))))))
    · exact⟨Nat.le_refl _,j3,Nat.le_refl _,.inl rfl,.inl rfl⟩
    · exact cJ ⟨(by first | rfl | exact aQ (by omega)),(by first | rfl | exact aQ (by omega)),(by first | rfl | exact aQ (by omega)),(by first | rfl | exact aQ (by omega)),(by first | rfl | exact aQ (by omega)),(by first | rfl | exact aQ (by omega)),(by first | rfl | exact aQ (by omega)),(by first | rfl | exact aQ (by omega)),(by first | rfl | exact aQ (by omega)),(by first | rfl | exact aQ (by omega)),trivial⟩ rfl
    ·
     rintro ⟨S,R⟩ hC
     obtain ⟨q1,q2,q3,q4,q5⟩:=hC
     refine aC (fun K38 hK38=>(aC (fun K39 hK39=>(aB (aE aA 3 rfl (aD (hK39 _ (aL rfl (fun hc10=>?_) (fun hc10=>?_)))))))))
     ·
      simp only[bs] at hc10
      refine aN (hK38 _ (aP (aC (fun K40 hK40=>(aB ?_)))))
      obtain ⟨h,eh⟩:∃ h,h=(S+R) / 2:=⟨_,rfl⟩
      have hz:=aCa (a:=((p.length+S:Nat):Int)+((p.length+R:Nat):Int)) (b:=((p.length+h:Nat):Int)) (by omega) (by omega) (by omega)
      refine aE aA 2 rfl ?_
      refine aH rfl (bO rfl rfl (by omega) (by omega)) ?_
      refine aH rfl (qF rfl Tryz.underlying3 Tryz.underlying228 hz.1) (aH rfl (aBw rfl hz.2.1 (by decide)) (aH rfl (qF rfl Tryz.underlying228 Tryz.underlying3 hz.2.2) (aE aA 1 rfl (aD (hK40 _ (aC (fun K41 hK41=>(cP hf bE (by kernel_rfl) rfl ?_))))))))
      have hh1:h<s1.length:=by omega
      have hh2:M - 1 - h<s2.length:=by omega
      refine aV aA 4 rfl ?_
      refine bQ [(160,_),(161,_)] rfl rfl ⟨⟨rfl,rfl⟩,⟨rfl,rfl⟩,trivial⟩ rfl (eZ rfl rfl (by omega) (by omega)) ?_
      refine bQ [(159,_),(162,_)] rfl rfl ⟨⟨rfl,rfl⟩,⟨rfl,rfl⟩,trivial⟩ rfl (cB rfl rfl cC bC (by omega)) ?_
      refine bQ [(163,_)] rfl rfl ⟨⟨rfl,rfl⟩,trivial⟩ rfl (cD rfl eV bC rfl (fA (k:=4) (enc:=stC) (z:=p.length+s1.length+(M - 1 - h)) (by omega) (atM hh2) rfl) (dX (k:=4) (enc:=stC) (z:=p.length+s1.length+(M - 1 - h)) (by omega) (atM hh2) rfl)) (aV aA 2 rfl ?_)
      refine bQ [(165,_),(166,_)] rfl rfl ⟨⟨rfl,rfl⟩,⟨rfl,rfl⟩,trivial⟩ rfl (cB rfl rfl cC bC (by omega)) ?_
      refine bQ [(167,_)] rfl rfl ⟨⟨rfl,rfl⟩,trivial⟩ rfl (cD rfl eV bC rfl (fA (k:=4) (enc:=stC) (z:=p.length+h) (by omega) (atL hh1) rfl) (dX (k:=4) (enc:=stC) (z:=p.length+h) (by omega) (atL hh1) rfl)) (bJ [(158,_),(164,_),(168,_)] rfl rfl ⟨⟨rfl,rfl⟩,⟨rfl,rfl⟩,⟨rfl,rfl⟩,trivial⟩ rfl (aK rfl rfl hent rfl (hcmp s2[M - 1 - h] s1[h])) (aV aA 2 rfl (cT [0,1,2,3,4,18,19,20,21,22,23,171] rfl rfl rfl (hK41 _ (aL rfl (fun hc11=>?_) (fun hc11=>?_))))))
      ·
       simp only[bs] at hc11
       refine aB (aE aA 1 rfl ?_)
       refine aH rfl (bO rfl rfl (by omega) (by omega)) ?_
       refine aE aA 1 rfl ?_
       refine bS ?_
       exact⟨(h+1,R),⟨by omega,by omega,q3,.inr (fun z w hz hw=>by rw[Nat.add_sub_cancel,List.getElem?_eq_getElem hh1] at hz; rw[show M - (h+1)=M - 1 - h by omega,List.getElem?_eq_getElem hh2] at hw; cases hz; cases hw; have:=hc.swap s1[h] s2[M - 1 - h]; omega),q5⟩,by simp only; omega,cJ ⟨(by first | rfl | exact aQ (by omega)),(by first | rfl | exact aQ (by omega)),(by first | rfl | exact aQ (by omega)),(by first | rfl | exact aQ (by omega)),(by first | rfl | exact aQ (by omega)),(by first | rfl | exact aQ (by omega)),(by first | rfl | exact aQ (by omega)),(by first | rfl | exact aQ (by omega)),(by first | rfl | exact aQ (by omega)),(by first | rfl | exact aQ (by omega)),trivial⟩ rfl⟩
      ·
       simp only[bs] at hc11
       refine aB (aE aA 2 rfl ?_)
       refine bS ?_
       exact⟨(S,h),⟨q1,by omega,by omega,q4,.inr (fun z w hz hw=>by rw[List.getElem?_eq_getElem hh2] at hz; rw[List.getElem?_eq_getElem hh1] at hw; cases hz; cases hw; omega)⟩,by simp only; omega,cJ ⟨(by first | rfl | exact aQ (by omega)),(by first | rfl | exact aQ (by omega)),(by first | rfl | exact aQ (by omega)),(by first | rfl | exact aQ (by omega)),(by first | rfl | exact aQ (by omega)),(by first | rfl | exact aQ (by omega)),(by first | rfl | exact aQ (by omega)),(by first | rfl | exact aQ (by omega)),(by first | rfl | exact aQ (by omega)),(by first | rfl | exact aQ (by omega)),trivial⟩ rfl⟩
     ·
      simp only[bs] at hc10
      refine bF (hK37 _ (aC (fun K42 hK42=>(aB ?_))))
      obtain ⟨K,hK⟩:∃ K,K=M - S:=⟨_,rfl⟩
      have hA:∀ (h0:0<S) (h3:K<s2.length),c (s1[S - 1]'(by omega)) s2[K]≤0:=fun h0 h3=>by
       rcases q4 with e | e
       · exfalso; omega
       · exact e _ _ (List.getElem?_eq_getElem (by omega)) (by rw[← hK]; exact List.getElem?_eq_getElem h3)
      have hB:∀ (h0:0<K) (h3:S<s1.length),c (s2[K - 1]'(by omega)) s1[S]≤0:=fun h0 h3=>by
       have hSR:S=R:=by omega
       rw[← hSR] at q5
       rcases q5 with e | e
       · exfalso; omega
       · exact e _ _ (by rw[show M - 1 - S=K - 1 by omega]; exact List.getElem?_eq_getElem (by omega)) (List.getElem?_eq_getElem h3)
      have hsep:=sym_sep hc hs1 hs2 (show S≤s1.length by omega) (show K≤s2.length by omega) hA hB
      refine aE aA 2 rfl ?_
      refine aH rfl (eZ rfl rfl (by omega) (by omega)) ?_
      rw[show (((p.length+M:Nat):Int)+((p.length+s1.length:Nat):Int)) - ((p.length+S:Nat):Int)=((p.length+s1.length+K:Nat):Int) from by omega]
      refine aE aA 1 rfl (aD (hK42 _ (aLo (ι:=Unit) (fun w=>⟨220,[(0,.own E0 4 0 N),(1,.s (.int .i64 (p.length:Nat))),(3,.s (.int .i64 ((p.length+s1.length+s2.length:Nat):Int))),(4,.fn g []),(18,.s (.int .i64 ((p.length+M:Nat):Int))),(20,.s (.int .i64 ((p.length+S:Nat):Int))),(24,.s (.int .i64 ((p.length+s1.length+K:Nat):Int)))],[(E0,.buf 4 (List.map stC (p++((s1.take S++s2.take K)++((s1.drop S++s2.drop K)++q)))))]⟩) (fun w=>True) ?_ ?_)))
      ·
       refine aC (fun K44 hK44=>(aB (aE aA 4 rfl (aU rfl rfl rfl (fun hg12=>?_) (fun hg12=>?_)))))
       ·
        simp only[bs] at hg12
        refine aH rfl (fZ rfl) (aE aA 3 rfl (aD (hK44 _ (aL rfl (fun hc13=>?_) (fun hc13=>?_)))))
        ·
         simp only[bs] at hc13
         refine aB ?_
         rw[aWn (p:=p) (s1:=s1) (s2:=s2) (q:=q) S K]
         refine aE aA 5 rfl (gE hf E0 rfl rfl rfl rfl rfl aPa (aQy g (p++s1.take S) (s1.drop S) (s2.take K) (s2.drop K++q) N _ _ _ (by(try simp only[List.length_take,List.length_drop,List.length_append]); omega) (by(try simp only[List.length_take,List.length_drop,List.length_append]); omega) (by(try simp only[List.length_take,List.length_drop,List.length_append]); omega) (by(try simp only[List.length_take,List.length_drop,List.length_append]); omega) (by(try simp only[List.length_take,List.length_drop,List.length_append]); omega) (by(try simp only[List.length_take,List.length_drop,List.length_append]); omega) hM) ?_)
         rintro r zs rfl
         refine aD ?_
         exact⟨(),trivial,cJ ⟨(by first | rfl | exact aQ (by omega)),(by first | rfl | exact aQ (by omega)),(by first | rfl | exact aQ (by omega)),(by first | rfl | exact aQ (by omega)),(by first | rfl | exact aQ (by omega)),(by first | rfl | exact aQ (by omega)),(by first | rfl | exact aQ (by omega)),trivial⟩ (congrArg (fun l=>[(E0,AM.buf 4 (List.map stC l))]) (by simp only[List.append_assoc]))⟩
        ·
         simp only[bs] at hc13
         refine aN ?_
         exact⟨(),trivial,cJ ⟨(by first | rfl | exact aQ (by omega)),(by first | rfl | exact aQ (by omega)),(by first | rfl | exact aQ (by omega)),(by first | rfl | exact aQ (by omega)),(by first | rfl | exact aQ (by omega)),(by first | rfl | exact aQ (by omega)),(by first | rfl | exact aQ (by omega)),trivial⟩ (by rw[aMk (p:=p) (s1:=s1) (s2:=s2) (q:=q) (S:=S) (K:=K) (by omega)])⟩
       ·
        simp only[bs] at hg12
        refine aE aA 3 rfl (aD (hK44 _ (bW rfl (aN ?_))))
        exact⟨(),trivial,cJ ⟨(by first | rfl | exact aQ (by omega)),(by first | rfl | exact aQ (by omega)),(by first | rfl | exact aQ (by omega)),(by first | rfl | exact aQ (by omega)),(by first | rfl | exact aQ (by omega)),(by first | rfl | exact aQ (by omega)),(by first | rfl | exact aQ (by omega)),trivial⟩ (by rw[aMk (p:=p) (s1:=s1) (s2:=s2) (q:=q) (S:=S) (K:=K) (by omega)])⟩
      ·
       intro w hj
       refine aLo (ι:=List bI) (fun l=>⟨220,[(0,.own E0 4 0 N),(3,.s (.int .i64 ((p.length+s1.length+s2.length:Nat):Int))),(4,.fn g []),(18,.s (.int .i64 ((p.length+M:Nat):Int))),(24,.s (.int .i64 ((p.length+s1.length+K:Nat):Int)))],[(E0,.buf 4 (List.map stC (p++(l++((s1.drop S++s2.drop K)++q)))))]⟩) (fun l=>l.Perm (s1.take S++s2.take K)∧Srt c l) ?_ ?_
       ·
        refine aC (fun K46 hK46=>(aB (aE aA 4 rfl (aU rfl rfl rfl (fun hg15=>?_) (fun hg15=>?_)))))
        ·
         simp only[bs] at hg15
         refine aH rfl (fZ rfl) (aE aA 3 rfl (aD (hK46 _ (aL rfl (fun hc16=>?_) (fun hc16=>?_)))))
         ·
          simp only[bs] at hc16
          refine aB ?_
          rw[List.append_assoc (s1.take S)]
          refine aE aA 5 rfl (gE hf E0 rfl rfl rfl rfl rfl sR (ih p (s1.take S) (s2.take K) ((s1.drop S++s2.drop K)++q) N _ _ _ (by(try simp only[List.length_take,List.length_drop,List.length_append]); omega) (by(try simp only[List.length_take,List.length_drop,List.length_append]); omega) rfl (by(try simp only[List.length_take,List.length_drop,List.length_append]); omega) (by(try simp only[List.length_take,List.length_drop,List.length_append]); omega) (by(try simp only[List.length_take,List.length_drop,List.length_append]); omega) (by(try simp only[List.length_take,List.length_drop,List.length_append]); omega) (hs1.take S) (hs2.take K) hM) ?_)
          rintro r zs ⟨lq,hl1,hl2,rfl⟩
          refine aD ?_
          exact⟨lq,⟨hl1,hl2⟩,cJ ⟨(by first | rfl | exact aQ (by omega)),(by first | rfl | exact aQ (by omega)),(by first | rfl | exact aQ (by omega)),(by first | rfl | exact aQ (by omega)),(by first | rfl | exact aQ (by omega)),trivial⟩ rfl⟩
         ·
          simp only[bs] at hc16
          refine aN ?_
          exact⟨s1.take S++s2.take K,⟨.refl _,aMo hs1 hs2 (by omega)⟩,cJ ⟨(by first | rfl | exact aQ (by omega)),(by first | rfl | exact aQ (by omega)),(by first | rfl | exact aQ (by omega)),(by first | rfl | exact aQ (by omega)),(by first | rfl | exact aQ (by omega)),trivial⟩ rfl⟩
        ·
         simp only[bs] at hg15
         refine aE aA 3 rfl (aD (hK46 _ (bW rfl (aN ?_))))
         exact⟨s1.take S++s2.take K,⟨.refl _,aMo hs1 hs2 (by omega)⟩,cJ ⟨(by first | rfl | exact aQ (by omega)),(by first | rfl | exact aQ (by omega)),(by first | rfl | exact aQ (by omega)),(by first | rfl | exact aQ (by omega)),(by first | rfl | exact aQ (by omega)),trivial⟩ rfl⟩
       ·
        intro l hj
        obtain ⟨hl1,hl2⟩:=hj
        have hll:=hl1.length_eq
        rw[List.length_append,List.length_take,List.length_take] at hll
        refine aC (fun K47 hK47=>(aB (aE aA 4 rfl (aU rfl rfl rfl (fun hg18=>?_) (fun hg18=>?_)))))
        ·
         simp only[bs] at hg18
         refine aH rfl (fZ rfl) (aE aA 3 rfl (aD (hK47 _ (aL rfl (fun hc19=>?_) (fun hc19=>?_)))))
         ·
          simp only[bs] at hc19
          refine aB ?_
          rw[show p++(l++((s1.drop S++s2.drop K)++q))=(p++l)++(s1.drop S++(s2.drop K++q)) from by simp only[List.append_assoc]]
          refine aE aA 5 rfl (gE hf E0 rfl rfl rfl rfl rfl sR (ih (p++l) (s1.drop S) (s2.drop K) q N _ _ _ (by(try simp only[List.length_take,List.length_drop,List.length_append]); omega) (by(try simp only[List.length_take,List.length_drop,List.length_append]); omega) (by(try simp only[List.length_take,List.length_drop,List.length_append]); omega) (by(try simp only[List.length_take,List.length_drop,List.length_append]); omega) (by(try simp only[List.length_take,List.length_drop,List.length_append]); omega) (by(try simp only[List.length_take,List.length_drop,List.length_append]); omega) (by(try simp only[List.length_take,List.length_drop,List.length_append]); omega) (hs1.drop S) (hs2.drop K) hM) ?_)
          rintro r zs ⟨rq,hr1,hr2,rfl⟩
          refine bS ?_
          exact⟨_,_,_,Le.refl _,rfl,rfl,l++rq,wR hl1 hr1,Srt.append hl2 hr2 (aFg hl1 hr1 hsep),by simp only[List.append_assoc]⟩
         ·
          simp only[bs] at hc19
          refine aN ?_
          exact⟨_,_,_,Le.refl _,rfl,rfl,l++(s1.drop S++s2.drop K),wR hl1 (.refl _),Srt.append hl2 (aIw hs1 hs2 (by omega)) (aFg hl1 (.refl _) hsep),by simp only[List.append_assoc]⟩
        ·
         simp only[bs] at hg18
         refine aE aA 3 rfl (aD (hK47 _ (bW rfl (aN ?_))))
         exact⟨_,_,_,Le.refl _,rfl,rfl,l++(s1.drop S++s2.drop K),wR hl1 (.refl _),Srt.append hl2 (aIw hs1 hs2 (by omega)) (aFg hl1 (.refl _) hsep),by simp only[List.append_assoc]⟩
theorem yY {g:Nat} (hent:∀ args w,(callFunc g args).run Tryz.prog w=.ok (.enter g args) w) {c:bI→bI→Int} (hc:Tri c) (hcmp:∀ x y:bI,Den Tryz.prog g [.agg (stC x),.agg (stC y)] (·=.s (.int .i64 (c x y)))):∀ (NN:Nat) (p s1 s2 q:List bI) (N:Nat) (za zm zb:Int),s1.length+s2.length≤NN→N=p.length+s1.length+s2.length+q.length→za=(p.length:Nat)→zm=((p.length+s1.length:Nat):Int)→zb=((p.length+s1.length+s2.length:Nat):Int)→0<s1.length→0<s2.length→Srt c s1→Srt c s2→N<4611686018427387904→DenM Tryz.prog 171 [.own E0 4 0 N,.s (.int .i64 za),.s (.int .i64 zm),.s (.int .i64 zb),.fn g []] 4 (List.map stC (p++(s1++(s2++q)))) (fun r ys=>∃ t:List bI,t.Perm (s1++s2)∧Srt c t∧ys=(List.map stC (p++(t++q))))
 | 0,p,s1,s2,q,N,za,zm,zb,hle,_,_,_,_,h01,_,_,_,_=>by exfalso; omega
 | NN+1,p,s1,s2,q,N,za,zm,zb,hle,hN,hza,hzm,hzb,h01,h02,hs1,hs2,hM=>aFc hent hc hcmp NN (yY hent hc hcmp NN) p s1 s2 q N za zm zb hle hN hza hzm hzb h01 h02 hs1 hs2 hM
theorem aHy {g:Nat} (hent:∀ args w,(callFunc g args).run Tryz.prog w=.ok (.enter g args) w) {c:bI→bI→Int} (hc:Tri c) (hcmp:∀ x y:bI,Den Tryz.prog g [.agg (stC x),.agg (stC y)] (·=.s (.int .i64 (c x y)))) (s0:List bI) (N:Nat) (hN:N=s0.length) (hM:N<4611686018427387904) :DenM Tryz.prog 126 [.own E0 4 0 N,.s (.int .i64 (N:Nat)),.fn g []] 4 ((List.map stC (s0))) (fun r ys=>∃ t:List bI,t.Perm s0∧Srt c t∧ys=(List.map stC (t))):=by
 refine iK Tryz.func126 rfl (Nat.le_of_ble_eq_true rfl) (fun w0 x0 A hf=>?_)
 refine aC (fun K1 hK1=>(aB (aE aA 1 rfl (aD (hK1 _ (aC (fun K2 hK2=>(aB (aE aA 3 rfl (aD (hK2 _ (aC (fun K3 hK3=>(aP (bT (ι:=List bI×List bI) (fun(⟨x,y⟩:List bI×List bI)=>⟨63,[(0,.own E0 4 0 N),(1,.s (.int .i64 (N:Nat))),(2,.fn g []),(6,.s (.int .i64 20)),(7,.s (.int .i64 (x.length:Nat))),(8,.s (.int .i64 ((x.length+20:Nat):Int)))],[(E0,.buf 4 (List.map stC (x++y)))]⟩) (fun(⟨x,y⟩:List bI×List bI)=>Fu c 20 x∧(x++y).Perm s0) (fun(⟨x,y⟩:List bI×List bI)=>y.length) ([],s0) ?_ ?_ ?_)))))))))))))))
 · exact⟨.nil,.refl _⟩
 · exact cQ rfl
 ·
  rintro ⟨x,y⟩ hC
  obtain ⟨hd,hp⟩:=hC
  have hpl:=hp.length_eq
  rw[List.length_append] at hpl
  refine aC (fun K4 hK4=>(aC (fun K5 hK5=>(aB (aE aA 3 rfl (aD (hK5 _ (aL rfl (fun hc1=>?_) (fun hc1=>?_)))))))))
  ·
   simp only[bs] at hc1
   refine aN (hK4 _ (aP (aC (fun K6 hK6=>(aB ?_)))))
   have htk:=List.length_take (i:=20) (l:=y)
   have hdk:=List.length_drop (i:=20) (l:=y)
   rw[show x++y=x++(y.take 20++y.drop 20) from by rw[List.take_append_drop]]
   refine aE aA 4 rfl (gE hf E0 rfl rfl rfl rfl rfl aDr (aFd hent hc hcmp x (y.take 20) (y.drop 20) N _ _ (by omega) (by omega) (by omega) hM) ?_)
   rintro r zs ⟨t,ht1,ht2,rfl⟩
   have htl:=ht1.length_eq
   refine aD (hK6 _ (aC (fun K7 hK7=>(aB (aE aA 2 rfl (aD (hK7 _ (aB (aE aA 2 rfl ?_)))))))))
   refine aH rfl (bO rfl rfl (by omega) (by omega)) ?_
   refine aE aA 1 rfl ?_
   refine bS ?_
   exact⟨(x++t,y.drop 20),⟨.cons hd ht2 (by have:=ht1.length_eq; rw[List.length_take] at this; omega),(show ((x++t)++y.drop 20).Perm s0 from (by rw[List.append_assoc]; exact(List.Perm.append_left x ((List.Perm.append_right _ ht1).trans (by rw[List.take_append_drop]))).trans hp))⟩,by simp only[List.length_drop]; omega,cJ ⟨(by first | rfl | exact aQ (by simp only[List.length_append]; omega)),(by first | rfl | exact aQ (by simp only[List.length_append]; omega)),(by first | rfl | exact aQ (by simp only[List.length_append]; omega)),(by first | rfl | exact aQ (by simp only[List.length_append]; omega)),(by first | rfl | exact aQ (by simp only[List.length_append]; omega)),(by first | rfl | exact aQ (by simp only[List.length_append]; omega)),trivial⟩ (by rw[List.append_assoc]; rfl)⟩
  ·
   simp only[bs] at hc1
   refine bF (hK3 _ (aC (fun K8 hK8=>(aB ?_))))
   rw[show x++y=x++(y++[]) from by rw[List.append_nil]]
   refine aE aA 4 rfl (gE hf E0 rfl rfl rfl rfl rfl aDr (aFd hent hc hcmp x y [] N _ _ (by simp only[List.length_nil]; omega) (by omega) (by omega) hM) ?_)
   rintro r zs ⟨t0,ht01,ht02,rfl⟩
   refine aD (hK8 _ (aP (bT (ι:=Nat×List bI) (fun(⟨bz,l⟩:Nat×List bI)=>⟨63,[(0,.own E0 4 0 N),(1,.s (.int .i64 (N:Nat))),(2,.fn g []),(6,.s (.int .i64 (bz:Nat)))],[(E0,.buf 4 (List.map stC (l)))]⟩) (fun(⟨bz,l⟩:Nat×List bI)=>0<bz∧bz<9223372036854775808∧Ch c bz l∧l.Perm s0) (fun(⟨bz,l⟩:Nat×List bI)=>N - bz) (20,x++t0) ?_ ?_ ?_)))
   · exact⟨by decide,by decide,hd.ch (.last ht02 (by have:=ht01.length_eq; omega)),(List.Perm.append_left x ht01).trans hp⟩
   · exact cJ ⟨rfl,rfl,rfl,rfl,trivial⟩ (by rw[List.append_nil]; rfl)
   ·
    rintro ⟨bz,l⟩ hC
    obtain ⟨hb0,hb1,hch,hlp⟩:=hC
    have hll:=hlp.length_eq
    refine aC (fun K9 hK9=>(aC (fun K10 hK10=>(aB (aE aA 3 rfl (aD (hK10 _ (aL rfl (fun hc2=>?_) (fun hc2=>?_)))))))))
    ·
     simp only[bs] at hc2
     refine aN (hK9 _ (aP (aC (fun K11 hK11=>(aB (aE aA 1 rfl (aH rfl (aTt rfl rfl rfl (by omega) (by omega)) (aE aA 2 rfl (aD (hK11 _ (aC (fun K12 hK12=>(aP (bT (ι:=List bI×List bI) (fun(⟨x,y⟩:List bI×List bI)=>⟨63,[(0,.own E0 4 0 N),(1,.s (.int .i64 (N:Nat))),(2,.fn g []),(6,.s (.int .i64 (bz:Nat))),(7,.s (.int .i64 (x.length:Nat))),(8,.s (.int .i64 ((x.length+2*bz:Nat):Int)))],[(E0,.buf 4 (List.map stC (x++y)))]⟩) (fun(⟨x,y⟩:List bI×List bI)=>Fu c (2*bz) x∧Ch c bz y∧(x++y).Perm s0) (fun(⟨x,y⟩:List bI×List bI)=>y.length) ([],l) ?_ ?_ ?_))))))))))))))
     · exact⟨.nil,hch,hlp⟩
     · exact cJ ⟨rfl,rfl,rfl,rfl,rfl,aQ (by simp only[List.length_nil]; omega),trivial⟩ rfl
     ·
      rintro ⟨x,y⟩ hC
      obtain ⟨hd2,hr2,hp2⟩:=hC
      have hpl2:=hp2.length_eq
      rw[List.length_append] at hpl2
      refine aC (fun K13 hK13=>(aC (fun K14 hK14=>(aB (aE aA 3 rfl (aD (hK14 _ (aL rfl (fun hc3=>?_) (fun hc3=>?_)))))))))
      ·
       simp only[bs] at hc3
       refine aN (hK13 _ (aP (aC (fun K15 hK15=>(aB ?_)))))
       obtain ⟨sa,sb,r3,hy,hsa1,hsa2,hsb1,hsb2,hr3⟩:=hr2.pair hb0 (by omega)
       subst hy
       simp only[List.length_append] at hpl2
       refine aE aA 4 rfl ?_
       refine aH rfl (bO rfl rfl (by omega) (by omega)) ?_
       refine aE aA 2 rfl (gE hf E0 rfl rfl rfl rfl rfl sR (yY hent hc hcmp (sa.length+sb.length) x sa sb r3 N _ _ _ (Nat.le_refl _) (by omega) (by omega) (by omega) (by omega) (by omega) (by omega) hsa1 hsb1 hM) ?_)
       rintro r zs ⟨tt,htt1,htt2,rfl⟩
       have httl:=htt1.length_eq
       rw[List.length_append] at httl
       refine aD (hK15 _ (aC (fun K16 hK16=>(aB (aE aA 2 rfl (aD (hK16 _ (aB (aE aA 2 rfl (aH rfl (aTt rfl rfl rfl (by omega) (by omega)) ?_))))))))))
       refine aH rfl (bO rfl rfl (by omega) (by omega)) ?_
       refine aE aA 1 rfl ?_
       refine bS ?_
       exact⟨(x++tt,r3),⟨.cons hd2 htt2 (by have:=htt1.length_eq; rw[List.length_append] at this; omega),hr3,(show ((x++tt)++r3).Perm s0 from (by rw[List.append_assoc]; exact(List.Perm.append_left x ((List.Perm.append_right r3 htt1).trans (by rw[List.append_assoc]))).trans hp2))⟩,by simp only[List.length_append]; omega,cJ ⟨(by first | rfl | exact aQ (by simp only[List.length_append]; omega)),(by first | rfl | exact aQ (by simp only[List.length_append]; omega)),(by first | rfl | exact aQ (by simp only[List.length_append]; omega)),(by first | rfl | exact aQ (by simp only[List.length_append]; omega)),(by first | rfl | exact aQ (by simp only[List.length_append]; omega)),(by first | rfl | exact aQ (by simp only[List.length_append]; omega)),trivial⟩ (by rw[List.append_assoc]; rfl)⟩
      ·
       simp only[bs] at hc3
       refine bF (hK12 _ (aC (fun K17 hK17=>(aC (fun K18 hK18=>(aB (aE aA 2 rfl ?_)))))))
       refine aH rfl (bO rfl rfl (by omega) (by omega)) ?_
       refine aE aA 1 rfl (aD (hK18 _ (aC (fun K19 hK19=>(aB (aE aA 3 rfl (aD (hK19 _ (aL rfl (fun hc4=>?_) (fun hc4=>?_))))))))))
       ·
        simp only[bs] at hc4
        refine aB ?_
        obtain ⟨sa,sb,hy,hsa1,hsa2,hsb1,hsb2⟩:=hr2.rest (by omega) (by omega)
        subst hy
        simp only[List.length_append] at hpl2
        rw[show x++(sa++sb)=x++(sa++(sb++[])) from by rw[List.append_nil]]
        refine aE aA 5 rfl (gE hf E0 rfl rfl rfl rfl rfl sR (yY hent hc hcmp (sa.length+sb.length) x sa sb [] N _ _ _ (Nat.le_refl _) (by simp only[List.length_nil]; omega) (by omega) (by omega) (by omega) (by omega) (by omega) hsa1 hsb1 hM) ?_)
        rintro r zs ⟨tq,htq1,htq2,rfl⟩
        refine aD (hK17 _ (aB (aE aA 1 rfl (aH rfl (aTt rfl rfl rfl (by omega) (by omega)) (aE aA 1 rfl ?_)))))
        refine bS ?_
        exact⟨(2*bz,x++tq),⟨by omega,by omega,hd2.ch (.last htq2 (by have:=htq1.length_eq; rw[List.length_append] at this; omega)),(List.Perm.append_left x htq1).trans hp2⟩,by simp only; omega,cJ ⟨(by first | rfl | exact aQ (by omega)),(by first | rfl | exact aQ (by omega)),(by first | rfl | exact aQ (by omega)),(by first | rfl | exact aQ (by omega)),trivial⟩ (by rw[List.append_nil]; rfl)⟩
       ·
        simp only[bs] at hc4
        refine aN (hK17 _ (aB (aE aA 1 rfl (aH rfl (aTt rfl rfl rfl (by omega) (by omega)) (aE aA 1 rfl ?_)))))
        refine bS ?_
        exact⟨(2*bz,x++y),⟨by omega,by omega,hd2.ch (.last (hr2.short (by omega)) (by omega)),hp2⟩,by simp only; omega,cJ ⟨(by first | rfl | exact aQ (by omega)),(by first | rfl | exact aQ (by omega)),(by first | rfl | exact aQ (by omega)),(by first | rfl | exact aQ (by omega)),trivial⟩ rfl⟩
    ·
     simp only[bs] at hc2
     refine bF ?_
     exact⟨_,_,_,Le.refl _,rfl,rfl,l,hlp,hch.short (by omega),rfl⟩
theorem nR {g:Nat} (hent:∀ args w,(callFunc g args).run Tryz.prog w=.ok (.enter g args) w) {c:bI→bI→Int} (hc:Tri c) (hcmp:∀ x y:bI,Den Tryz.prog g [.agg (stC x),.agg (stC y)] (·=.s (.int .i64 (c x y)))) (s0:List bI) (N:Nat) (hN:N=s0.length) (hM:N<4611686018427387904) :DenM Tryz.prog 66 [.own E0 4 0 N,.fn g []] 4 ((List.map stC (s0))) (fun r ys=>∃ t:List bI,t.Perm s0∧Srt c t∧ys=(List.map stC (t))):=by
 refine iK Tryz.func66 rfl (Nat.le_of_ble_eq_true rfl) (fun w0 x0 A hf=>?_)
 refine aB (aE aA 4 rfl (gE hf E0 rfl rfl rfl rfl rfl aQa (aHy hent hc hcmp s0 N hN hM) ?_))
 rintro r zs ⟨t,ht1,ht2,rfl⟩
 refine bS ?_
 exact⟨_,_,_,Le.refl _,rfl,rfl,t,ht1,ht2,rfl⟩
end Go.Proofs.YtpkanhklapfajaaGreat
set_option linter.unusedVariables false
set_option linter.unusedSimpArgs false
namespace Go.Proofs.YtpkanhklapfajaaGreat
open Go Go.Abs
theorem yR {g:Nat} {cap:List AV} (hent:∀ args w,(callFunc g args).run Tryz.prog w=.ok (.enter g args) w) (hcl:cleanL (fun _=>false) cap=true) (p:Sp→Bool) (l:List Sp) (hl:l.length≤9223372036854775807) (hp:∀ x∈l,Den Tryz.prog g (.agg (spC x)::cap) (·=.s (.bool (p x)))) :Den Tryz.prog 146 [.sl 2 (l.map spC),.fn g cap]  (·=.s (.int .i64 (qH p l))):=by
 refine aR Tryz.func146 rfl (Nat.le_of_ble_eq_true rfl) (fun w0 A hf=>(aC (fun K1 hK1=>(aB (aE aA 1 rfl (aD (hK1 _ (aC (fun K2 hK2=>(aC (fun K3 hK3=>(aB (aE aA 3 rfl (aD (hK3 _ (aP ?_))))))))))))))))
 refine bT (ι:=Nat) (fun k=>⟨19,[(0,.sl 2 (l.map spC)),(1,.fn g cap),(7,.s (.int .i64 ((l.map spC).length:Nat))),(8,.s (.int .i64 (k:Nat)))],[]⟩) (fun k=>k≤l.length∧∀ (j:Nat) (hj:j<l.length),j<k→p l[j]=false) (fun k=>l.length - k) 0 ?_ ?_ ?_
 · exact⟨by omega,by omega⟩
 · exact cQ rfl
 ·
  rintro k hC
  obtain ⟨h1,h2⟩:=hC
  refine aC (fun K4 hK4=>(aB (aE aA 1 rfl (aD (hK4 _ (aC (fun K5 hK5=>(aL rfl (fun hc1=>?_) (fun hc1=>?_)))))))))
  ·
   simp only[bs] at hc1
   refine aN (hK5 _ (aC (fun K6 hK6=>(aP (aC (fun K7 hK7=>(aB (aE aA 2 rfl (aD (hK7 _ (aC (fun K8 hK8=>(aB (aE aA 3 rfl ?_))))))))))))))
   refine aH rfl (bG rfl rfl jI cY (by first | exact ixm (by omega) | assumption | exact⟨by decide,rfl⟩)) ?_
   refine aE aA 1 rfl (aI hf rfl (aK rfl rfl hent (by rw[gV,hcl]; rfl) (hp _ (List.getElem_mem _))) ?_)
   refine aD (hK8 _ (aL rfl (fun hc2=>?_) (fun hc2=>?_)))
   ·
    refine aC (fun K9 hK9=>(aB (aE aA 2 rfl (aD (hK9 _ (aJ ?_))))))
    refine⟨_,rfl,?_⟩
    refine dM ?_
    rw[oT (by omega) h2 (by assumption)]
   ·
    refine aN (hK6 _ (aB ?_))
    refine aH rfl (bO rfl rfl (by omega) (by omega)) ?_
    refine aE aA 1 rfl (aD ?_)
    exact⟨k+1,⟨by omega,fun j hj hjk=>by
      by_cases e:j=k
      · subst e; simp_all
      · exact h2 j hj (by omega)⟩,by omega,cQ rfl⟩
  ·
   simp only[bs] at hc1
   refine bF (hK2 _ (aC (fun K10 hK10=>(aB (aE aA 1 rfl (aD (hK10 _ (aJ ?_))))))))
   refine⟨_,rfl,?_⟩
   refine dM ?_
   rw[qU (fun j hj=>h2 j hj (by omega))]
theorem aCg {g:Nat} {cap:List AV} (hent:∀ args w,(callFunc g args).run Tryz.prog w=.ok (.enter g args) w) (hcl:cleanL (fun _=>false) cap=true) (p:Sp→Bool) (l:List Sp) (hl:l.length≤9223372036854775807) (hp:∀ x∈l,Den Tryz.prog g (.agg (spC x)::cap) (·=.s (.bool (p x)))) :Den Tryz.prog 102 [.sl 2 (l.map spC),.fn g cap]  (·=.s (.bool (l.any p))):=by
 refine aR Tryz.func102 rfl (Nat.le_of_ble_eq_true rfl) (fun w0 A hf=>(aC (fun K1 hK1=>(aB (aE aA 1 rfl (aD (hK1 _ (aC (fun K2 hK2=>(aB (aE aA 2 rfl (aI hf rfl (aK rfl rfl aDv (by show (true&&(cleanL (fun _=>false) cap&&true))=true; rw[hcl]; rfl) (yR hent hcl p l hl hp)) ?_))))))))))))
 refine aE aA 2 rfl (aD (hK2 _ (aJ ?_)))
 refine⟨_,rfl,?_⟩
 refine aO ?_
 rw[← pW]
theorem aGv {g:Nat} {cap:List AV} (hent:∀ args w,(callFunc g args).run Tryz.prog w=.ok (.enter g args) w) (hcl:cleanL (fun _=>false) cap=true) (hcv:∀ m,convL m cap=cap) (p:Sp→Bool) (l:List Sp) (n:Nat) (hn:n=l.length) (hl:l.length≤9223372036854775807) (hp:∀ x∈l,Den Tryz.prog g (.agg (spC x)::cap) (·=.s (.bool (p x)))) :DenM Tryz.prog 121 [.own E0 2 0 n,.fn g cap] 2 ((l.map spC)) (fun r ys=>r=.own E0 2 0 (l.filter fun x=>!p x).length∧ys=((l.filter fun x=>!p x).map spC)):=by
 subst hn
 have hq0:∀ j,((l.take j).filter fun x=>!p x).length≤j:=fun j=>iX _ l j
 have hq1:∀ j,((l.take j).filter fun x=>!p x).length≤l.length:=fun j=>iJ _ l j
 refine iK Tryz.func121 rfl (Nat.le_of_ble_eq_true rfl) (fun w0 x0 A hf=>?_)
 refine aC (fun K1 hK1=>(aB (aH rfl (bK) (aD (hK1 _ (aC (fun K2 hK2=>(aB (aE aA 2 rfl (aI hf rfl (sG rfl rfl (by show [AV.conv _ _,AV.fn g (convL _ cap)]=_; rw[hcv,cI (g:=E0) rfl (by simp)]) aDv (yR hent hcl p l hl hp) rfl) ?_))))))))))
 refine aE aA 1 rfl (aD (hK2 _ (aC (fun K3 hK3=>(aC (fun K4 hK4=>(aB (aE aA 2 rfl (aD (hK4 _ (aL rfl (fun hc1=>?_) (fun hc1=>?_))))))))))))
 ·
  simp only[bs] at hc1
  refine aC (fun K5 hK5=>(aB (aE aA 2 rfl (aD (hK5 _ (aJ ?_))))))
  have hno:qH p l=-1:=by simpa using hc1
  rcases eP p l with ⟨_,hn⟩ | ⟨k,hk,e,_⟩
  · exact⟨_,.own E0 2 0 l.length,(l.map spC),Le.refl _,rfl,rfl,by rw[gU p l hn],by rw[gU p l hn]⟩
  · exfalso; omega
 ·
  simp only[bs] at hc1
  refine aN (hK3 _ (aC (fun K6 hK6=>(aC (fun K7 hK7=>(aB ?_))))))
  rcases eP p l with ⟨e0,_⟩ | ⟨k0,hk0,ek0,hpk0,hbef⟩
  · exact absurd e0 (by simpa using hc1)
  have hst:=lX (fun x=>!p x) l k0 hk0 (fun j hj hjk=>by simp [hbef j hj hjk]) (by simp [hpk0])
  rw[ek0]
  refine aE aA 1 rfl ?_
  refine aH rfl (bO rfl rfl (by omega) (by omega)) ?_
  refine aE aA 1 rfl (aD (hK7 _ (aP (bT (ι:=Nat) (fun j=>⟨42,[(0,.own E0 2 0 l.length),(1,.fn g cap),(5,.s (.int .i64 (((l.take j).filter fun x=>!p x).length:Nat))),(6,.s (.int .i64 (j:Nat)))],[(E0,.buf 2 ((jX (fun x=>!p x) l j).map spC))]⟩) (fun j=>j≤l.length) (fun j=>l.length - j) (k0+1) ?_ ?_ ?_))))
  · exact hk0
  · rw[hst.1,hst.2]; exact kI ⟨rfl,rfl,rfl,rfl,trivial⟩
  ·
   rintro j hC
   let q:=fun x=>!p x
   have hle:((l.take j).filter q).length≤j:=hq0 j
   have hle2:((l.take j).filter fun x=>!p x).length≤j:=hq0 j
   refine aC (fun K8 hK8=>(aC (fun K9 hK9=>(aB (aE aA 4 rfl (aD (hK9 _ (aL rfl (fun hc2=>?_) (fun hc2=>?_)))))))))
   ·
    simp only[bs] at hc2
    refine aN (hK8 _ (aC (fun K10 hK10=>(aP (aC (fun K11 hK11=>(aB (aE aA 2 rfl ?_))))))))
    refine aH rfl (cB rfl rfl jI cY (by omega)) ?_
    refine aH rfl (cD rfl aHa cY rfl (qK (c:=2) (k:=j) (enc:=spC) (by omega) (by rw[eQ]; omega) rfl) (cs':=spC l[j]) (by rw[nV (c:=2) (k:=j) (enc:=spC) (by omega) (by rw[eQ]; omega) rfl,qV q l j j (by omega) hle])) ?_
    refine bY hf rfl fI rfl cY rfl rfl rfl rfl (lf rfl) (aD (hK11 _ (aC (fun K12 hK12=>(aB (aE aA 2 rfl (aI hf rfl (aK rfl rfl hent (by rw[gV,hcl]; rfl) (hp _ (List.getElem_mem _))) ?_)))))))
    refine aE aA 1 rfl (aD (hK12 _ (aL rfl (fun hc3=>?_) (fun hc3=>?_))))
    ·
     simp only[bs] at hc3
     refine aC (fun K13 hK13=>(aB (aE aA 3 rfl ?_)))
     refine aH rfl (cB rfl rfl jI cY (by omega)) ?_
     refine bB hf rfl rfl cY rfl rfl (by simp [spC,AV.cells,AV.one,Value.oneCell',splice]) (by simp [spC,AV.cells,AV.leaf,Value.oneCell',splice]) (iS (c:=2) (k:=((l.take j).filter fun x=>!p x).length) (enc:=spC) (v:=l[j]) (by omega) (by rw[eQ]; omega) rfl (Nat.le_refl _)) ?_
     refine aD (hK13 _ (aB ?_))
     rw[kY (fun x=>!p x) l j (by omega) (by simp_all)]
     refine aE aA 1 rfl ?_
     refine aH rfl (bO rfl rfl (by omega) (by omega)) ?_
     rw[nD (fun x=>!p x) l j (by omega) (by simp_all)]
     refine aE aA 1 rfl ?_
     refine bS ?_
     refine hK10 _ (aB (aE aA 1 rfl ?_))
     refine aH rfl (bO rfl rfl (by omega) (by omega)) ?_
     refine aE aA 1 rfl (aD ?_)
     exact⟨j+1,(by omega),by omega,cQ rfl⟩
    ·
     simp only[bs] at hc3
     rw[kZ (fun x=>!p x) l j (by omega) (by simp_all),nE (fun x=>!p x) l j (by omega) (by simp_all)]
     refine aN (hK10 _ (aB (aE aA 1 rfl ?_)))
     refine aH rfl (bO rfl rfl (by omega) (by omega)) ?_
     refine aE aA 1 rfl (aD ?_)
     exact⟨j+1,(by omega),by omega,cQ rfl⟩
   ·
    simp only[bs] at hc2
    refine bF (hK6 _ (aC (fun K14 hK14=>(aB (aE aA 2 rfl ?_)))))
    refine aH rfl (eW rfl jI cY rfl rfl (by omega) (by omega)) ?_
    refine xL hf iG fI (by simp [Value.oneCell']) rfl rfl ?_
    refine aD (hK14 _ (aC (fun K15 hK15=>(aB (aE aA 2 rfl ?_)))))
    refine aH rfl (eW rfl jI cY rfl rfl (by omega) (by omega)) ?_
    refine aE aA 1 rfl (aD (hK15 _ (aJ ?_)))
    have hjl:l.length≤j:=by omega
    have he:=oX (fun x=>!p x) l j hjl
    refine⟨_,_,_,Le.refl _,rfl,rfl,?_,?_⟩
    · rw[List.take_of_length_le hjl]; rfl
    · rw[List.take_of_length_le hjl,Nat.zero_add,Int.toNat_natCast,← List.map_take,he]
end Go.Proofs.YtpkanhklapfajaaGreat
set_option linter.unusedVariables false
set_option linter.unusedSimpArgs false
namespace Go.Proofs.YtpkanhklapfajaaGreat
open Go Go.Abs
theorem aVv (l:List Sp) (hl:l.length*16≤140737488355328) :DenO Tryz.prog 122 [.sl 2 (l.map spC)] 2 (·=(l.map spC)):=by
 refine gK Tryz.func122 rfl (Nat.le_of_ble_eq_true rfl) (fun w0 A hf=>?_)
 refine aC (fun K1 hK1=>(aB (aH rfl (bK) (aD (hK1 _ (aC (fun K2 hK2=>(aC (fun K3 hK3=>(aB (aE aA 1 rfl ?_)))))))))))
 refine oN rfl rfl rfl jI (fun b hb1=>?_)
 refine aD (hK3 _ (aL rfl (fun hc2=>?_) (fun hc2=>?_)))
 ·
  have hl0:l=[]:=by simpa using hb1 (by assumption)
  refine aC (fun K4 hK4=>(aB (mC hf 2 rfl rfl rfl (aD (hK4 _ (aJ ?_))))))
  exact⟨2,[],by decide,rfl,rfl,by rw[hl0]; rfl⟩
 ·
  refine aN (hK2 _ (aC (fun K5 hK5=>(aB (dR hf rfl rfl rfl iG rfl rfl rfl rfl (l2 rfl) ?_)))))
  refine aE aA 1 rfl (bH hf rfl iG rfl rfl rfl (.inl rfl) rfl rfl (by first | rfl | simp [eK,bL]) (by first | (simp only[maxLen,List.length_map,List.length_append,List.length_cons,List.length_nil]; omega) | (simp [maxLen] <;> omega)) (by first | (simp only[List.length_map,List.length_append,List.length_cons,List.length_nil]; omega) | (simp <;> omega)) ?_)
  refine bD (cX [7] rfl) (aE aA 1 rfl (aD (hK5 _ (aJ ?_))))
  refine⟨5,(l.map spC),by decide,rfl,?_,rfl⟩
  show some (AV.own 5 2 0 (0+(l.map spC).length))=_
  rw[Nat.zero_add]
theorem tP (a:Int) :Den Tryz.prog 169 [.s (.int .i64 a)]  (·=.s (.bool false)):=by
 refine aR Tryz.func169 rfl (Nat.le_of_ble_eq_true rfl) (fun w0 A hf=>(aC (fun K1 hK1=>(aB (aE aA 1 rfl (aD (hK1 _ (aC (fun K2 hK2=>(aB (aE aA 4 rfl (aD (hK2 _ (aJ ?_))))))))))))))
 refine⟨_,rfl,?_⟩
 refine aO ?_
 simp
theorem kJ (a b:Int) :Den Tryz.prog 125 [.s (.int .i64 a),.s (.int .i64 b)]  (·=.s (.int .i64 (kH a b))):=by
 refine aR Tryz.func125 rfl (Nat.le_of_ble_eq_true rfl) (fun w0 A hf=>(aC (fun K1 hK1=>(aB (aE aA 1 rfl (aD (hK1 _ (aC (fun K2 hK2=>(aB (aE aA 1 rfl (aI hf rfl (aK rfl rfl aDs rfl (tP _)) (aE aA 1 rfl (aD (hK2 _ ?_)))))))))))))))
 refine aC (fun K3 hK3=>(aB (aE aA 1 rfl (aI hf rfl (aK rfl rfl aDs rfl (tP _)) (aE aA 1 rfl (aD (hK3 _ (aC (fun K4 hK4=>(aC (fun K5 hK5=>(aB (aE aA 1 rfl (aD (hK5 _ ?_)))))))))))))))
 refine bW rfl (aN (hK4 _ (aC (fun K6 hK6=>(aC (fun K7 hK7=>(aB (aE aA 1 rfl (aD (hK7 _ (bW rfl (aN (hK6 _ (aC (fun K8 hK8=>?_)))))))))))))))
 refine aC (fun K9 hK9=>(aB (aE aA 3 rfl (aD (hK9 _ (aL rfl (fun hc3=>?_) (fun hc3=>?_)))))))
 ·
  simp only[bs] at hc3
  refine aC (fun K10 hK10=>(aB (aE aA 1 rfl (aD (hK10 _ (aJ ?_))))))
  refine⟨_,rfl,?_⟩
  refine dM ?_
  unfold kH
  (repeat' split) <;> first | rfl | omega
 ·
  simp only[bs] at hc3
  refine aN (hK8 _ (aC (fun K11 hK11=>(aC (fun K12 hK12=>(aB (aE aA 3 rfl (aD (hK12 _ (aL rfl (fun hc4=>?_) (fun hc4=>?_)))))))))))
  ·
   simp only[bs] at hc4
   refine aC (fun K13 hK13=>(aB (aE aA 1 rfl (aD (hK13 _ (aJ ?_))))))
   refine⟨_,rfl,?_⟩
   refine dM ?_
   unfold kH
   (repeat' split) <;> first | rfl | omega
  ·
   simp only[bs] at hc4
   refine aN (hK11 _ (aC (fun K14 hK14=>(aB (aE aA 1 rfl (aD (hK14 _ (aJ ?_))))))))
   refine⟨_,rfl,?_⟩
   refine dM ?_
   unfold kH
   (repeat' split) <;> first | rfl | omega
theorem mK (s:Sp) :Den Tryz.prog 65 [.agg (spC s)]  (·=.s (.bool (decide (s.2≤s.1)))):=by
 refine aR Tryz.func65 rfl (Nat.le_of_ble_eq_true rfl) (fun w0 A hf=>(aC (fun K1 hK1=>(aB (aI hf rfl (cE rfl rfl (lf rfl)) (aE aA 1 rfl (aD (hK1 _ (aC (fun K2 hK2=>(aB (aE aA 6 rfl (aD (hK2 _ (aJ ?_)))))))))))))))
 refine⟨_,rfl,?_⟩
 rfl
theorem has_den (s:Sp) (t:Int) :Den Tryz.prog 24 [.agg (spC s),.s (.int .i64 t)]  (·=.s (.bool (decide (s.1≤t)&&decide (t<s.2)))):=by
 refine aR Tryz.func24 rfl (Nat.le_of_ble_eq_true rfl) (fun w0 A hf=>(aC (fun K1 hK1=>(aB (aI hf rfl (cE rfl rfl (lf rfl)) (aE aA 1 rfl (aD (hK1 _ (aC (fun K2 hK2=>(aB (aE aA 5 rfl (aU rfl rfl rfl (fun hg1=>?_) (fun hg1=>?_))))))))))))))
 ·
  simp only[bs] at hg1
  refine aH rfl (fZ rfl) (aE aA 5 rfl (aD (hK2 _ (aJ ?_))))
  refine⟨_,rfl,?_⟩
  refine aO ?_
  rw[Bool.eq_iff_iff]
  simp only[Bool.and_eq_true,decide_eq_true_eq,true_iff,Bool.false_eq_true,false_iff]
  omega
 ·
  simp only[bs] at hg1
  refine aE aA 5 rfl (aD (hK2 _ (aJ ?_)))
  refine⟨_,rfl,?_⟩
  refine aO ?_
  rw[Bool.eq_iff_iff]
  simp only[Bool.and_eq_true,decide_eq_true_eq,true_iff,Bool.false_eq_true,false_iff]
  omega
theorem xZ (s o:Sp) :Den Tryz.prog 64 [.agg (spC s),.agg (spC o)]  (·=.agg (spC (eD s o))):=by
 refine aR Tryz.func64 rfl (Nat.le_of_ble_eq_true rfl) (fun w0 A hf=>(aC (fun K1 hK1=>(aB (aI hf rfl (cE rfl rfl (lf rfl)) (aI hf rfl (cE rfl rfl (lf rfl)) (aW hf rfl rfl rfl fI (aD (hK1 _ (aC (fun K2 hK2=>(aB (aE aA 4 rfl (aH rfl (aTu rfl rfl) (aE aA 4 rfl ?_)))))))))))))))
 refine aH rfl (p_min rfl rfl) (aH rfl (bR rfl fI jB (l3 rfl) rfl) (bB hf rfl rfl cY rfl rfl (l1 rfl) (l4 rfl) rfl (aD (hK2 _ (aJ ?_)))))
 refine⟨_,rfl,?_⟩
 rfl
theorem aNj (a b:Sp) :Den Tryz.prog 124 [.agg (spC a),.agg (spC b)]  (·=.s (.int .i64 (kH a.1 b.1))):=by
 refine aR Tryz.func124 rfl (Nat.le_of_ble_eq_true rfl) (fun w0 A hf=>(aC (fun K1 hK1=>(aB (aI hf rfl (cE rfl rfl (lf rfl)) (aI hf rfl (cE rfl rfl (lf rfl)) (aE aA 1 rfl (aD (hK1 _ (aC (fun K2 hK2=>(aB (aE aA 4 rfl (aI hf rfl (aK rfl rfl nM rfl (kJ _ _)) (aE aA 1 rfl ?_)))))))))))))))
 refine aD (hK2 _ (aJ ?_))
 refine⟨_,rfl,?_⟩
 rfl
end Go.Proofs.YtpkanhklapfajaaGreat
namespace Go.Proofs
open Go.Shelf
def Tryz.sortL_ren:Go.Shelf.Ren:=⟨fun | 6=>123 | 15=>168 | 14=>167 | 28=>196 | 29=>197 | 20=>188 | 21=>189 | 22=>190 | 23=>191 | 24=>192 | 25=>193 | 26=>194 | 27=>195 | 46=>201 | 47=>202 | 48=>203 | 49=>204 | 50=>205 | 57=>208 | n=>n,fun | 22=>79 | 24=>47 | 25=>190 | 3=>3 | 39=>228 | 0=>0 | 53=>252 | 55=>254 | 4=>4 | 46=>246 | 45=>245 | 50=>116 | 5=>5 | 9=>9 | 66=>255 | 70=>259 | 76=>262 | 77=>263 | n=>n,fun | n=>n⟩
theorem Tryz.sortL:Go.Proofs.SlLaysF0.n6 Tryz.prog Tryz.sortL_ren:={
  mixed:=by kernel_rfl
  f6:=⟨Tryz.f123.name,by decide,Tryz.func123.trans (congrArg some (by kernel_rfl))⟩
  f14:=⟨Tryz.f167.name,by decide,Tryz.func167.trans (congrArg some (by kernel_rfl))⟩
  f15:=Tryz.func168.trans (congrArg some (by kernel_rfl))
  f20:=⟨Tryz.f188.name,by decide,Tryz.func188.trans (congrArg some (by kernel_rfl))⟩
  f21:=⟨Tryz.f189.name,by decide,Tryz.func189.trans (congrArg some (by kernel_rfl))⟩
  f22:=⟨Tryz.f190.name,by decide,Tryz.func190.trans (congrArg some (by kernel_rfl))⟩
  f23:=⟨Tryz.f191.name,by decide,Tryz.func191.trans (congrArg some (by kernel_rfl))⟩
  f24:=⟨Tryz.f192.name,by decide,Tryz.func192.trans (congrArg some (by kernel_rfl))⟩
  f25:=⟨Tryz.f193.name,by decide,Tryz.func193.trans (congrArg some (by kernel_rfl))⟩
  f26:=⟨Tryz.f194.name,by decide,Tryz.func194.trans (congrArg some (by kernel_rfl))⟩
  f27:=⟨Tryz.f195.name,by decide,Tryz.func195.trans (congrArg some (by kernel_rfl))⟩
  f28:=Tryz.func196.trans (congrArg some (by kernel_rfl))
  f29:=Tryz.func197.trans (congrArg some (by kernel_rfl))
  f46:=⟨Tryz.f201.name,by decide,Tryz.func201.trans (congrArg some (by kernel_rfl))⟩
  f47:=Tryz.func202.trans (congrArg some (by kernel_rfl))
  f48:=Tryz.func203.trans (congrArg some (by kernel_rfl))
  f49:=⟨Tryz.f204.name,by decide,Tryz.func204.trans (congrArg some (by kernel_rfl))⟩
  f50:=⟨Tryz.f205.name,by decide,Tryz.func205.trans (congrArg some (by kernel_rfl))⟩
  f57:=⟨Tryz.f208.name,by decide,Tryz.func208.trans (congrArg some (by kernel_rfl))⟩
  t0:=Tryz.underlying0
  a0:=Tryz.isAgg0
  z0:=Tryz.sizeOf0
  v0:=Tryz.zeroValue0
  t3:=Tryz.underlying3
  a3:=Tryz.isAgg3
  z3:=Tryz.sizeOf3
  v3:=Tryz.zeroValue3
  t4:=Tryz.underlying4
  a4:=Tryz.isAgg4
  z4:=Tryz.sizeOf4
  v4:=Tryz.zeroValue4
  t5:=Tryz.underlying5
  a5:=Tryz.isAgg5
  z5:=Tryz.sizeOf5
  v5:=Tryz.zeroValue5
  t9:=Tryz.underlying9
  a9:=Tryz.isAgg9
  z9:=Tryz.sizeOf9
  v9:=Tryz.zeroValue9
  t22:=Tryz.underlying79
  a22:=Tryz.isAgg79
  z22:=Tryz.sizeOf79
  v22:=Tryz.zeroValue79
  t25:=Tryz.underlying190
  a25:=Tryz.isAgg190
  z25:=Tryz.sizeOf190
  v25:=Tryz.zeroValue190
  t39:=Tryz.underlying228
  a39:=Tryz.isAgg228
  z39:=Tryz.sizeOf228
  v39:=Tryz.zeroValue228
  t45:=Tryz.underlying245
  a45:=Tryz.isAgg245
  z45:=Tryz.sizeOf245
  v45:=Tryz.zeroValue245
  t46:=Tryz.underlying246
  a46:=Tryz.isAgg246
  z46:=Tryz.sizeOf246
  v46:=Tryz.zeroValue246
  t50:=Tryz.underlying116
  a50:=Tryz.isAgg116
  z50:=Tryz.sizeOf116
  v50:=Tryz.zeroValue116
  t53:=Tryz.underlying252
  a53:=Tryz.isAgg252
  z53:=Tryz.sizeOf252
  v53:=Tryz.zeroValue252
  t55:=Tryz.underlying254
  a55:=Tryz.isAgg254
  z55:=Tryz.sizeOf254
  v55:=Tryz.zeroValue254
  t66:=Tryz.underlying255
  a66:=Tryz.isAgg255
  z66:=Tryz.sizeOf255
  v66:=Tryz.zeroValue255
  t70:=Tryz.underlying259
  a70:=Tryz.isAgg259
  z70:=Tryz.sizeOf259
  v70:=Tryz.zeroValue259
  t76:=Tryz.underlying262
  a76:=Tryz.isAgg262
  z76:=Tryz.sizeOf262
  v76:=Tryz.zeroValue262
  t77:=Tryz.underlying263
  a77:=Tryz.isAgg263
  z77:=Tryz.sizeOf263
  v77:=Tryz.zeroValue263 }
end Go.Proofs
set_option linter.unusedVariables false
set_option linter.unusedSimpArgs false
namespace Go.Proofs.YtpkanhklapfajaaGreat
open Go Go.Abs
theorem aQz:aYo Tryz.prog 123 2:=fun m enc cf g cb blk off cap d w hk h1 hO eg hc hH hb hs=>Go.Proofs.AnyQ.slices_SortFunc Tryz.sortL 2 Tryz.isAgg47 Tryz.sizeOf47 enc hk h1 cf hO g cb blk off cap d w eg hc hH hb hs
theorem aQ0:aYp Tryz.prog 123:=fun p cap fv w=>Go.Proofs.AnyF.slices_SortFunc_none Tryz.sortL p cap fv w
theorem aWt (l:List Sp) (n:Nat) (hn:n=l.length) (hl:l.length<4611686018427387904):DenM Tryz.prog 123 [.own E0 2 0 n,.fn 124 []] 2 (l.map spC)
    (fun r ys=>∃ ms:List Sp,ms.Perm l∧ms.Pairwise (fun x y=>¬ kH y.1 x.1<0)∧ys=(ms.map spC)):=by
  subst hn
  exact aQ1 (by decide) aQz aQ0 aQb l spC (fun _=>rfl) (fun a _=>aWs a) (fun x y=>kH x.1 y.1) aXz (fun x _ y _=>aNj x y) hl
theorem aAq (l:List Sp) (hl:l.length*16≤140737488355328) :Den Tryz.prog 63 [.sl 2 (l.map spC)]  (·=.sl 2 (dC l |>.map spC)):=by
 refine aR Tryz.func63 rfl (Nat.le_of_ble_eq_true rfl) (fun w0 A hf=>(aC (fun K1 hK1=>(aB (aH rfl (bK) (aD (hK1 _ (aC (fun K2 hK2=>(aB (aE aA 1 rfl (iN hf rfl rfl rfl rfl rfl aQd rfl (aVv _ (by first | assumption | omega)) ?_))))))))))))
 rintro _ rfl
 refine gE hf 8 rfl rfl rfl rfl rfl aQe (aGv jP rfl (fun _=>rfl) wI l _ (by rw[List.length_map]) (by omega) (fun x _=>mK x)) ?_
 rintro r zs ⟨rfl,rfl⟩
 refine aE aA 1 rfl (aD (hK2 _ (aC (fun K3 hK3=>(aB (aE aA 1 rfl ?_))))))
 have hfl:(l.filter fun x=>!wI x).length≤l.length:=List.length_filter_le _ _
 refine gE hf 8 rfl rfl rfl rfl rfl aQc (aWt (l.filter fun x=>!wI x) _ rfl (by omega)) ?_
 rintro r zs ⟨ms,hp,hs,rfl⟩
 have hml:=hp.length_eq
 refine aD (hK3 _ (aC (fun K4 hK4=>(aB (mC hf 2 rfl rfl rfl (aD (hK4 _ (aC (fun K5 hK5=>(aC (fun K6 hK6=>(aB (aE aA 3 rfl (aD (hK6 _ ?_)))))))))))))))
 refine aP (bT (ι:=Nat×List Sp) (fun(⟨k,out⟩:Nat×List Sp)=>⟨53,[(3,.own 3 2 0 out.length),(12,.own 8 2 0 (l.filter fun x=>!wI x).length),(13,.s (.int .i64 ((l.filter fun x=>!wI x).length:Nat))),(14,.s (.int .i64 (k:Nat)))],[(3,.buf 2 (out.map spC)),(8,.buf 2 (ms.map spC))]⟩) (fun(⟨k,out⟩:Nat×List Sp)=>k≤ms.length∧out=(ms.take k).foldl dF []∧out.length≤k) (fun(⟨k,out⟩:Nat×List Sp)=>ms.length - k) (0,[]) ?_ ?_ ?_)
 · exact⟨Nat.zero_le _,rfl,Nat.le_refl _⟩
 · exact cQ rfl
 ·
  rintro ⟨k,out⟩ hC
  obtain ⟨h1,h2,h3⟩:=hC
  refine aC (fun K7 hK7=>(aB (aE aA 1 rfl (aD (hK7 _ (aC (fun K8 hK8=>(aL rfl (fun hc1=>?_) (fun hc1=>?_)))))))))
  ·
   simp only[bs] at hc1
   refine aN (hK8 _ (aC (fun K9 hK9=>(aP (aC (fun K10 hK10=>(aB ?_)))))))
   refine aH rfl (cB rfl rfl jI cY (by omega)) ?_
   refine aH rfl (cD rfl aHa cY rfl (qK (c:=2) (k:=k) (enc:=spC) (by omega) (by omega) rfl) (cs':=spC ms[k]) (nV (c:=2) (k:=k) (enc:=spC) (by omega) (by omega) rfl)) (bY hf rfl fI rfl cY rfl rfl rfl rfl (lf rfl) (aD (hK10 _ (aC (fun K11 hK11=>(aB (aE aA 3 rfl (aD (hK11 _ (aC (fun K12 hK12=>(cP hf bE (by kernel_rfl) rfl (aV aA 3 rfl (fC 22 true rfl (fun hg2=>?_) (fun hg2=>?_)))))))))))))))
   ·
    simp only[bs] at hg2
    refine aV aA 4 rfl ?_
    refine bQ [(26,_)] rfl rfl ⟨⟨rfl,rfl⟩,trivial⟩ rfl (eZ rfl rfl (by omega) (by omega)) ?_
    refine bQ [(25,_),(27,_)] rfl rfl ⟨⟨rfl,rfl⟩,⟨rfl,rfl⟩,trivial⟩ rfl (cB rfl rfl jI cY (by omega)) ?_
    refine aV aA 1 rfl (bQ [(29,_)] rfl rfl ⟨⟨rfl,rfl⟩,trivial⟩ rfl (iW rfl lE rfl (c:=.s (.int .i64 (out[out.length - 1]'(by omega)).2)) (jD (c:=2) (k:=out.length - 1) (enc:=spC) (by omega) (by omega) 1)) (aV aA 2 rfl (cT [3,5,6,12,13,14,32] rfl rfl rfl (hK12 _ (aL rfl (fun hc3=>?_) (fun hc3=>?_))))))
    ·
     simp only[bs] at hc3
     refine gL hf (L:=#[true,true,true,true,true,true,true,true,true,true,true,true,true,true,false]) 14 1 bE (by kernel_rfl) rfl (by kernel_rfl) rfl ?_
     refine aV aA 2 rfl ?_
     refine bQ [(34,_)] rfl rfl ⟨⟨rfl,rfl⟩,trivial⟩ rfl (eZ rfl rfl (by omega) (by omega)) ?_
     refine aV aA 2 rfl ?_
     refine bQ [(37,_)] rfl rfl ⟨⟨rfl,rfl⟩,trivial⟩ rfl (eZ rfl rfl (by omega) (by omega)) ?_
     refine bQ [(36,_),(38,_)] rfl rfl ⟨⟨rfl,rfl⟩,⟨rfl,rfl⟩,trivial⟩ rfl (cB rfl rfl jI cY (by omega)) ?_
     refine aV aA 1 rfl (bQ [(40,_)] rfl rfl ⟨⟨rfl,rfl⟩,trivial⟩ rfl (iW rfl lE rfl (c:=.s (.int .i64 (out[out.length - 1]'(by omega)).2)) (jD (c:=2) (k:=out.length - 1) (enc:=spC) (by omega) (by omega) 1)) (aV aA 2 rfl (bQ [(41,_),(43,_)] rfl rfl ⟨⟨rfl,rfl⟩,⟨rfl,rfl⟩,trivial⟩ rfl (aTu rfl rfl) ?_)))
     refine bQ [(33,_),(35,_)] rfl rfl ⟨⟨rfl,rfl⟩,⟨rfl,rfl⟩,trivial⟩ rfl (cB rfl rfl jI cY (by omega)) ?_
     refine aV aA 1 rfl (rM [3,12,13,14,44,46] rfl rfl rfl ?_)
     refine aG 14 [] (by kernel_rfl) ⟨?_,trivial⟩
     ·
      refine⟨_,rfl,rfl,(ao rfl (bB hf rfl rfl cA rfl rfl (by simp [AV.cells,AV.one,Value.oneCell']) (by simp [AV.cells,AV.leaf,Value.oneCell']) (iS (c:=2) (k:=out.length - 1) (f:=1) (enc:=spC) (v:=((out[out.length - 1]'(by omega)).1,max (out[out.length - 1]'(by omega)).2 ms[k].2)) (by omega) (by omega) rfl (Nat.le_refl _)) ?_))⟩
      refine aF (bX (by kernel_rfl) ?_)
      refine hK9 _ (aB ?_)
      refine aH rfl (bO rfl rfl (by omega) (by omega)) ?_
      refine aE aA 1 rfl (aD ?_)
      refine⟨(k+1,dF out ms[k]),⟨by omega,by rw[jL ms dF [] k (by omega),← h2],by have:=pF out ms[k]; omega⟩,by simp only; omega,?_⟩
      (rw[yO (by omega) (by assumption)]; exact cJ ⟨by rw[List.length_set]; rfl,rfl,rfl,rfl,trivial⟩ rfl)
    ·
     simp only[bs] at hc3
     refine aB (aE aA 2 rfl (aI hf rfl (aS iG rfl rfl rfl rfl (l2 rfl)) (bH hf rfl iG rfl rfl rfl (by first | exact Or.inl rfl | exact Or.inr rfl) (by first | rfl | simp) rfl (by first | rfl | simp [eK,bL]) (by first | (simp only[maxLen,List.length_map,List.length_append,List.length_cons,List.length_nil]; omega) | (simp [maxLen] <;> omega)) (by first | (simp only[List.length_map,List.length_append,List.length_cons,List.length_nil]; omega) | (simp <;> omega)) ?_)))
     refine bD (cX [12,13,14,50] rfl) (aE aA 1 rfl ?_)
     refine bS ?_
     refine hK9 _ (aB ?_)
     refine aH rfl (bO rfl rfl (by omega) (by omega)) ?_
     refine aE aA 1 rfl (aD ?_)
     refine⟨(k+1,dF out ms[k]),⟨by omega,by rw[jL ms dF [] k (by omega),← h2],by have:=pF out ms[k]; omega⟩,by simp only; omega,?_⟩
     (rw[yP (by omega) (by omega)]; exact cJ ⟨by rw[List.length_append]; rfl,rfl,rfl,rfl,trivial⟩ (by rw[List.map_append]; rfl))
   ·
    simp only[bs] at hg2
    refine aV aA 10 rfl (cT [3,5,6,12,13,14,32] rfl rfl rfl (hK12 _ (bW rfl (aB (aE aA 2 rfl (aI hf rfl (aS iG rfl rfl rfl rfl (l2 rfl)) (bH hf rfl iG rfl rfl rfl (by first | exact Or.inl rfl | exact Or.inr rfl) (by first | rfl | simp) rfl (by first | rfl | simp [eK,bL]) (by first | (simp only[maxLen,List.length_map,List.length_append,List.length_cons,List.length_nil]; omega) | (simp [maxLen] <;> omega)) (by first | (simp only[List.length_map,List.length_append,List.length_cons,List.length_nil]; omega) | (simp <;> omega)) ?_)))))))
    refine bD (cX [12,13,14,50] rfl) (aE aA 1 rfl ?_)
    refine bS ?_
    refine hK9 _ (aB ?_)
    refine aH rfl (bO rfl rfl (by omega) (by omega)) ?_
    refine aE aA 1 rfl (aD ?_)
    refine⟨(k+1,dF out ms[k]),⟨by omega,by rw[jL ms dF [] k (by omega),← h2],by have:=pF out ms[k]; omega⟩,by simp only; omega,?_⟩
    (obtain rfl:out=[]:=List.eq_nil_of_length_eq_zero (by omega); exact cJ ⟨rfl,rfl,rfl,rfl,trivial⟩ rfl)
  ·
   simp only[bs] at hc1
   refine bF (hK5 _ (aC (fun K13 hK13=>(aB (aE aA 2 rfl (aD (hK13 _ (aJ ?_))))))))
   refine⟨_,rfl,?_⟩
   refine(cI (g:=3) rfl (by rw[List.length_map])).trans ?_
   rw[h2,vT ms dF [] k (by omega),aU4 hp hs]
end Go.Proofs.YtpkanhklapfajaaGreat
set_option linter.unusedVariables false
set_option linter.unusedSimpArgs false
namespace Go.Proofs.YtpkanhklapfajaaGreat
open Go Go.Abs
theorem wA {g:Nat} {cap:List AV} (hent:∀ args w,(callFunc g args).run Tryz.prog w=.ok (.enter g args) w) (hcl:cleanL (fun _=>false) cap=true) (p:bI→Bool) (l:List bI) (hl:l.length≤9223372036854775807) (hp:∀ x∈l,Den Tryz.prog g (.agg (stC x)::cap) (·=.s (.bool (p x)))) :Den Tryz.prog 136 [.sl 4 (l.map stC),.fn g cap]  (·=.s (.int .i64 (qH p l))):=by
 refine aR Tryz.func136 rfl (Nat.le_of_ble_eq_true rfl) (fun w0 A hf=>(aC (fun K1 hK1=>(aB (aE aA 1 rfl (aD (hK1 _ (aC (fun K2 hK2=>(aC (fun K3 hK3=>(aB (aE aA 3 rfl (aD (hK3 _ (aP ?_))))))))))))))))
 refine bT (ι:=Nat) (fun k=>⟨19,[(0,.sl 4 (l.map stC)),(1,.fn g cap),(7,.s (.int .i64 ((l.map stC).length:Nat))),(8,.s (.int .i64 (k:Nat)))],[]⟩) (fun k=>k≤l.length∧∀ (j:Nat) (hj:j<l.length),j<k→p l[j]=false) (fun k=>l.length - k) 0 ?_ ?_ ?_
 · exact⟨by omega,by omega⟩
 · exact cQ rfl
 ·
  rintro k hC
  obtain ⟨h1,h2⟩:=hC
  refine aC (fun K4 hK4=>(aB (aE aA 1 rfl (aD (hK4 _ (aC (fun K5 hK5=>(aL rfl (fun hc1=>?_) (fun hc1=>?_)))))))))
  ·
   simp only[bs] at hc1
   refine aN (hK5 _ (aC (fun K6 hK6=>(aP (aC (fun K7 hK7=>(aB (aE aA 2 rfl (aD (hK7 _ (aC (fun K8 hK8=>(aB (aE aA 3 rfl ?_))))))))))))))
   refine aH rfl (bG rfl rfl cC bC (by first | exact ixm (by omega) | assumption | exact⟨by decide,rfl⟩)) ?_
   refine aE aA 1 rfl (aI hf rfl (aK rfl rfl hent (by rw[gV,hcl]; rfl) (hp _ (List.getElem_mem _))) ?_)
   refine aD (hK8 _ (aL rfl (fun hc2=>?_) (fun hc2=>?_)))
   ·
    refine aC (fun K9 hK9=>(aB (aE aA 2 rfl (aD (hK9 _ (aJ ?_))))))
    refine⟨_,rfl,?_⟩
    refine dM ?_
    rw[oT (by omega) h2 (by assumption)]
   ·
    refine aN (hK6 _ (aB ?_))
    refine aH rfl (bO rfl rfl (by omega) (by omega)) ?_
    refine aE aA 1 rfl (aD ?_)
    exact⟨k+1,⟨by omega,fun j hj hjk=>by
      by_cases e:j=k
      · subst e; simp_all
      · exact h2 j hj (by omega)⟩,by omega,cQ rfl⟩
  ·
   simp only[bs] at hc1
   refine bF (hK2 _ (aC (fun K10 hK10=>(aB (aE aA 1 rfl (aD (hK10 _ (aJ ?_))))))))
   refine⟨_,rfl,?_⟩
   refine dM ?_
   rw[qU (fun j hj=>h2 j hj (by omega))]
theorem aEa {g:Nat} {cap:List AV} (hent:∀ args w,(callFunc g args).run Tryz.prog w=.ok (.enter g args) w) (hcl:cleanL (fun _=>false) cap=true) (hcv:∀ m,convL m cap=cap) (p:bI→Bool) (l:List bI) (n:Nat) (hn:n=l.length) (hl:l.length≤9223372036854775807) (hp:∀ x∈l,Den Tryz.prog g (.agg (stC x)::cap) (·=.s (.bool (p x)))) :DenM Tryz.prog 128 [.own E0 4 0 n,.fn g cap] 4 ((l.map stC)) (fun r ys=>r=.own E0 4 0 (l.filter fun x=>!p x).length∧ys=((l.filter fun x=>!p x).map stC)):=by
 subst hn
 have hq0:∀ j,((l.take j).filter fun x=>!p x).length≤j:=fun j=>iX _ l j
 have hq1:∀ j,((l.take j).filter fun x=>!p x).length≤l.length:=fun j=>iJ _ l j
 refine iK Tryz.func128 rfl (Nat.le_of_ble_eq_true rfl) (fun w0 x0 A hf=>?_)
 refine aC (fun K1 hK1=>(aB (aH rfl (bK) (aD (hK1 _ (aC (fun K2 hK2=>(aB (aE aA 2 rfl (aI hf rfl (sG rfl rfl (by show [AV.conv _ _,AV.fn g (convL _ cap)]=_; rw[hcv,cI (g:=E0) rfl (by simp)]) aDz (wA hent hcl p l hl hp) rfl) ?_))))))))))
 refine aE aA 1 rfl (aD (hK2 _ (aC (fun K3 hK3=>(aC (fun K4 hK4=>(aB (aE aA 2 rfl (aD (hK4 _ (aL rfl (fun hc1=>?_) (fun hc1=>?_))))))))))))
 ·
  simp only[bs] at hc1
  refine aC (fun K5 hK5=>(aB (aE aA 2 rfl (aD (hK5 _ (aJ ?_))))))
  have hno:qH p l=-1:=by simpa using hc1
  rcases eP p l with ⟨_,hn⟩ | ⟨k,hk,e,_⟩
  · exact⟨_,.own E0 4 0 l.length,(l.map stC),Le.refl _,rfl,rfl,by rw[gU p l hn],by rw[gU p l hn]⟩
  · exfalso; omega
 ·
  simp only[bs] at hc1
  refine aN (hK3 _ (aC (fun K6 hK6=>(aC (fun K7 hK7=>(aB ?_))))))
  rcases eP p l with ⟨e0,_⟩ | ⟨k0,hk0,ek0,hpk0,hbef⟩
  · exact absurd e0 (by simpa using hc1)
  have hst:=lX (fun x=>!p x) l k0 hk0 (fun j hj hjk=>by simp [hbef j hj hjk]) (by simp [hpk0])
  rw[ek0]
  refine aE aA 1 rfl ?_
  refine aH rfl (bO rfl rfl (by omega) (by omega)) ?_
  refine aE aA 1 rfl (aD (hK7 _ (aP (bT (ι:=Nat) (fun j=>⟨42,[(0,.own E0 4 0 l.length),(1,.fn g cap),(5,.s (.int .i64 (((l.take j).filter fun x=>!p x).length:Nat))),(6,.s (.int .i64 (j:Nat)))],[(E0,.buf 4 ((jX (fun x=>!p x) l j).map stC))]⟩) (fun j=>j≤l.length) (fun j=>l.length - j) (k0+1) ?_ ?_ ?_))))
  · exact hk0
  · rw[hst.1,hst.2]; exact kI ⟨rfl,rfl,rfl,rfl,trivial⟩
  ·
   rintro j hC
   let q:=fun x=>!p x
   have hle:((l.take j).filter q).length≤j:=hq0 j
   have hle2:((l.take j).filter fun x=>!p x).length≤j:=hq0 j
   refine aC (fun K8 hK8=>(aC (fun K9 hK9=>(aB (aE aA 4 rfl (aD (hK9 _ (aL rfl (fun hc2=>?_) (fun hc2=>?_)))))))))
   ·
    simp only[bs] at hc2
    refine aN (hK8 _ (aC (fun K10 hK10=>(aP (aC (fun K11 hK11=>(aB (aE aA 2 rfl ?_))))))))
    refine aH rfl (cB rfl rfl cC bC (by omega)) ?_
    refine aH rfl (cD rfl eV bC rfl (qK (c:=4) (k:=j) (enc:=stC) (by omega) (by rw[eQ]; omega) rfl) (cs':=stC l[j]) (by rw[nV (c:=4) (k:=j) (enc:=stC) (by omega) (by rw[eQ]; omega) rfl,qV q l j j (by omega) hle])) ?_
    refine bY hf rfl eE rfl bC rfl rfl rfl rfl (lf rfl) (aD (hK11 _ (aC (fun K12 hK12=>(aB (aE aA 2 rfl (aI hf rfl (aK rfl rfl hent (by rw[gV,hcl]; rfl) (hp _ (List.getElem_mem _))) ?_)))))))
    refine aE aA 1 rfl (aD (hK12 _ (aL rfl (fun hc3=>?_) (fun hc3=>?_))))
    ·
     simp only[bs] at hc3
     refine aC (fun K13 hK13=>(aB (aE aA 3 rfl ?_)))
     refine aH rfl (cB rfl rfl cC bC (by omega)) ?_
     refine bB hf rfl rfl bC rfl rfl (by simp [stC,AV.cells,AV.one,Value.oneCell',splice]) (by simp [stC,AV.cells,AV.leaf,Value.oneCell',splice]) (iS (c:=4) (k:=((l.take j).filter fun x=>!p x).length) (enc:=stC) (v:=l[j]) (by omega) (by rw[eQ]; omega) rfl (Nat.le_refl _)) ?_
     refine aD (hK13 _ (aB ?_))
     rw[kY (fun x=>!p x) l j (by omega) (by simp_all)]
     refine aE aA 1 rfl ?_
     refine aH rfl (bO rfl rfl (by omega) (by omega)) ?_
     rw[nD (fun x=>!p x) l j (by omega) (by simp_all)]
     refine aE aA 1 rfl ?_
     refine bS ?_
     refine hK10 _ (aB (aE aA 1 rfl ?_))
     refine aH rfl (bO rfl rfl (by omega) (by omega)) ?_
     refine aE aA 1 rfl (aD ?_)
     exact⟨j+1,(by omega),by omega,cQ rfl⟩
    ·
     simp only[bs] at hc3
     rw[kZ (fun x=>!p x) l j (by omega) (by simp_all),nE (fun x=>!p x) l j (by omega) (by simp_all)]
     refine aN (hK10 _ (aB (aE aA 1 rfl ?_)))
     refine aH rfl (bO rfl rfl (by omega) (by omega)) ?_
     refine aE aA 1 rfl (aD ?_)
     exact⟨j+1,(by omega),by omega,cQ rfl⟩
   ·
    simp only[bs] at hc2
    refine bF (hK6 _ (aC (fun K14 hK14=>(aB (aE aA 2 rfl ?_)))))
    refine aH rfl (eW rfl cC bC rfl rfl (by omega) (by omega)) ?_
    refine xL hf gS eE (by simp [Value.oneCell']) rfl rfl ?_
    refine aD (hK14 _ (aC (fun K15 hK15=>(aB (aE aA 2 rfl ?_)))))
    refine aH rfl (eW rfl cC bC rfl rfl (by omega) (by omega)) ?_
    refine aE aA 1 rfl (aD (hK15 _ (aJ ?_)))
    have hjl:l.length≤j:=by omega
    have he:=oX (fun x=>!p x) l j hjl
    refine⟨_,_,_,Le.refl _,rfl,rfl,?_,?_⟩
    · rw[List.take_of_length_le hjl]; rfl
    · rw[List.take_of_length_le hjl,Nat.zero_add,Int.toNat_natCast,← List.map_take,he]
theorem uG (l:List bI) (hl:l.length*32≤140737488355328) :DenO Tryz.prog 71 [.sl 4 (l.map stC)] 4 (·=(l.map stC)):=by
 refine gK Tryz.func71 rfl (Nat.le_of_ble_eq_true rfl) (fun w0 A hf=>?_)
 refine aC (fun K1 hK1=>(aB (aH rfl (bK) (aD (hK1 _ (aC (fun K2 hK2=>(aC (fun K3 hK3=>(aB (aE aA 1 rfl ?_)))))))))))
 refine oN rfl rfl rfl cC (fun b hb1=>?_)
 refine aD (hK3 _ (aL rfl (fun hc2=>?_) (fun hc2=>?_)))
 ·
  have hl0:l=[]:=by simpa using hb1 (by assumption)
  refine aC (fun K4 hK4=>(aB (mC hf 4 rfl rfl rfl (aD (hK4 _ (aJ ?_))))))
  exact⟨2,[],by decide,rfl,rfl,by rw[hl0]; rfl⟩
 ·
  refine aN (hK2 _ (aC (fun K5 hK5=>(aB (dR hf rfl rfl rfl gS rfl rfl rfl rfl (l2 rfl) ?_)))))
  refine aE aA 1 rfl (bH hf rfl gS rfl rfl rfl (.inl rfl) rfl rfl (by first | rfl | simp [eK,bL]) (by first | (simp only[maxLen,List.length_map,List.length_append,List.length_cons,List.length_nil]; omega) | (simp [maxLen] <;> omega)) (by first | (simp only[List.length_map,List.length_append,List.length_cons,List.length_nil]; omega) | (simp <;> omega)) ?_)
  refine bD (cX [7] rfl) (aE aA 1 rfl (aD (hK5 _ (aJ ?_))))
  refine⟨5,(l.map stC),by decide,rfl,?_,rfl⟩
  show some (AV.own 5 4 0 (0+(l.map stC).length))=_
  rw[Nat.zero_add]
theorem aUp (n:Nat) (hn:n*32≤140737488355328) :DenO Tryz.prog 134 [.s (.slice none 0 0),.s (.int .i64 (n:Nat))] 4 (·=[]):=by
 refine gK Tryz.func134 rfl (Nat.le_of_ble_eq_true rfl) (fun w0 A hf=>?_)
 refine aC (fun K1 hK1=>(aB (aH rfl (bK) (aD (hK1 _ (aC (fun K2 hK2=>(aC (fun K3 hK3=>(aB (aE aA 2 rfl (aD (hK3 _ (aL rfl (fun hc1=>?_) (fun hc1=>?_)))))))))))))))
 ·
  simp only[bs] at hc1
  omega
 ·
  simp only[bs] at hc1
  refine aN (hK2 _ (aC (fun K4 hK4=>(aC (fun K5 hK5=>(aB (aE aA 2 rfl (aH rfl (nA rfl cC) (aE aA 2 rfl ?_)))))))))
  refine aH rfl (eZ rfl rfl (by omega) (by omega)) ?_
  refine aH rfl (eZ rfl rfl (by omega) (by omega)) ?_
  refine aE aA 1 rfl (aD (hK5 _ (aC (fun K6 hK6=>(aB (aE aA 2 rfl (aD (hK6 _ (aL rfl (fun hc2=>?_) (fun hc2=>?_))))))))))
  ·
   simp only[bs] at hc2
   refine aB (aE aA 2 rfl (aH rfl (nA rfl cC) ?_))
   refine aH rfl (sJ rfl cC bC rfl) ?_
   refine aE aA 1 rfl (xM hf rfl rfl rfl gS Tryz.underlying3 rfl rfl (by omega) (by omega) (by simp only[maxLen]; omega) ?_)
   refine aE aA 2 rfl ?_
   refine aH rfl (eW rfl cC bC rfl rfl (by omega) (by omega)) ?_
   refine aE aA 1 rfl (aD (hK4 _ (aC (fun K7 hK7=>(aB (aE aA 1 rfl ?_))))))
   refine aH rfl (wG rfl) ?_
   refine aD (hK7 _ (aJ ?_))
   exact⟨22,[],by decide,rfl,rfl,rfl⟩
  ·
   simp only[bs] at hc2
   refine aN (hK4 _ (aC (fun K8 hK8=>(aB (aE aA 1 rfl ?_)))))
   refine aJ7 hf 4 rfl rfl rfl rfl ?_
   refine aD (hK8 _ (aJ ?_))
   exact⟨4,[],by decide,rfl,rfl,rfl⟩
theorem aCp (rows:List (List bI)) (hl:rows.length≤9223372036854775807) (hb:rows.flatten.length*32≤140737488355328) :DenO Tryz.prog 72 [.sl 1 (rows.map fun r=>[AV.sl 4 (r.map stC)])] 4 (·=(rows.flatten.map stC)):=by
 refine gK Tryz.func72 rfl (Nat.le_of_ble_eq_true rfl) (fun w0 A hf=>?_)
 refine aC (fun K1 hK1=>(aB (aH rfl (bK) (aD (hK1 _ (aC (fun K2 hK2=>(aB (aE aA 1 rfl (aD (hK2 _ (aC (fun K3 hK3=>(aC (fun K4 hK4=>(aB ?_))))))))))))))))
 refine aE aA 3 rfl (aD (hK4 _ (aP (bT (ι:=Nat) (fun k=>⟨36,[(0,.sl 1 (rows.map fun r=>[AV.sl 4 (r.map stC)])),(3,.s (.int .i64 ((rows.take k).flatten.length:Nat))),(9,.sl 1 (rows.map fun r=>[AV.sl 4 (r.map stC)])),(10,.s (.int .i64 ((rows.map fun r=>[AV.sl 4 (r.map stC)]).length:Nat))),(11,.s (.int .i64 (k:Nat)))],[]⟩) (fun k=>k≤rows.length) (fun k=>rows.length - k) 0 ?_ ?_ ?_))))
 · exact Nat.zero_le _
 · exact cQ rfl
 ·
  rintro k hC
  refine aC (fun K5 hK5=>(aB (aE aA 1 rfl (aD (hK5 _ (aC (fun K6 hK6=>(aL rfl (fun hc1=>?_) (fun hc1=>?_)))))))))
  ·
   simp only[bs] at hc1
   refine aN (hK6 _ (aC (fun K7 hK7=>(aP (aC (fun K8 hK8=>(aB ?_)))))))
   refine aH rfl (bG rfl rfl aJ5 tX (by first | exact ixm (by omega) | assumption | exact⟨by decide,rfl⟩)) ?_
   refine aE aA 2 rfl (aD (hK8 _ (aC (fun K9 hK9=>(aB ?_)))))
   have hk:k<rows.length:=by omega
   have e1:=congrArg List.length (jA rows k hk)
   rw[List.length_append] at e1
   have e2:=sM rows (k+1)
   have e3:(rows[k].map stC).length=rows[k].length:=List.length_map _
   refine aE aA 3 rfl ?_
   refine aH rfl (bO rfl rfl (by omega) (by omega)) ?_
   rw[show ((((rows.take k).flatten.length:Nat):Int)+(((rows[k].map stC).length:Nat):Int))=(((rows.take (k+1)).flatten.length:Nat):Int) from by omega]
   refine aE aA 1 rfl (aD (hK9 _ (aC (fun K10 hK10=>(aB (aE aA 2 rfl (aD (hK10 _ (aL rfl (fun hc2=>?_) (fun hc2=>?_))))))))))
   ·
    simp only[bs] at hc2
    omega
   ·
    simp only[bs] at hc2
    refine aN (hK7 _ (aB ?_))
    refine aH rfl (bO rfl rfl (by omega) (by omega)) ?_
    refine aE aA 1 rfl (aD ?_)
    exact⟨k+1,(by omega),by omega,cQ rfl⟩
  ·
   simp only[bs] at hc1
   refine bF (hK3 _ (aC (fun K11 hK11=>(aB ?_))))
   rw[List.take_of_length_le (show rows.length≤k by omega)]
   refine aE aA 1 rfl (iN hf rfl rfl rfl rfl rfl aP6 rfl (aUp rows.flatten.length (by omega)) ?_)
   rintro _ rfl
   refine aE aA 1 rfl (aD (hK11 _ (aC (fun K12 hK12=>(aC (fun K13 hK13=>(aB (aE aA 3 rfl (aD (hK13 _ (aP (bT (ι:=Nat) (fun j=>⟨36,[(6,.own 24 4 0 (rows.take j).flatten.length),(25,.sl 1 (rows.map fun r=>[AV.sl 4 (r.map stC)])),(26,.s (.int .i64 ((rows.map fun r=>[AV.sl 4 (r.map stC)]).length:Nat))),(27,.s (.int .i64 (j:Nat)))],[(24,.buf 4 ((rows.take j).flatten.map stC))]⟩) (fun j=>j≤rows.length) (fun j=>rows.length - j) 0 ?_ ?_ ?_))))))))))))
   · exact Nat.zero_le _
   · exact cQ rfl
   ·
    rintro j hC
    refine aC (fun K14 hK14=>(aB (aE aA 1 rfl (aD (hK14 _ (aC (fun K15 hK15=>(aL rfl (fun hc3=>?_) (fun hc3=>?_)))))))))
    ·
     simp only[bs] at hc3
     refine aN (hK15 _ (aC (fun K16 hK16=>(aP (aC (fun K17 hK17=>(aB ?_)))))))
     refine aH rfl (bG rfl rfl aJ5 tX (by first | exact ixm (by omega) | assumption | exact⟨by decide,rfl⟩)) ?_
     refine aE aA 2 rfl (aD (hK17 _ (aB ?_)))
     have hj:j<rows.length:=by omega
     have e1:=congrArg List.length (jA rows j hj)
     rw[List.length_append] at e1
     have e2:=sM rows (j+1)
     have e3:(rows[j].map stC).length=rows[j].length:=List.length_map _
     refine aE aA 2 rfl (bH hf rfl gS rfl rfl rfl (.inl rfl) (by simp only[List.length_map]) rfl (by first | rfl | simp [eK,bL]) (by first | (simp only[maxLen,List.length_map,List.length_append,List.length_cons,List.length_nil]; omega) | (simp [maxLen] <;> omega)) (by first | (simp only[List.length_map,List.length_append,List.length_cons,List.length_nil]; omega) | (simp <;> omega)) ?_)
     refine bD (cX [25,26,27,33] rfl) ?_
     rw[show (rows.take j).flatten.length+(rows[j].map stC).length=(rows.take (j+1)).flatten.length from by omega,← List.map_append,← jA rows j hj]
     refine aE aA 1 rfl ?_
     refine bS ?_
     refine hK16 _ (aB ?_)
     refine aH rfl (bO rfl rfl (by omega) (by omega)) ?_
     refine aE aA 1 rfl (aD ?_)
     exact⟨j+1,(by omega),by omega,cQ rfl⟩
    ·
     simp only[bs] at hc3
     refine bF (hK12 _ (aC (fun K18 hK18=>(aB (aE aA 2 rfl (aD (hK18 _ (aJ ?_))))))))
     refine⟨24,(rows.flatten.map stC),by decide,?_,?_,rfl⟩
     · rw[List.take_of_length_le (show rows.length≤j by omega)]; rfl
     · rw[List.take_of_length_le (show rows.length≤j by omega)]
       show some (AV.own 24 4 0 rows.flatten.length)=_
       rw[List.length_map]
theorem aQ2 (a b:List bI) (ha:a.length≤9223372036854775807) (hb:b.length≤9223372036854775807) :Den Tryz.prog 62 [.sl 4 (a.map stC),.sl 4 (b.map stC)]  (·=.s (.bool (decide (a=b)))):=by
 refine aR Tryz.func62 rfl (Nat.le_of_ble_eq_true rfl) (fun w0 A hf=>(aC (fun K1 hK1=>(aB (aE aA 1 rfl (aD (hK1 _ (aC (fun K2 hK2=>(aC (fun K3 hK3=>(aB (aE aA 5 rfl (aD (hK3 _ (aL rfl (fun hc1=>?_) (fun hc1=>?_)))))))))))))))))
 ·
  simp only[bs] at hc1
  refine aC (fun K4 hK4=>(aB (aE aA 1 rfl (aD (hK4 _ (aJ ?_))))))
  refine⟨_,rfl,?_⟩
  refine aO ?_
  rw[aVi (by omega)]
 ·
  simp only[bs] at hc1
  refine aN (hK2 _ (aC (fun K5 hK5=>(aC (fun K6 hK6=>(aB (aE aA 3 rfl (aD (hK6 _ (aP (bT (ι:=Nat) (fun k=>⟨26,[(0,.sl 4 (a.map stC)),(1,.sl 4 (b.map stC)),(12,.s (.int .i64 ((a.map stC).length:Nat))),(13,.s (.int .i64 (k:Nat)))],[]⟩) (fun k=>k≤a.length∧a.take k=b.take k) (fun k=>a.length - k) 0 ?_ ?_ ?_)))))))))))
  · exact⟨Nat.zero_le _,rfl⟩
  · exact cQ rfl
  ·
   rintro k hC
   obtain ⟨h1,h2⟩:=hC
   refine aC (fun K7 hK7=>(aB (aE aA 1 rfl (aD (hK7 _ (aC (fun K8 hK8=>(aL rfl (fun hc2=>?_) (fun hc2=>?_)))))))))
   ·
    simp only[bs] at hc2
    refine aN (hK8 _ (aC (fun K9 hK9=>(aP (aC (fun K10 hK10=>(aB (aE aA 2 rfl (aD (hK10 _ (aC (fun K11 hK11=>(cP hf bE (by kernel_rfl) rfl (aV aA 2 rfl ?_))))))))))))))
    refine bQ [(16,_),(17,_)] rfl rfl ⟨⟨rfl,rfl⟩,⟨rfl,rfl⟩,trivial⟩ rfl (bG rfl rfl cC bC (by first | exact ixm (by omega) | assumption | exact⟨by decide,rfl⟩)) ?_
    refine aV aA 3 rfl ?_
    refine bQ [(20,_),(21,_)] rfl rfl ⟨⟨rfl,rfl⟩,⟨rfl,rfl⟩,trivial⟩ rfl (bG rfl rfl cC bC (by first | exact ixm (by omega) | assumption | exact⟨by decide,rfl⟩)) ?_
    refine aV aA 1 rfl (bQ [(19,_),(23,_)] rfl rfl ⟨⟨rfl,rfl⟩,⟨rfl,rfl⟩,trivial⟩ rfl (p_neagg rfl rfl aYl rfl) ?_)
    rw[stC_eq]
    refine cT [0,1,12,13,24] rfl rfl rfl (hK11 _ (aL rfl (fun hc3=>?_) (fun hc3=>?_)))
    ·
     simp only[bs] at hc3
     refine aC (fun K12 hK12=>(aB (aE aA 1 rfl (aD (hK12 _ (aJ ?_))))))
     refine⟨_,rfl,?_⟩
     refine aO ?_
     rw[aRu (by omega) (by omega) (by assumption)]
    ·
     simp only[bs] at hc3
     refine aN (hK9 _ (aB ?_))
     refine aH rfl (bO rfl rfl (by omega) (by omega)) ?_
     refine aE aA 1 rfl (aD ?_)
     exact⟨k+1,⟨by omega,aRt (by omega) (by omega) h2 (by assumption)⟩,by omega,cQ rfl⟩
   ·
    simp only[bs] at hc2
    refine bF (hK5 _ (aC (fun K13 hK13=>(aB (aE aA 1 rfl (aD (hK13 _ (aJ ?_))))))))
    refine⟨_,rfl,?_⟩
    refine aO ?_
    rw[aVj (by omega) (by omega) h2]
theorem aW9 (a b c d:Int) :Den Tryz.prog 73 [.s (.int .i64 a),.s (.int .i64 b),.s (.int .i64 c),.s (.int .i64 d)]  (·=.agg (stC ((a,b),(c,d)))):=by
 refine aR Tryz.func73 rfl (Nat.le_of_ble_eq_true rfl) (fun w0 A hf=>(aC (fun K1 hK1=>(aB (aW hf rfl rfl rfl eE (aD (hK1 _ (aC (fun K2 hK2=>(aB (aE aA 2 rfl (aH rfl (bR rfl fI jB (l3 rfl) rfl) (aE aA 2 rfl (aH rfl (bR rfl eE qZ (l3 rfl) rfl) (bB hf rfl rfl bC rfl rfl (l1 rfl) (l4 rfl) rfl ?_)))))))))))))))
 refine aD (hK2 _ (aJ ?_))
 refine⟨_,rfl,?_⟩
 rfl
theorem aNk (s:bI) :Den Tryz.prog 34 [.agg (stC s)]  (·=.agg (stC s)):=by
 refine aR Tryz.func34 rfl (Nat.le_of_ble_eq_true rfl) (fun w0 A hf=>(aC (fun K1 hK1=>(aB (aI hf rfl (cE rfl rfl (lf rfl)) (aW hf rfl rfl rfl eE (aD (hK1 _ (aC (fun K2 hK2=>(aB (aE aA 8 rfl (aI hf rfl (aK rfl rfl aSu rfl (aW9 _ _ _ _)) (bB hf rfl rfl bC rfl rfl (l1 rfl) (l4 rfl) rfl (aD ?_)))))))))))))))
 refine hK2 _ (aJ ?_)
 refine⟨_,rfl,?_⟩
 rfl
theorem wW (a b:bI) :Den Tryz.prog 67 [.agg (stC a),.agg (stC b)]  (·=.s (.int .i64 (jG a b))):=by
 refine aR Tryz.func67 rfl (Nat.le_of_ble_eq_true rfl) (fun w0 A hf=>(aC (fun K1 hK1=>(aB (aI hf rfl (cE rfl rfl (lf rfl)) (aI hf rfl (cE rfl rfl (lf rfl)) (aE aA 1 rfl (aD (hK1 _ (aC (fun K2 hK2=>(cP hf bE (by kernel_rfl) rfl (aV aA 6 rfl (bJ [(7,_),(10,_)] rfl rfl ⟨⟨rfl,rfl⟩,⟨rfl,rfl⟩,trivial⟩ rfl (aK rfl rfl nM rfl (kJ _ _)) (aV aA 6 rfl ?_)))))))))))))))
 refine bJ [(14,_),(17,_)] rfl rfl ⟨⟨rfl,rfl⟩,⟨rfl,rfl⟩,trivial⟩ rfl (aK rfl rfl nM rfl (kJ _ _)) (aV aA 4 rfl (bJ [(20,_),(22,_)] rfl rfl ⟨⟨rfl,rfl⟩,⟨rfl,rfl⟩,trivial⟩ rfl (aK rfl rfl nM rfl (kJ _ _)) (aV aA 4 rfl (bJ [(25,_),(27,_)] rfl rfl ⟨⟨rfl,rfl⟩,⟨rfl,rfl⟩,trivial⟩ rfl (aK rfl rfl nM rfl (kJ _ _)) (bJ [(11,_),(18,_),(23,_),(28,_)] rfl rfl ⟨⟨rfl,rfl⟩,⟨rfl,rfl⟩,⟨rfl,rfl⟩,⟨rfl,rfl⟩,trivial⟩ rfl (aS gB rfl rfl rfl rfl (l2 rfl)) (bJ [(29,_)] rfl rfl ⟨⟨rfl,rfl⟩,trivial⟩ rfl (aK rfl rfl xJ rfl (Nm.or_den [_,_,_,_] (by simp))) ?_))))))
 refine aV aA 1 rfl (cT [4] rfl rfl rfl (hK2 _ (aJ ?_)))
 refine⟨_,rfl,?_⟩
 rfl
theorem aR3 (a b:bI) :Den Tryz.prog 106 [.agg (stC a),.agg (stC b)]  (·=.s (.bool (decide (jG a b<0)))):=by
 refine aR Tryz.func106 rfl (Nat.le_of_ble_eq_true rfl) (fun w0 A hf=>(aC (fun K1 hK1=>(aB (aI hf rfl (cE rfl rfl (lf rfl)) (aI hf rfl (cE rfl rfl (lf rfl)) (aE aA 1 rfl (aD (hK1 _ (aC (fun K2 hK2=>(aC (fun K3 hK3=>(aB (aE aA 5 rfl (aD ?_))))))))))))))))
 refine hK3 _ (aL rfl (fun hc1=>?_) (fun hc1=>?_))
 ·
  simp only[bs] at hc1
  refine aC (fun K4 hK4=>(aB (aE aA 6 rfl (aD (hK4 _ (aJ ?_))))))
  refine⟨_,rfl,?_⟩
  exact aO (ah1 (by assumption))
 ·
  simp only[bs] at hc1
  refine aN (hK2 _ (aC (fun K5 hK5=>(aC (fun K6 hK6=>(aB (aE aA 5 rfl (aD (hK6 _ (aL rfl (fun hc2=>?_) (fun hc2=>?_)))))))))))
  ·
   simp only[bs] at hc2
   refine aC (fun K7 hK7=>(aB (aE aA 6 rfl (aD (hK7 _ (aJ ?_))))))
   refine⟨_,rfl,?_⟩
   exact aO (ah2 (by assumption) (by assumption))
  ·
   simp only[bs] at hc2
   refine aN (hK5 _ (aC (fun K8 hK8=>(aC (fun K9 hK9=>(aB (aE aA 5 rfl (aD (hK9 _ (aL rfl (fun hc3=>?_) (fun hc3=>?_)))))))))))
   ·
    simp only[bs] at hc3
    refine aC (fun K10 hK10=>(aB (aE aA 6 rfl (aD (hK10 _ (aJ ?_))))))
    refine⟨_,rfl,?_⟩
    exact aO (ah3 (by assumption) (by assumption) (by assumption))
   ·
    simp only[bs] at hc3
    refine aN (hK8 _ (aC (fun K11 hK11=>(aB (aE aA 6 rfl (aD (hK11 _ (aJ ?_))))))))
    refine⟨_,rfl,?_⟩
    exact aO (ah4 (by assumption) (by assumption) (by assumption))
theorem aOu (s:bI) (t:Int) :Den Tryz.prog 129 [.agg (stC s),.adr [.s (.int .i64 t)]]  (·=.s (.bool (decide (s.1.2≤t)))):=by
 refine aR Tryz.func129 rfl (Nat.le_of_ble_eq_true rfl) (fun w0 A hf=>(aC (fun K1 hK1=>(aB (aI hf rfl (cE rfl rfl (lf rfl)) (aE aA 1 rfl (aD (hK1 _ (aC (fun K2 hK2=>(aB (aE aA 6 rfl (aD (hK2 _ (aJ ?_)))))))))))))))
 refine⟨_,rfl,?_⟩
 rfl
end Go.Proofs.YtpkanhklapfajaaGreat
namespace Go.Abs
open Go
theorem aQu {c:AV} (h:Ty (.int .i64) [c]):∃ n:Int,c=.s (.int .i64 n)∧-9223372036854775808≤n∧n≤9223372036854775807:=by
  simp only[Ty] at h
  obtain ⟨n,hx,hw⟩:=h
  simp only[List.cons.injEq,and_true] at hx
  exact⟨n,hx,aWj hw⟩
theorem aWk {c:AV} (h:Ty .str [c]):∃ s:ByteArray,c=.s (.string s)∧s.size≤140737488351232:=by
  simp only[Ty] at h
  obtain ⟨s,hx,hw⟩:=h
  simp only[List.cons.injEq,and_true] at hx
  exact⟨s,hx,hw⟩
end Go.Abs
set_option linter.unusedVariables false
set_option linter.unusedSimpArgs false
namespace Go.Abs
theorem aW5 (x y:Pr):(x.1.toList == y.1.toList&&(x.2.toList == y.2.toList&&true))=decide (x=y):=by
  rw[Bool.eq_iff_iff]
  simp only[Bool.and_eq_true,beq_iff_eq,toList_inj,and_true,decide_eq_true_eq,Prod.ext_iff]
def RevI (l:List En) (n:Nat) (t:Int) (k:Nat) (out:List En):Prop :=
  k≤l.length∧∃ hn:n<l.length,(k≤n∧out=l.take k)∨(n<k∧out=l.take n++(wD l[n] t++(l.take k).drop (n+1)))
theorem RevI.start {l:List En} {n:Nat} (t:Int) (hn:n<l.length):RevI l n t 0 []:=⟨Nat.zero_le _,hn,.inl ⟨Nat.zero_le _,rfl⟩⟩
theorem RevI.len {l:List En} {n:Nat} {t:Int} {k:Nat} {out:List En} (h:RevI l n t k out):out.length≤k:=by
  obtain ⟨hk,hn,⟨h1,rfl⟩ | ⟨h1,rfl⟩⟩:=h
  · simp; omega
  · simp only[List.length_append,List.length_take,List.length_drop,wD]
    split <;> simp <;> omega
theorem RevI.keep {l:List En} {n:Nat} {t:Int} {k:Nat} {out:List En} (h:RevI l n t k out) (hk:k<l.length) (he:k=n) (ht:l[k].2.1<t):RevI l n t (k+1) (out++[(l[k].1,(l[k].2.1,t))]):=by
  subst he
  obtain ⟨_,hn,⟨h1,rfl⟩ | ⟨h1,rfl⟩⟩:=h
  · refine⟨hk,hn,.inr ⟨by omega,?_⟩⟩
    rw[wD,if_neg (by omega),List.drop_eq_nil_of_le (by simp; omega),List.append_nil]
  · omega
theorem RevI.fin {l:List En} {p:Pr} {n:Nat} {t:Int} {k:Nat} {out:List En} (h:RevI l n t k out) (hk:l.length≤k) (h1:∀ (j:Nat) (hj:j<l.length),j<n→iI p l[j]=false) (h2:∀ hn:n<l.length,iI p l[n]=true):out=mH l p t:=by
  obtain ⟨_,hn,⟨h3,rfl⟩ | ⟨h3,rfl⟩⟩:=h
  · omega
  · rw[aEp p t l n hn h1 (h2 hn),List.take_of_length_le hk]
theorem rev_set {l:List En} {p:Pr} {t:Int} {k:Nat} (hk:k<l.length) (h1:∀ (j:Nat) (hj:j<l.length),j<k→iI p l[j]=false) (h2:iI p l[k]=true) (ht:l[k].2.1<t):l.set k (l[k].1,(l[k].2.1,t))=mH l p t:=by
  rw[aEp p t l k hk h1 h2,wD,if_neg (by omega),List.set_eq_take_append_cons_drop,if_pos hk]; rfl
theorem rev_del {l:List En} {p:Pr} {t:Int} {k:Nat} {v:En} (hk:k<l.length) (h1:∀ (j:Nat) (hj:j<l.length),j<k→iI p l[j]=false) (h2:iI p l[k]=true) (ht:t≤l[k].2.1):(l.set k v).take k++(l.set k v).drop (k+1)=mH l p t:=by
  rw[aEp p t l k hk h1 h2,wD,if_pos ht,List.take_set_of_le (Nat.le_refl _),List.drop_set_of_lt (by omega)]; rfl
theorem onB_f {l:List En} {p:Pr} (h:qH (iI p) l<0):onB l p=false:=by
  rw[onB,← pW]; simp; omega
theorem aXa {l:List En} {p:Pr} {k:Nat} (hk:k<l.length) (h:iI p l[k]=true):onB l p=true:=List.any_eq_true.2 ⟨_,List.getElem_mem hk,h⟩
theorem aYc {x y:Pr}:aeqL [.str,.str] (prC x) (prC y)=some (decide (x=y),[],[]):=by
  rw[← aW5]; rfl
theorem aNh {e:En} (h:e.2.2≤e.2.1∨cF e.1.1=false∨cF e.1.2=false∨(cF e.1.1&&cF e.1.2)=false):okE e=false:=by
  rcases h with h | h | h | h
  · have:decide (e.2.1<e.2.2)=false:=by simp; omega
    rw[okE,this]; rfl
  · rw[okE,h]; simp
  · rw[okE,h]; simp
  · rw[okE,h]; simp
theorem aF6 {e:En} (h:e.2.1<e.2.2) (h1:cF e.1.1=true) (h2:cF e.1.2=true):okE e=true:=by simp [okE,h,h1,h2]
theorem qL {a b:En}:aJe a b=true↔nW a b<0∧(a.1=b.1→a.2.2≤b.2.1):=by
  simp only[aJe,Bool.and_eq_true,decide_eq_true_eq,Bool.not_eq_true',Bool.and_eq_false_iff,decide_eq_false_iff_not]
  refine and_congr_right fun _=>?_
  by_cases e:a.1=b.1
  · simp only[e,not_true_eq_false,false_or,forall_const]; omega
  · simp [e]
theorem aEt {a b:En} (h:¬ nW a b<0∨(a.1=b.1∧b.2.1<a.2.2)):aJe a b=false:=by
  rw[Bool.eq_false_iff]; intro h0
  obtain ⟨h1,h2⟩:=qL.1 h0
  rcases h with h | ⟨h,h3⟩
  · omega
  · have:=h2 h; omega
theorem aKq {a b:Pr} (h1:a.1.toList=b.1.toList) (h2:a.2.toList=b.2.toList):a=b:=Prod.ext (toList_inj.1 h1) (toList_inj.1 h2)
theorem zK {a b:Pr} (h:¬ a.1.toList=b.1.toList):a≠b:=fun e=>h (by rw[e])
theorem zJ {a b:Pr} (h:¬ a.2.toList=b.2.toList):a≠b:=fun e=>h (by rw[e])
end Go.Abs
set_option linter.unusedVariables false
set_option linter.unusedSimpArgs false
namespace Go.Abs
open Go Go.RowKit
variable {P:Program}
theorem kO {f:Nat} {args:List AV} {x y:AV} (h:Den P f args (·=x)) (e:x=y):Den P f args (·=y):=e ▸ h
def RisR (a b:En):Prop:=nW a b<0∧(a.1=b.1→a.2.2≤b.2.1)
theorem RisR.trans {a b c:En} (hb:okE b=true) (h1:RisR a b) (h2:RisR b c):RisR a c:=by
  refine⟨ordE_tri.lt_tr h1.1 h2.1,fun e=>?_⟩
  have hab:tL a.1 b.1≤0:=by
    have:=h1.1; rw[wH] at this; unfold wN at this; split at this <;> simp only[] at*<;> omega
  have hbc:tL b.1 c.1≤0:=by
    have:=h2.1; rw[wH] at this; unfold wN at this; split at this <;> simp only[] at*<;> omega
  have hba:tL b.1 a.1≤0:=by rw[e]; exact hbc
  have h0:tL a.1 b.1=0:=by have:=pairC_tri.swap a.1 b.1; omega
  have e1:=aF3.1 h0
  have g1:=h1.2 e1
  have g2:=h2.2 (e1 ▸ e)
  have g3:b.2.1<b.2.2:=by
    simp only[okE,Bool.and_eq_true,decide_eq_true_eq] at hb; exact hb.1
  omega
theorem wC (l:List En):rY l=true↔(∀ x∈l,okE x=true)∧l.Pairwise RisR:=by
  rw[rY,tH RisR (fun x y=>qL) (fun x y z hy h1 h2=>RisR.trans hy h1 h2)]
  simp
theorem aCr {l:List En} (q:En→Bool) (h:rY l=true):rY (l.filter q)=true:=by
  rw[wC] at *
  exact⟨fun x hx=>h.1 x (List.mem_filter.1 hx).1,h.2.filter q⟩
theorem sI (l:List En) (p:Pr):(dS l p).length≤2*l.length:=by
  have h1:=aAp ((l.filter (ofB p)).map Prod.snd)
  have h2:=List.length_filter_le (ofB p) l
  rw[List.length_map] at h1
  show (dC _).length≤_
  omega
end Go.Abs
set_option linter.unusedVariables false
set_option linter.unusedSimpArgs false
namespace Go.Abs
abbrev Se:=(Int×ByteArray)×(Int×Int)
def seC (e:Se):List AV:=[.s (.int .i64 e.1.1),.s (.string e.1.2),.s (.int .i64 e.2.1),.s (.int .i64 e.2.2)]
abbrev se0:Se:=((0,⟨#[]⟩),(0,0))
abbrev st0:bI:=((0,0),(0,0))
def aGf {α:Type} (q:α→Bool) (e:α):List α→List α
  | []=>[e]
  | x::l=>if q x=true then e::x::l else x::aGf q e l
theorem aK0 {α:Type} (q:α→Bool) (e:α):∀ (l:List α) (k:Nat),k≤l.length→(∀ (j:Nat) (hj:j<l.length),j<k→q l[j]=false)→(∀ (h:k<l.length),q l[k]=true)→aGf q e l=l.take k++e::l.drop k
  | [],k,hk,_,_=>by
                          have:k=0:=by simpa using hk
                          subst this; rfl
  | x::l,0,_,_,h=>by have:=h (by simp); simp only[List.getElem_cons_zero] at this; simp [aGf,this]
  | x::l,k+1,hk,h1,h2=>by
    have hx:=h1 0 (by simp) (by omega)
    simp only[List.getElem_cons_zero] at hx
    rw[aGf,if_neg (by simp [hx]),aK0 q e l k (by simpa using hk) (fun j hj hjk=>by have:=h1 (j+1) (by simpa using hj) (by omega); simpa using this) (fun h=>by have:=h2 (by simpa using h); simpa using this)]
    rfl
theorem aGe {α:Type} (q:α→Bool) (e:α):∀ l:List α,(aGf q e l).length=l.length+1
  | []=>rfl
  | x::l=>by rw[aGf]; split <;> simp [aGe q e l]
theorem aAz {α:Type} {q:α→Bool} {e x:α}:∀ {l:List α},x∈aGf q e l↔x=e∨x∈l
  | []=>by simp [aGf]
  | y::l=>by
    rw[aGf]; split
    · simp
    · simp only[List.mem_cons,aAz (l:=l)]
      constructor
      · rintro (h | h | h) <;> simp [h]
      · rintro (h | h | h) <;> simp [h]
def isN (n:Int) (e:Se):Bool:=decide (e.1.1=n)
def aNz (l:List Se) (n:Int):Bool:=l.any (isN n)
def aRr:List Se→Int→Se
  | [],_=>se0
  | e::l,n=>if isN n e=true then e else aRr l n
def jY:List Se→Int→ByteArray→Int
  | [],_,_=>101
  | e::l,n,u=>if isN n e=true then (if e.1.2=u then 0 else 102) else jY l n u
def aOp:List Se→Int→Int→Int→List Se
  | [],_,_,_=>[]
  | e::l,n,st,t=>if isN n e=true then (e.1,(st,t))::l else e::aOp l n st t
def aOl:List Se→Int→List Se
  | [],_=>[]
  | e::l,n=>if isN n e=true then l else e::aOl l n
def atK (l:List Se) (n:Int):Nat:=l.findIdx (isN n)
theorem qR (n:Int) (u:ByteArray) (st t:Int):∀ (l:List Se) (k:Nat) (hk:k<l.length),(∀ (j:Nat) (hj:j<l.length),j<k→isN n l[j]=false)→isN n l[k]=true →
    atK l n=k∧aRr l n=l[k]∧jY l n u=(if l[k].1.2=u then 0 else 102)∧aOp l n st t=l.set k (l[k].1,(st,t))∧aOl l n=l.take k++l.drop (k+1)
  | [],k,hk,_,_=>by simp at hk
  | x::l,0,_,_,h=>by
    simp only[List.getElem_cons_zero] at h
    simp [atK,aRr,jY,aOp,aOl,h,List.findIdx_cons]
  | x::l,k+1,hk,h1,h2=>by
    have hx:=h1 0 (by simp) (by omega)
    simp only[List.getElem_cons_zero] at hx
    obtain ⟨e1,e2,e3,e4,e5⟩:=qR n u st t l k (by simpa using hk) (fun j hj hjk=>by have:=h1 (j+1) (by simpa using hj) (by omega); simpa using this) (by simpa using h2)
    have hx':¬ isN n x=true:=by simp [hx]
    refine⟨?_,?_,?_,?_,?_⟩
    · rw[atK] at *; rw[List.findIdx_cons,hx,e1]; rfl
    · rw[aRr,if_neg hx',e2]; rfl
    · rw[jY,if_neg hx',e3]; rfl
    · rw[aOp,if_neg hx',e4]; rfl
    · rw[aOl,if_neg hx',e5]; rfl
theorem aLq (n:Int) (u:ByteArray):∀ (l:List Se),(∀ (j:Nat) (hj:j<l.length),isN n l[j]=false)→atK l n=l.length∧jY l n u=101∧aNz l n=false
  | [],_=>⟨rfl,rfl,rfl⟩
  | x::l,h=>by
    have hx:=h 0 (by simp)
    simp only[List.getElem_cons_zero] at hx
    obtain ⟨e1,e2,e3⟩:=aLq n u l (fun j hj=>by have:=h (j+1) (by simpa using hj); simpa using this)
    refine⟨?_,?_,?_⟩
    · rw[atK] at *; rw[List.findIdx_cons,hx,e1]; rfl
    · rw[jY,if_neg (by simp [hx]),e2]
    · rw[aNz] at *; rw[List.any_cons,hx,e3]; rfl
theorem aGy (l:List Se) (n:Int) (u:ByteArray):(jY l n u=101∧aNz l n=false∧atK l n=l.length)∨(aNz l n=true∧jY l n u≠101∧∃ k,∃ hk:k<l.length,isN n l[k]=true∧(∀ (j:Nat) (hj:j<l.length),j<k→isN n l[j]=false)∧atK l n=k∧jY l n u=(if l[k].1.2=u then 0 else 102)):=by
  rcases eP (isN n) l with ⟨_,h⟩ | ⟨k,hk,_,h1,h2⟩
  · obtain ⟨e1,e2,e3⟩:=aLq n u l (fun j hj=>h _ (List.getElem_mem hj))
    exact .inl ⟨e2,e3,e1⟩
  · obtain ⟨e1,_,e3,_⟩:=qR n u 0 0 l k hk h2 h1
    exact .inr ⟨List.any_eq_true.2 ⟨_,List.getElem_mem hk,h1⟩,by rw[e3]; split <;> decide,k,hk,h1,h2,e1,e3⟩
theorem aLl {l:List Se} {n:Int} {u:ByteArray} (h:jY l n u=0):∃ k,∃ hk:k<l.length,atK l n=k∧isN n l[k]=true∧l[k].1.2=u∧∀ (j:Nat) (hj:j<l.length),j<k→isN n l[j]=false:=by
  rcases aGy l n u with ⟨e,_⟩ | ⟨_,_,k,hk,h1,h2,h3,h4⟩
  · omega
  · refine⟨k,hk,h3,h1,?_,h2⟩
    rw[h4] at h
    split at h
    · assumption
    · omega
theorem aOi {l:List Se} {n:Int} {u:ByteArray}:jY l n u=101↔aNz l n=false:=by
  rcases aGy l n u with ⟨e,h,_⟩ | ⟨e,h,_⟩
  · simp [e,h]
  · simp [e,h]
def zI (l:List Se) (e:Se):Int:=if aNz l e.1.1=true then 100 else if 16≤l.length then 103 else 0
def oZ (n:Int) (x:Se):Bool:=decide (n<x.1.1)
def aKt (l:List Se) (e:Se):List Se:=aGf (oZ e.1.1) e l
def fY (e:Se) (t:Int):bI:=((e.2.2,t),(e.1.1,e.2.1))
def fW (e:Se):Bool:=cF e.1.2&&(decide (1≤e.1.1)&&decide (e.1.1≤999)&&(decide (1≤e.2.1)&&decide (e.2.1≤4))&&(decide (0≤e.2.2)&&decide (e.2.2≤1099511627775)))
def hU (a b:Se):Bool:=decide (a.1.1<b.1.1)
def gX (l:List Se):Bool:=nP fW hU none l&&decide (l.length≤16)
theorem kS (l:List Se):gX l=true↔((∀ x∈l,fW x=true)∧l.Pairwise fun a b=>a.1.1<b.1.1)∧l.length≤16:=by
  rw[gX,Bool.and_eq_true,decide_eq_true_eq,tH (fun a b:Se=>a.1.1<b.1.1) (fun x y=>by simp [hU]) (fun x y z _ h1 h2=>Int.lt_trans h1 h2)]
  simp
theorem opn_ris {l:List Se} {e:Se} (h:gX l=true) (he:gX [e]=true) (ho:zI l e=0):gX (aKt l e)=true:=by
  obtain ⟨⟨h1,h2⟩,h3⟩:=(kS l).1 h
  have h4:=((kS [e]).1 he).1.1 e (by simp)
  unfold zI at ho
  split at ho
  · omega
  · rename_i hn
    split at ho
    · omega
    · rename_i h16
      refine(kS _).2 ⟨⟨fun x hx=>?_,?_⟩,by rw[aKt,aGe]; omega⟩
      · rcases aAz.1 hx with rfl | hx
        · exact h4
        · exact h1 x hx
      · have hne:∀ x∈l,x.1.1≠e.1.1:=fun x hx hh=>hn (List.any_eq_true.2 ⟨x,hx,by simp [isN,hh]⟩)
        clear h1 h h3 h16 ho hn
        revert h2 hne
        induction l with
        | nil=>intro _ _; exact List.pairwise_singleton _ _
        | cons x l ih =>
          intro h2 hne
          obtain ⟨q1,q2⟩:=List.pairwise_cons.1 h2
          have hx:=hne x (by simp)
          rw[aKt,aGf]
          split
          · rename_i hq
            simp only[oZ,decide_eq_true_eq] at hq
            refine List.pairwise_cons.2 ⟨fun y hy=>?_,h2⟩
            rcases List.mem_cons.1 hy with rfl | hy
            · exact hq
            · have:=q1 y hy; omega
          · rename_i hq
            simp only[oZ,decide_eq_true_eq] at hq
            refine List.pairwise_cons.2 ⟨fun y hy=>?_,ih q2 (fun y hy=>hne y (by simp [hy]))⟩
            rcases aAz.1 hy with rfl | hy
            · omega
            · exact q1 y hy
def qQ (u:ByteArray) (e:Se):Bool:=decide (e.1.2=u)
def eT (l:List Se) (u:ByteArray) (t:Int):List bI:=l.flatMap fun e=>if qQ u e=true∧¬ t≤e.2.2 then [fY e t] else []
def gW (l:List Se) (u:ByteArray) (t:Int):List bI:=vX (eT l u t)
theorem aBp (l:List Se) (u:ByteArray) (t:Int):(gW l u t).length≤l.length:=by
  rw[gW,aBr]
  induction l with
  | nil=>simp [eT]
  | cons e l ih =>
    have:(if qQ u e=true∧¬ t≤e.2.2 then [fY e t] else []).length≤1:=by split <;> simp
    simp only[eT,List.flatMap_cons,List.length_append,List.length_cons] at *
    omega
end Go.Abs
set_option linter.unusedVariables false
set_option linter.unusedSimpArgs false
namespace Go.Abs
open Go
theorem ty_st {cs:List AV} (h:Ty (.agg [.int .i64,.int .i64,.int .i64,.int .i64]) cs):∃ s:bI,cs=stC s∧True:=by
  simp only[Ty,TyL] at h
  obtain ⟨a,b,rfl,⟨w,rfl,_⟩,a',b',rfl,⟨u,rfl,_⟩,a2,b2,rfl,⟨n,rfl,_⟩,a3,b3,rfl,⟨m,rfl,_⟩,rfl⟩:=h
  exact⟨((w,u),(n,m)),rfl,trivial⟩
theorem ty_sts {c:AV} (h:Ty (.sl 32 (.agg [.int .i64,.int .i64,.int .i64,.int .i64])) [c]):∃ l:List bI,c=.sl 4 (l.map stC)∧l.length*32≤140737488351232:=by
  simp only[Ty] at h
  obtain ⟨xs,hx,_,hl,hxs⟩:=h
  obtain ⟨l,rfl,hr⟩:=xO stC (fun _=>True) (d:=.agg [.int .i64,.int .i64,.int .i64,.int .i64]) (fun cs h=>ty_st h) (xs:=xs) (fun x hx=>by simp only[Ty]; exact hxs x hx)
  simp only[List.cons.injEq,and_true] at hx
  exact⟨l,hx,by simpa using hl⟩
end Go.Abs
set_option linter.unusedVariables false
namespace Go.Abs
open Go
theorem ty_se {cs:List AV} (h:Ty (.agg [.int .i64,.str,.int .i64,.int .i64]) cs):∃ e:Se,cs=seC e∧TS e.1.2:=by
  simp only[Ty,TyL] at h
  obtain ⟨a,b,rfl,⟨n,rfl,_⟩,a',b',rfl,⟨u,rfl,hu⟩,a2,b2,rfl,⟨w,rfl,_⟩,a3,b3,rfl,⟨m,rfl,_⟩,rfl⟩:=h
  exact⟨((n,u),(w,m)),rfl,Nat.le_trans hu (by decide)⟩
theorem ty_ses {c:AV} (h:Ty (.sl 40 (.agg [.int .i64,.str,.int .i64,.int .i64])) [c]):∃ l:List Se,c=.sl 4 (l.map seC)∧l.length*40≤140737488351232∧∀ e∈l,TS e.1.2:=by
  simp only[Ty] at h
  obtain ⟨xs,hx,_,hl,hxs⟩:=h
  obtain ⟨l,rfl,hr⟩:=xO seC (fun e=>TS e.1.2) (d:=.agg [.int .i64,.str,.int .i64,.int .i64]) (fun cs h=>ty_se h) (xs:=xs) (fun x hx=>by simp only[Ty]; exact hxs x hx)
  simp only[List.cons.injEq,and_true] at hx
  exact⟨l,hx,by simpa using hl,hr⟩
abbrev rZ (l:List Se) (e:Se):List Se:=if zI l e=0 then aKt l e else []
abbrev sC (l:List Se) (n:Int) (u:ByteArray) (st t:Int):List Se:=if jY l n u=0 then aOp l n st t else []
abbrev sB (l:List Se) (n:Int) (u:ByteArray):List Se:=if jY l n u=0 then aOl l n else []
abbrev stR (l:List Se) (n:Int) (u:ByteArray) (t:Int):bI:=if jY l n u=0 then fY (aRr l n) t else st0
theorem aT8 (n st t:Int):∀ l:List Se,(aOp l n st t).length=l.length
  | []=>rfl
  | e::l=>by rw[aOp]; split <;> simp [aT8 n st t l]
theorem aT7 (n:Int):∀ l:List Se,(aOl l n).length≤l.length
  | []=>Nat.le_refl _
  | e::l=>by
    rw[aOl]; split
    · simp
    · have:=aT7 n l; simp only[List.length_cons]; omega
theorem aNf (l:List Se) (e:Se):(rZ l e).length≤l.length+1:=by
  unfold rZ; split
  · rw[aKt,aGe]; omega
  · simp
theorem aOo (l:List Se) (n:Int) (u:ByteArray) (st t:Int):(sC l n u st t).length≤l.length:=by
  unfold sC; split
  · rw[aT8]; omega
  · simp
theorem aOk (l:List Se) (n:Int) (u:ByteArray):(sB l n u).length≤l.length:=by
  unfold sB; split
  · exact aT7 n l
  · simp
theorem aXo {l:List Se} {n:Int} {u:ByteArray} {k:Nat} (hk:k<l.length) (h1:isN n l[k]=true) (h2:l[k].1.2=u) (h3:∀ (j:Nat) (hj:j<l.length),j<k→isN n l[j]=false):jY l n u=0∧aRr l n=l[k]∧l[k].1=(n,u):=by
  obtain ⟨e1,e2,e3,_⟩:=qR n u 0 0 l k hk h3 h1
  simp only[isN,decide_eq_true_eq] at h1
  exact⟨by rw[e3,if_pos h2],e2,Prod.ext h1 h2⟩
end Go.Abs
set_option linter.unusedVariables false
set_option linter.unusedSimpArgs false
namespace Go.Proofs.YtpkanhklapfajaaGreat
open Go Go.Abs
theorem rB {g:Nat} {cap:List AV} (hent:∀ args w,(callFunc g args).run Tryz.prog w=.ok (.enter g args) w) (hcl:cleanL (fun _=>false) cap=true) (p:Se→Bool) (l:List Se) (hl:l.length≤9223372036854775807) (hp:∀ x∈l,Den Tryz.prog g (.agg (seC x)::cap) (·=.s (.bool (p x)))) :Den Tryz.prog 135 [.sl 4 (l.map seC),.fn g cap]  (·=.s (.int .i64 (qH p l))):=by
 refine aR Tryz.func135 rfl (Nat.le_of_ble_eq_true rfl) (fun w0 A hf=>(aC (fun K1 hK1=>(aB (aE aA 1 rfl (aD (hK1 _ (aC (fun K2 hK2=>(aC (fun K3 hK3=>(aB (aE aA 3 rfl (aD (hK3 _ (aP ?_))))))))))))))))
 refine bT (ι:=Nat) (fun k=>⟨19,[(0,.sl 4 (l.map seC)),(1,.fn g cap),(7,.s (.int .i64 ((l.map seC).length:Nat))),(8,.s (.int .i64 (k:Nat)))],[]⟩) (fun k=>k≤l.length∧∀ (j:Nat) (hj:j<l.length),j<k→p l[j]=false) (fun k=>l.length - k) 0 ?_ ?_ ?_
 · exact⟨by omega,by omega⟩
 · exact cQ rfl
 ·
  rintro k hC
  obtain ⟨h1,h2⟩:=hC
  refine aC (fun K4 hK4=>(aB (aE aA 1 rfl (aD (hK4 _ (aC (fun K5 hK5=>(aL rfl (fun hc1=>?_) (fun hc1=>?_)))))))))
  ·
   simp only[bs] at hc1
   refine aN (hK5 _ (aC (fun K6 hK6=>(aP (aC (fun K7 hK7=>(aB (aE aA 2 rfl (aD (hK7 _ (aC (fun K8 hK8=>(aB (aE aA 3 rfl ?_))))))))))))))
   refine aH rfl (bG rfl rfl fD dJ (by first | exact ixm (by omega) | assumption | exact⟨by decide,rfl⟩)) ?_
   refine aE aA 1 rfl (aI hf rfl (aK rfl rfl hent (by rw[gV,hcl]; rfl) (hp _ (List.getElem_mem _))) ?_)
   refine aD (hK8 _ (aL rfl (fun hc2=>?_) (fun hc2=>?_)))
   ·
    refine aC (fun K9 hK9=>(aB (aE aA 2 rfl (aD (hK9 _ (aJ ?_))))))
    refine⟨_,rfl,?_⟩
    refine dM ?_
    rw[oT (by omega) h2 (by assumption)]
   ·
    refine aN (hK6 _ (aB ?_))
    refine aH rfl (bO rfl rfl (by omega) (by omega)) ?_
    refine aE aA 1 rfl (aD ?_)
    exact⟨k+1,⟨by omega,fun j hj hjk=>by
      by_cases e:j=k
      · subst e; simp_all
      · exact h2 j hj (by omega)⟩,by omega,cQ rfl⟩
  ·
   simp only[bs] at hc1
   refine bF (hK2 _ (aC (fun K10 hK10=>(aB (aE aA 1 rfl (aD (hK10 _ (aJ ?_))))))))
   refine⟨_,rfl,?_⟩
   refine dM ?_
   rw[qU (fun j hj=>h2 j hj (by omega))]
theorem aD4 {g:Nat} {cap:List AV} (hent:∀ args w,(callFunc g args).run Tryz.prog w=.ok (.enter g args) w) (hcl:cleanL (fun _=>false) cap=true) (hcv:∀ m,convL m cap=cap) (p:Se→Bool) (l:List Se) (n:Nat) (hn:n=l.length) (hl:l.length≤9223372036854775807) (hp:∀ x∈l,Den Tryz.prog g (.agg (seC x)::cap) (·=.s (.bool (p x)))) :DenM Tryz.prog 179 [.own E0 4 0 n,.fn g cap] 4 ((l.map seC)) (fun r ys=>r=.own E0 4 0 (l.filter fun x=>!p x).length∧ys=((l.filter fun x=>!p x).map seC)):=by
 subst hn
 have hq0:∀ j,((l.take j).filter fun x=>!p x).length≤j:=fun j=>iX _ l j
 have hq1:∀ j,((l.take j).filter fun x=>!p x).length≤l.length:=fun j=>iJ _ l j
 refine iK Tryz.func179 rfl (Nat.le_of_ble_eq_true rfl) (fun w0 x0 A hf=>?_)
 refine aC (fun K1 hK1=>(aB (aH rfl (bK) (aD (hK1 _ (aC (fun K2 hK2=>(aB (aE aA 2 rfl (aI hf rfl (sG rfl rfl (by show [AV.conv _ _,AV.fn g (convL _ cap)]=_; rw[hcv,cI (g:=E0) rfl (by simp)]) xI (rB hent hcl p l hl hp) rfl) ?_))))))))))
 refine aE aA 1 rfl (aD (hK2 _ (aC (fun K3 hK3=>(aC (fun K4 hK4=>(aB (aE aA 2 rfl (aD (hK4 _ (aL rfl (fun hc1=>?_) (fun hc1=>?_))))))))))))
 ·
  simp only[bs] at hc1
  refine aC (fun K5 hK5=>(aB (aE aA 2 rfl (aD (hK5 _ (aJ ?_))))))
  have hno:qH p l=-1:=by simpa using hc1
  rcases eP p l with ⟨_,hn⟩ | ⟨k,hk,e,_⟩
  · exact⟨_,.own E0 4 0 l.length,(l.map seC),Le.refl _,rfl,rfl,by rw[gU p l hn],by rw[gU p l hn]⟩
  · exfalso; omega
 ·
  simp only[bs] at hc1
  refine aN (hK3 _ (aC (fun K6 hK6=>(aC (fun K7 hK7=>(aB ?_))))))
  rcases eP p l with ⟨e0,_⟩ | ⟨k0,hk0,ek0,hpk0,hbef⟩
  · exact absurd e0 (by simpa using hc1)
  have hst:=lX (fun x=>!p x) l k0 hk0 (fun j hj hjk=>by simp [hbef j hj hjk]) (by simp [hpk0])
  rw[ek0]
  refine aE aA 1 rfl ?_
  refine aH rfl (bO rfl rfl (by omega) (by omega)) ?_
  refine aE aA 1 rfl (aD (hK7 _ (aP (bT (ι:=Nat) (fun j=>⟨42,[(0,.own E0 4 0 l.length),(1,.fn g cap),(5,.s (.int .i64 (((l.take j).filter fun x=>!p x).length:Nat))),(6,.s (.int .i64 (j:Nat)))],[(E0,.buf 4 ((jX (fun x=>!p x) l j).map seC))]⟩) (fun j=>j≤l.length) (fun j=>l.length - j) (k0+1) ?_ ?_ ?_))))
  · exact hk0
  · rw[hst.1,hst.2]; exact kI ⟨rfl,rfl,rfl,rfl,trivial⟩
  ·
   rintro j hC
   let q:=fun x=>!p x
   have hle:((l.take j).filter q).length≤j:=hq0 j
   have hle2:((l.take j).filter fun x=>!p x).length≤j:=hq0 j
   refine aC (fun K8 hK8=>(aC (fun K9 hK9=>(aB (aE aA 4 rfl (aD (hK9 _ (aL rfl (fun hc2=>?_) (fun hc2=>?_)))))))))
   ·
    simp only[bs] at hc2
    refine aN (hK8 _ (aC (fun K10 hK10=>(aP (aC (fun K11 hK11=>(aB (aE aA 2 rfl ?_))))))))
    refine aH rfl (cB rfl rfl fD dJ (by omega)) ?_
    refine aH rfl (cD rfl aWc dJ rfl (qK (c:=4) (k:=j) (enc:=seC) (by omega) (by rw[eQ]; omega) rfl) (cs':=seC l[j]) (by rw[nV (c:=4) (k:=j) (enc:=seC) (by omega) (by rw[eQ]; omega) rfl,qV q l j j (by omega) hle])) ?_
    refine bY hf rfl qY rfl dJ rfl rfl rfl rfl (lf rfl) (aD (hK11 _ (aC (fun K12 hK12=>(aB (aE aA 2 rfl (aI hf rfl (aK rfl rfl hent (by rw[gV,hcl]; rfl) (hp _ (List.getElem_mem _))) ?_)))))))
    refine aE aA 1 rfl (aD (hK12 _ (aL rfl (fun hc3=>?_) (fun hc3=>?_))))
    ·
     simp only[bs] at hc3
     refine aC (fun K13 hK13=>(aB (aE aA 3 rfl ?_)))
     refine aH rfl (cB rfl rfl fD dJ (by omega)) ?_
     refine bB hf rfl rfl dJ rfl rfl (by simp [seC,AV.cells,AV.one,Value.oneCell',splice]) (by simp [seC,AV.cells,AV.leaf,Value.oneCell',splice]) (iS (c:=4) (k:=((l.take j).filter fun x=>!p x).length) (enc:=seC) (v:=l[j]) (by omega) (by rw[eQ]; omega) rfl (Nat.le_refl _)) ?_
     refine aD (hK13 _ (aB ?_))
     rw[kY (fun x=>!p x) l j (by omega) (by simp_all)]
     refine aE aA 1 rfl ?_
     refine aH rfl (bO rfl rfl (by omega) (by omega)) ?_
     rw[nD (fun x=>!p x) l j (by omega) (by simp_all)]
     refine aE aA 1 rfl ?_
     refine bS ?_
     refine hK10 _ (aB (aE aA 1 rfl ?_))
     refine aH rfl (bO rfl rfl (by omega) (by omega)) ?_
     refine aE aA 1 rfl (aD ?_)
     exact⟨j+1,(by omega),by omega,cQ rfl⟩
    ·
     simp only[bs] at hc3
     rw[kZ (fun x=>!p x) l j (by omega) (by simp_all),nE (fun x=>!p x) l j (by omega) (by simp_all)]
     refine aN (hK10 _ (aB (aE aA 1 rfl ?_)))
     refine aH rfl (bO rfl rfl (by omega) (by omega)) ?_
     refine aE aA 1 rfl (aD ?_)
     exact⟨j+1,(by omega),by omega,cQ rfl⟩
   ·
    simp only[bs] at hc2
    refine bF (hK6 _ (aC (fun K14 hK14=>(aB (aE aA 2 rfl ?_)))))
    refine aH rfl (eW rfl fD dJ rfl rfl (by omega) (by omega)) ?_
    refine xL hf mB qY (by simp [Value.oneCell']) rfl rfl ?_
    refine aD (hK14 _ (aC (fun K15 hK15=>(aB (aE aA 2 rfl ?_)))))
    refine aH rfl (eW rfl fD dJ rfl rfl (by omega) (by omega)) ?_
    refine aE aA 1 rfl (aD (hK15 _ (aJ ?_)))
    have hjl:l.length≤j:=by omega
    have he:=oX (fun x=>!p x) l j hjl
    refine⟨_,_,_,Le.refl _,rfl,rfl,?_,?_⟩
    · rw[List.take_of_length_le hjl]; rfl
    · rw[List.take_of_length_le hjl,Nat.zero_add,Int.toNat_natCast,← List.map_take,he]
theorem jJ (l:List Se) (hl:l.length*40≤140737488355328) :DenO Tryz.prog 117 [.sl 4 (l.map seC)] 4 (·=(l.map seC)):=by
 refine gK Tryz.func117 rfl (Nat.le_of_ble_eq_true rfl) (fun w0 A hf=>?_)
 refine aC (fun K1 hK1=>(aB (aH rfl (bK) (aD (hK1 _ (aC (fun K2 hK2=>(aC (fun K3 hK3=>(aB (aE aA 1 rfl ?_)))))))))))
 refine oN rfl rfl rfl fD (fun b hb1=>?_)
 refine aD (hK3 _ (aL rfl (fun hc2=>?_) (fun hc2=>?_)))
 ·
  have hl0:l=[]:=by simpa using hb1 (by assumption)
  refine aC (fun K4 hK4=>(aB (mC hf 4 rfl rfl rfl (aD (hK4 _ (aJ ?_))))))
  exact⟨2,[],by decide,rfl,rfl,by rw[hl0]; rfl⟩
 ·
  refine aN (hK2 _ (aC (fun K5 hK5=>(aB (dR hf rfl rfl rfl mB rfl rfl rfl rfl (l2 rfl) ?_)))))
  refine aE aA 1 rfl (bH hf rfl mB rfl rfl rfl (.inl rfl) rfl rfl (by first | rfl | simp [eK,bL]) (by first | (simp only[maxLen,List.length_map,List.length_append,List.length_cons,List.length_nil]; omega) | (simp [maxLen] <;> omega)) (by first | (simp only[List.length_map,List.length_append,List.length_cons,List.length_nil]; omega) | (simp <;> omega)) ?_)
  refine bD (cX [7] rfl) (aE aA 1 rfl (aD (hK5 _ (aJ ?_))))
  refine⟨5,(l.map seC),by decide,rfl,?_,rfl⟩
  show some (AV.own 5 4 0 (0+(l.map seC).length))=_
  rw[Nat.zero_add]
theorem aUe (n:Nat) (hn:n*40≤140737488355328) :DenO Tryz.prog 176 [.s (.slice none 0 0),.s (.int .i64 (n:Nat))] 4 (·=[]):=by
 refine gK Tryz.func176 rfl (Nat.le_of_ble_eq_true rfl) (fun w0 A hf=>?_)
 refine aC (fun K1 hK1=>(aB (aH rfl (bK) (aD (hK1 _ (aC (fun K2 hK2=>(aC (fun K3 hK3=>(aB (aE aA 2 rfl (aD (hK3 _ (aL rfl (fun hc1=>?_) (fun hc1=>?_)))))))))))))))
 ·
  simp only[bs] at hc1
  omega
 ·
  simp only[bs] at hc1
  refine aN (hK2 _ (aC (fun K4 hK4=>(aC (fun K5 hK5=>(aB (aE aA 2 rfl (aH rfl (nA rfl fD) (aE aA 2 rfl ?_)))))))))
  refine aH rfl (eZ rfl rfl (by omega) (by omega)) ?_
  refine aH rfl (eZ rfl rfl (by omega) (by omega)) ?_
  refine aE aA 1 rfl (aD (hK5 _ (aC (fun K6 hK6=>(aB (aE aA 2 rfl (aD (hK6 _ (aL rfl (fun hc2=>?_) (fun hc2=>?_))))))))))
  ·
   simp only[bs] at hc2
   refine aB (aE aA 2 rfl (aH rfl (nA rfl fD) ?_))
   refine aH rfl (sJ rfl fD dJ rfl) ?_
   refine aE aA 1 rfl (xM hf rfl rfl rfl mB Tryz.underlying3 rfl rfl (by omega) (by omega) (by simp only[maxLen]; omega) ?_)
   refine aE aA 2 rfl ?_
   refine aH rfl (eW rfl fD dJ rfl rfl (by omega) (by omega)) ?_
   refine aE aA 1 rfl (aD (hK4 _ (aC (fun K7 hK7=>(aB (aE aA 1 rfl ?_))))))
   refine aH rfl (wG rfl) ?_
   refine aD (hK7 _ (aJ ?_))
   exact⟨22,[],by decide,rfl,rfl,rfl⟩
  ·
   simp only[bs] at hc2
   refine aN (hK4 _ (aC (fun K8 hK8=>(aB (aE aA 1 rfl ?_)))))
   refine aJ7 hf 4 rfl rfl rfl rfl ?_
   refine aD (hK8 _ (aJ ?_))
   exact⟨4,[],by decide,rfl,rfl,rfl⟩
theorem vQ (rows:List (List Se)) (hl:rows.length≤9223372036854775807) (hb:rows.flatten.length*40≤140737488355328) :DenO Tryz.prog 152 [.sl 1 (rows.map fun r=>[AV.sl 4 (r.map seC)])] 4 (·=(rows.flatten.map seC)):=by
 refine gK Tryz.func152 rfl (Nat.le_of_ble_eq_true rfl) (fun w0 A hf=>?_)
 refine aC (fun K1 hK1=>(aB (aH rfl (bK) (aD (hK1 _ (aC (fun K2 hK2=>(aB (aE aA 1 rfl (aD (hK2 _ (aC (fun K3 hK3=>(aC (fun K4 hK4=>(aB ?_))))))))))))))))
 refine aE aA 3 rfl (aD (hK4 _ (aP (bT (ι:=Nat) (fun k=>⟨36,[(0,.sl 1 (rows.map fun r=>[AV.sl 4 (r.map seC)])),(3,.s (.int .i64 ((rows.take k).flatten.length:Nat))),(9,.sl 1 (rows.map fun r=>[AV.sl 4 (r.map seC)])),(10,.s (.int .i64 ((rows.map fun r=>[AV.sl 4 (r.map seC)]).length:Nat))),(11,.s (.int .i64 (k:Nat)))],[]⟩) (fun k=>k≤rows.length) (fun k=>rows.length - k) 0 ?_ ?_ ?_))))
 · exact Nat.zero_le _
 · exact cQ rfl
 ·
  rintro k hC
  refine aC (fun K5 hK5=>(aB (aE aA 1 rfl (aD (hK5 _ (aC (fun K6 hK6=>(aL rfl (fun hc1=>?_) (fun hc1=>?_)))))))))
  ·
   simp only[bs] at hc1
   refine aN (hK6 _ (aC (fun K7 hK7=>(aP (aC (fun K8 hK8=>(aB ?_)))))))
   refine aH rfl (bG rfl rfl aJ4 mS (by first | exact ixm (by omega) | assumption | exact⟨by decide,rfl⟩)) ?_
   refine aE aA 2 rfl (aD (hK8 _ (aC (fun K9 hK9=>(aB ?_)))))
   have hk:k<rows.length:=by omega
   have e1:=congrArg List.length (jA rows k hk)
   rw[List.length_append] at e1
   have e2:=sM rows (k+1)
   have e3:(rows[k].map seC).length=rows[k].length:=List.length_map _
   refine aE aA 3 rfl ?_
   refine aH rfl (bO rfl rfl (by omega) (by omega)) ?_
   rw[show ((((rows.take k).flatten.length:Nat):Int)+(((rows[k].map seC).length:Nat):Int))=(((rows.take (k+1)).flatten.length:Nat):Int) from by omega]
   refine aE aA 1 rfl (aD (hK9 _ (aC (fun K10 hK10=>(aB (aE aA 2 rfl (aD (hK10 _ (aL rfl (fun hc2=>?_) (fun hc2=>?_))))))))))
   ·
    simp only[bs] at hc2
    omega
   ·
    simp only[bs] at hc2
    refine aN (hK7 _ (aB ?_))
    refine aH rfl (bO rfl rfl (by omega) (by omega)) ?_
    refine aE aA 1 rfl (aD ?_)
    exact⟨k+1,(by omega),by omega,cQ rfl⟩
  ·
   simp only[bs] at hc1
   refine bF (hK3 _ (aC (fun K11 hK11=>(aB ?_))))
   rw[List.take_of_length_le (show rows.length≤k by omega)]
   refine aE aA 1 rfl (iN hf rfl rfl rfl rfl rfl aPk rfl (aUe rows.flatten.length (by omega)) ?_)
   rintro _ rfl
   refine aE aA 1 rfl (aD (hK11 _ (aC (fun K12 hK12=>(aC (fun K13 hK13=>(aB (aE aA 3 rfl (aD (hK13 _ (aP (bT (ι:=Nat) (fun j=>⟨36,[(6,.own 24 4 0 (rows.take j).flatten.length),(25,.sl 1 (rows.map fun r=>[AV.sl 4 (r.map seC)])),(26,.s (.int .i64 ((rows.map fun r=>[AV.sl 4 (r.map seC)]).length:Nat))),(27,.s (.int .i64 (j:Nat)))],[(24,.buf 4 ((rows.take j).flatten.map seC))]⟩) (fun j=>j≤rows.length) (fun j=>rows.length - j) 0 ?_ ?_ ?_))))))))))))
   · exact Nat.zero_le _
   · exact cQ rfl
   ·
    rintro j hC
    refine aC (fun K14 hK14=>(aB (aE aA 1 rfl (aD (hK14 _ (aC (fun K15 hK15=>(aL rfl (fun hc3=>?_) (fun hc3=>?_)))))))))
    ·
     simp only[bs] at hc3
     refine aN (hK15 _ (aC (fun K16 hK16=>(aP (aC (fun K17 hK17=>(aB ?_)))))))
     refine aH rfl (bG rfl rfl aJ4 mS (by first | exact ixm (by omega) | assumption | exact⟨by decide,rfl⟩)) ?_
     refine aE aA 2 rfl (aD (hK17 _ (aB ?_)))
     have hj:j<rows.length:=by omega
     have e1:=congrArg List.length (jA rows j hj)
     rw[List.length_append] at e1
     have e2:=sM rows (j+1)
     have e3:(rows[j].map seC).length=rows[j].length:=List.length_map _
     refine aE aA 2 rfl (bH hf rfl mB rfl rfl rfl (.inl rfl) (by simp only[List.length_map]) rfl (by first | rfl | simp [eK,bL]) (by first | (simp only[maxLen,List.length_map,List.length_append,List.length_cons,List.length_nil]; omega) | (simp [maxLen] <;> omega)) (by first | (simp only[List.length_map,List.length_append,List.length_cons,List.length_nil]; omega) | (simp <;> omega)) ?_)
     refine bD (cX [25,26,27,33] rfl) ?_
     rw[show (rows.take j).flatten.length+(rows[j].map seC).length=(rows.take (j+1)).flatten.length from by omega,← List.map_append,← jA rows j hj]
     refine aE aA 1 rfl ?_
     refine bS ?_
     refine hK16 _ (aB ?_)
     refine aH rfl (bO rfl rfl (by omega) (by omega)) ?_
     refine aE aA 1 rfl (aD ?_)
     exact⟨j+1,(by omega),by omega,cQ rfl⟩
    ·
     simp only[bs] at hc3
     refine bF (hK12 _ (aC (fun K18 hK18=>(aB (aE aA 2 rfl (aD (hK18 _ (aJ ?_))))))))
     refine⟨24,(rows.flatten.map seC),by decide,?_,?_,rfl⟩
     · rw[List.take_of_length_le (show rows.length≤j by omega)]; rfl
     · rw[List.take_of_length_le (show rows.length≤j by omega)]
       show some (AV.own 24 4 0 rows.flatten.length)=_
       rw[List.length_map]
theorem yX (e:Se) (t:Int) :Den Tryz.prog 145 [.agg (seC e),.s (.int .i64 t)]  (·=.agg (stC (fY e t))):=by
 refine aR Tryz.func145 rfl (Nat.le_of_ble_eq_true rfl) (fun w0 A hf=>(aC (fun K1 hK1=>(aB (aI hf rfl (cE rfl rfl (lf rfl)) (aW hf rfl rfl rfl eE (aD (hK1 _ (aC (fun K2 hK2=>(aB (aE aA 3 rfl (aH rfl (bR rfl fI jB (l3 rfl) rfl) (aE aA 4 rfl (aH rfl (bR rfl eE qZ (l3 rfl) rfl) ?_)))))))))))))))
 refine bB hf rfl rfl bC rfl rfl (l1 rfl) (l4 rfl) rfl (aD (hK2 _ (aJ ?_)))
 refine⟨_,rfl,?_⟩
 rfl
theorem aUx (x e:Se) :Den Tryz.prog 151 [.agg (seC x),.adr (seC e)]  (·=.s (.bool (oZ e.1.1 x))):=by
 refine aR Tryz.func151 rfl (Nat.le_of_ble_eq_true rfl) (fun w0 A hf=>(aC (fun K1 hK1=>(aB (aI hf rfl (cE rfl rfl (lf rfl)) (aE aA 1 rfl (aD (hK1 _ (aC (fun K2 hK2=>(aB (aE aA 6 rfl (aD (hK2 _ (aJ ?_)))))))))))))))
 refine⟨_,rfl,?_⟩
 rfl
theorem aD6 (e:Se) (u:ByteArray) :Den Tryz.prog 180 [.agg (seC e),.adr [.s (.string u)]]  (·=.s (.bool (qQ u e))):=by
 refine aR Tryz.func180 rfl (Nat.le_of_ble_eq_true rfl) (fun w0 A hf=>(aC (fun K1 hK1=>(aB (aI hf rfl (cE rfl rfl (lf rfl)) (aE aA 1 rfl (aD (hK1 _ (aC (fun K2 hK2=>(aB (aE aA 5 rfl (aD (hK2 _ (aJ ?_)))))))))))))))
 refine⟨_,rfl,?_⟩
 refine aO ?_
 unfold qQ
 rw[Bool.eq_iff_iff]
 simp_all[toList_inj]
theorem yW (n a b:Int) :Den Tryz.prog 137 [.s (.int .i64 n),.s (.int .i64 a),.s (.int .i64 b)]  (·=.s (.bool (decide (a≤n)&&decide (n≤b)))):=by
 refine aR Tryz.func137 rfl (Nat.le_of_ble_eq_true rfl) (fun w0 A hf=>(aC (fun K1 hK1=>(aB (aE aA 1 rfl (aD (hK1 _ (aC (fun K2 hK2=>(aB (aE aA 4 rfl (aU rfl rfl rfl (fun hg1=>?_) (fun hg1=>?_)))))))))))))
 ·
  simp only[bs] at hg1
  refine aH rfl (fZ rfl) (aE aA 4 rfl (aD (hK2 _ (aJ ?_))))
  refine⟨_,rfl,?_⟩
  refine aO ?_
  rw[Bool.eq_iff_iff]
  simp only[Bool.and_eq_true,decide_eq_true_eq,true_iff,Bool.false_eq_true,false_iff]
  omega
 ·
  simp only[bs] at hg1
  refine aE aA 4 rfl (aD (hK2 _ (aJ ?_)))
  refine⟨_,rfl,?_⟩
  refine aO ?_
  rw[Bool.eq_iff_iff]
  simp only[Bool.and_eq_true,decide_eq_true_eq,true_iff,Bool.false_eq_true,false_iff]
  omega
theorem aG3 (l:List Se) (n:Int) (u:ByteArray) (hl:l.length≤9223372036854775807) :Den Tryz.prog 150 [.sl 4 (l.map seC),.s (.int .i64 n),.s (.string u)]  (·=.tup [.s (.int .i64 (atK l n:Nat)),.s (.int .i64 (jY l n u))]):=by
 refine aR Tryz.func150 rfl (Nat.le_of_ble_eq_true rfl) (fun w0 A hf=>(aC (fun K1 hK1=>(aB (aE aA 2 rfl (aD (hK1 _ (aX3 (aC (fun K2 hK2=>(aX5 (hK2 _ (aC (fun K3 hK3=>(aC (fun K4 hK4=>(aB ?_)))))))))))))))))
 refine aE aA 3 rfl (aD (hK4 _ (aP (bT (ι:=Nat) (fun k=>⟨32,[(0,.sl 4 (l.map seC)),(1,.s (.int .i64 n)),(2,.s (.string u)),(10,.sl 4 (l.map seC)),(11,.s (.int .i64 ((l.map seC).length:Nat))),(12,.s (.int .i64 (k:Nat)))],[]⟩) (fun k=>k≤l.length∧∀ (j:Nat) (hj:j<l.length),j<k→isN n l[j]=false) (fun k=>l.length - k) 0 ?_ ?_ ?_))))
 · exact⟨Nat.zero_le _,by omega⟩
 · exact cQ rfl
 ·
  rintro k hC
  obtain ⟨h1,h2⟩:=hC
  refine aC (fun K5 hK5=>(aB (aE aA 1 rfl (aD (hK5 _ (aC (fun K6 hK6=>(aL rfl (fun hc1=>?_) (fun hc1=>?_)))))))))
  ·
   simp only[bs] at hc1
   refine aN (hK6 _ (aC (fun K7 hK7=>(aP (aC (fun K8 hK8=>(aB (aE aA 1 rfl ?_))))))))
   refine aH rfl (bG rfl rfl fD dJ (by first | exact ixm (by omega) | assumption | exact⟨by decide,rfl⟩)) ?_
   refine aE aA 1 rfl (aW hf rfl rfl rfl qY (aE aA 1 rfl (bB hf rfl rfl dJ rfl rfl (l1 rfl) (l4 rfl) rfl (bD (pH (nee 9) (sl':=[(0,_),(1,_),(2,_),(8,_),(9,_),(10,_),(11,_),(12,_)]) (m':=[]) ⟨⟨_,rfl,rfl⟩,⟨_,rfl,rfl⟩,⟨_,rfl,rfl⟩,⟨_,rfl,rfl⟩,⟨_,rfl,rfl⟩,⟨_,rfl,rfl⟩,⟨_,rfl,rfl⟩,⟨_,rfl,rfl⟩,trivial⟩ rfl) (aD (hK8 _ (aC (fun K9 hK9=>(aP (aC (fun K10 hK10=>(aB (aE aA 5 rfl (aD ?_))))))))))))))
   refine hK10 _ (aL rfl (fun hc2=>?_) (fun hc2=>?_))
   ·
    simp only[bs] at hc2
    refine bF (hK7 _ (aB ?_))
    refine aH rfl (bO rfl rfl (by omega) (by omega)) ?_
    refine aE aA 1 rfl (aD ?_)
    exact⟨k+1,⟨by omega,fun j hj hjk=>by
     by_cases e:j=k
     · subst e; simp_all[isN]
     · exact h2 j hj (by omega)⟩,by omega,cQ rfl⟩
   ·
    simp only[bs] at hc2
    obtain ⟨e1,_,e3,_⟩:=qR n u 0 0 l k (by omega) h2 (by simp_all[isN])
    refine aC (fun K11 hK11=>(aB (aE aA 5 rfl (aD (hK11 _ (aL rfl (fun hc3=>?_) (fun hc3=>?_)))))))
    ·
     simp only[bs] at hc3
     refine aC (fun K12 hK12=>(aB (aE aA 3 rfl (aD (hK12 _ (aJ ?_))))))
     refine⟨_,rfl,?_⟩
     rw[e1,e3,if_neg (by simp_all[toList_inj])]; rfl
    ·
     simp only[bs] at hc3
     refine aN (hK9 _ (aC (fun K13 hK13=>(aB (aE aA 3 rfl (aD (hK13 _ (aJ ?_))))))))
     refine⟨_,rfl,?_⟩
     rw[e1,e3,if_pos (by simp_all[toList_inj])]; rfl
  ·
   simp only[bs] at hc1
   refine bF (hK3 _ (aC (fun K14 hK14=>(aB (aE aA 4 rfl (aD (hK14 _ (aJ ?_))))))))
   refine⟨_,rfl,?_⟩
   obtain ⟨e1,e2,_⟩:=aLq n u l (fun j hj=>h2 j hj (by omega))
   rw[e1,e2,List.length_map]; rfl
end Go.Proofs.YtpkanhklapfajaaGreat
set_option linter.unusedVariables false
set_option linter.unusedSimpArgs false
namespace Go.Proofs.YtpkanhklapfajaaGreat
open Go Go.Abs
theorem aXl (s:Sp) (t:Int) :Den Tryz.prog 103 [.agg (spC s),.adr [.s (.int .i64 t)]]  (·=.s (.bool (decide (s.1≤t)&&decide (t<s.2)))):=by
 refine aR Tryz.func103 rfl (Nat.le_of_ble_eq_true rfl) (fun w0 A hf=>(aC (fun K1 hK1=>(aB (aI hf rfl (cE rfl rfl (lf rfl)) (aE aA 1 rfl (aD (hK1 _ (aC (fun K2 hK2=>(aB (aE aA 2 rfl (aI hf rfl (aK rfl rfl aTa rfl (has_den _ _)) (aE aA 1 rfl (aD ?_)))))))))))))))
 refine hK2 _ (aJ ?_)
 refine⟨_,rfl,?_⟩
 rfl
theorem aRm (l:List Sp) (t:Int) (hl:l.length≤9223372036854775807) :Den Tryz.prog 52 [.sl 2 (l.map spC),.s (.int .i64 t)]  (·=.s (.bool (eB l t))):=by
 refine aR Tryz.func52 rfl (Nat.le_of_ble_eq_true rfl) (fun w0 A hf=>(aC (fun K1 hK1=>(aB (aI hf rfl (cE rfl rfl (lf rfl)) (aE aA 1 rfl (aD (hK1 _ (aC (fun K2 hK2=>(aB (aE aA 1 rfl (aH rfl (eY rfl) (aI hf rfl (aK rfl rfl aQo rfl (aCg aQn rfl (fun s=>decide (s.1≤t)&&decide (t<s.2)) l hl (fun x _=>aXl x t))) (aE aA 1 rfl ?_)))))))))))))))
 refine aD (hK2 _ (aJ ?_))
 refine⟨_,rfl,?_⟩
 rfl
theorem aXd (a b:List Sp) (ha:a.length≤9223372036854775807) (hb0:b.length≤9223372036854775807) (hab:a.length*b.length*16≤140737488355328) :Den Tryz.prog 98 [.sl 2 (a.map spC),.sl 2 (b.map spC)]  (·=.sl 2 (mL a b |>.map spC)):=by
 refine aR Tryz.func98 rfl (Nat.le_of_ble_eq_true rfl) (fun w0 A hf=>(aC (fun K1 hK1=>(aB (aH rfl (bK) (aD (hK1 _ (aC (fun K2 hK2=>(aB (mC hf 2 rfl rfl rfl (aD (hK2 _ (aC (fun K3 hK3=>(aC (fun K4 hK4=>?_)))))))))))))))))
 refine aB (aE aA 3 rfl (aD (hK4 _ (aP (bT (ι:=Nat×List Sp) (fun(⟨k,out⟩:Nat×List Sp)=>⟨32,[(1,.sl 2 (b.map spC)),(5,.own 5 2 0 out.length),(10,.sl 2 (a.map spC)),(11,.s (.int .i64 ((a.map spC).length:Nat))),(12,.s (.int .i64 (k:Nat)))],[(5,.buf 2 (out.map spC))]⟩) (fun(⟨k,out⟩:Nat×List Sp)=>k≤a.length∧out=sV (a.take k) b∧out.length=k*b.length) (fun(⟨k,out⟩:Nat×List Sp)=>a.length - k) (0,[]) ?_ ?_ ?_)))))
 · exact⟨Nat.zero_le _,rfl,by simp⟩
 · exact cQ rfl
 ·
  rintro ⟨k,out⟩ hC
  obtain ⟨h1,h2,h3⟩:=hC
  refine aC (fun K5 hK5=>(aB (aE aA 1 rfl (aD (hK5 _ (aC (fun K6 hK6=>(aL rfl (fun hc1=>?_) (fun hc1=>?_)))))))))
  ·
   simp only[bs] at hc1
   refine aN (hK6 _ (aC (fun K7 hK7=>(aP (aC (fun K8 hK8=>(aB ?_)))))))
   refine aH rfl (bG rfl rfl jI cY (by first | exact ixm (by omega) | assumption | exact⟨by decide,rfl⟩)) ?_
   refine aE aA 1 rfl (bY hf rfl fI rfl cY rfl rfl rfl rfl (lf rfl) (aD (hK8 _ (aC (fun K9 hK9=>(aB (aE aA 3 rfl (aD (hK9 _ (aP (bT (ι:=Nat×List Sp) (fun(⟨j,o⟩:Nat×List Sp)=>⟨32,[(1,.sl 2 (b.map spC)),(5,.own 5 2 0 o.length),(7,.adr (spC a[k])),(10,.sl 2 (a.map spC)),(11,.s (.int .i64 ((a.map spC).length:Nat))),(12,.s (.int .i64 (k:Nat))),(16,.sl 2 (b.map spC)),(17,.s (.int .i64 ((b.map spC).length:Nat))),(18,.s (.int .i64 (j:Nat)))],[(5,.buf 2 (o.map spC))]⟩) (fun(⟨j,o⟩:Nat×List Sp)=>j≤b.length∧o=out++(b.take j).map (eD a[k])∧o.length=k*b.length+j) (fun(⟨j,o⟩:Nat×List Sp)=>b.length - j) (0,out) ?_ ?_ ?_)))))))))))
   · exact⟨Nat.zero_le _,by simp,by omega⟩
   · exact cQ rfl
   ·
    rintro ⟨j,o⟩ hC
    obtain ⟨h4,h5,h6⟩:=hC
    refine aC (fun K10 hK10=>(aB (aE aA 1 rfl (aD (hK10 _ (aC (fun K11 hK11=>(aL rfl (fun hc2=>?_) (fun hc2=>?_)))))))))
    ·
     simp only[bs] at hc2
     refine aN (hK11 _ (aC (fun K12 hK12=>(aP (aC (fun K13 hK13=>(aB ?_)))))))
     refine aH rfl (bG rfl rfl jI cY (by first | exact ixm (by omega) | assumption | exact⟨by decide,rfl⟩)) ?_
     refine aE aA 1 rfl (bY hf rfl fI rfl cY rfl rfl rfl rfl (lf rfl) (aD (hK13 _ (aB (aE aA 3 rfl (aI hf rfl (aK rfl rfl vB rfl (xZ _ _)) ?_))))))
     have hm:=Nat.mul_le_mul_right b.length (show k+1≤a.length by omega)
     rw[Nat.add_mul,Nat.one_mul] at hm
     refine aI hf rfl (aS iG rfl rfl rfl rfl (l2 rfl)) (bH hf rfl iG rfl rfl rfl (.inl rfl) (by rw[List.length_map]) rfl (by first | rfl | simp [eK,bL]) (by first | (simp only[maxLen,List.length_map,List.length_append,List.length_cons,List.length_nil]; omega) | (simp [maxLen] <;> omega)) (by first | (simp only[List.length_map,List.length_append,List.length_cons,List.length_nil]; omega) | (simp <;> omega)) ?_)
     refine bD (cX [1,7,10,11,12,16,17,18,27] rfl) (aE aA 1 rfl ?_)
     refine bS ?_
     refine hK12 _ (aB ?_)
     refine aH rfl (bO rfl rfl (by omega) (by omega)) ?_
     refine aE aA 1 rfl (aD ?_)
     refine⟨(j+1,o++[eD a[k] b[j]]),⟨by omega,by rw[h5,rD b (eD a[k]) j (by omega),List.append_assoc],by rw[List.length_append,h6]; simp only[List.length_cons,List.length_nil]; omega⟩,by simp only; omega,?_⟩
     exact cJ ⟨rfl,(by rw[List.length_append]; rfl),rfl,rfl,rfl,rfl,rfl,rfl,rfl,trivial⟩ (by rw[List.map_append]; rfl)
    ·
     simp only[bs] at hc2
     refine bF (hK7 _ (aB ?_))
     refine aH rfl (bO rfl rfl (by omega) (by omega)) ?_
     refine aE aA 1 rfl (aD ?_)
     exact⟨(k+1,o),⟨by omega,by rw[h5,h2,List.take_of_length_le (show b.length≤j by omega),aRf a b k (by omega)],by rw[h6,Nat.add_mul,show j=b.length from by omega]; omega⟩,by simp only; omega,cQ rfl⟩
  ·
   simp only[bs] at hc1
   refine bF (hK3 _ (aC (fun K14 hK14=>(aB (aE aA 1 rfl ?_)))))
   have hk:k=a.length:=by omega
   refine bD (yA (sl':=[(30,.sl 2 (out.map spC))]) ⟨⟨_,rfl,uM (g:=5) rfl (by rw[List.length_map])⟩,trivial⟩) ?_
   refine aI hf rfl (aK rfl rfl vC rfl ((aAq out (by rw[h3,hk]; exact hab)).mono (fun r h=>h.trans (by rw[h2,List.take_of_length_le (by omega),aF9])))) ?_
   refine aE aA 1 rfl (aD (hK14 _ (aJ ?_)))
   refine⟨_,rfl,?_⟩
   rfl
end Go.Proofs.YtpkanhklapfajaaGreat
set_option linter.unusedVariables false
set_option linter.unusedSimpArgs false
namespace Go.Proofs.YtpkanhklapfajaaGreat
open Go Go.Abs
theorem zC (l:List Sp) (t:Int) (hl:l.length≤9223372036854775807) :Den Tryz.prog 54 [.sl 2 (l.map spC),.s (.int .i64 t)]  (·=.s (.bool (eB l t))):=by
 refine aR Tryz.func54 rfl (Nat.le_of_ble_eq_true rfl) (fun w0 A hf=>(aC (fun K1 hK1=>(aB (aE aA 1 rfl (aD (hK1 _ (aC (fun K2 hK2=>(aC (fun K3 hK3=>(aB (aE aA 1 rfl (aD (hK3 _ (aP ?_))))))))))))))))
 refine bT (ι:=Nat) (fun k=>⟨28,[(0,.sl 2 (l.map spC)),(1,.s (.int .i64 t)),(5,.s (.int .i64 (k:Nat)))],[]⟩) (fun k=>k≤l.length∧eB l t=eB (l.drop k) t) (fun k=>l.length - k) 0 ?_ ?_ ?_
 · exact⟨Nat.zero_le _,rfl⟩
 · exact cQ rfl
 ·
  rintro k hC
  obtain ⟨h1,h2⟩:=hC
  refine aC (fun K4 hK4=>(aC (fun K5 hK5=>(aB (aE aA 4 rfl (aD (hK5 _ (aL rfl (fun hc1=>?_) (fun hc1=>?_)))))))))
  ·
   simp only[bs] at hc1
   refine aN (hK4 _ (aC (fun K6 hK6=>(aP (aC (fun K7 hK7=>(aB (aE aA 2 rfl ?_))))))))
   refine aH rfl (bG rfl rfl qB oI (by first | exact ixm (by omega) | assumption | exact⟨by decide,rfl⟩)) ?_
   refine aE aA 5 rfl (aU rfl rfl rfl (fun hg2=>?_) (fun hg2=>?_))
   ·
    simp only[bs] at hg2
    refine aH rfl (fZ rfl) (aE aA 2 rfl (aX rfl rfl rfl ?_))
    refine aH rfl (bG rfl rfl qB oI (by first | exact ixm (by omega) | assumption | exact⟨by decide,rfl⟩)) ?_
    refine aE aA 4 rfl (aD (hK7 _ (aL rfl (fun hc3=>?_) (fun hc3=>?_))))
    ·
     simp only[bs] at hc3
     refine aC (fun K8 hK8=>(aB (aE aA 1 rfl (aD (hK8 _ (aJ ?_))))))
     refine⟨_,rfl,?_⟩
     refine aO ?_
     rw[h2,List.drop_eq_getElem_cons (show k<l.length by omega),kX]
     simp; omega
    ·
     simp only[bs] at hc3
     refine aN (hK6 _ (aB (aE aA 1 rfl ?_)))
     refine aH rfl (bO rfl rfl (by omega) (by omega)) ?_
     refine aE aA 1 rfl (aD ?_)
     exact⟨k+1,⟨by omega,by rw[h2,List.drop_eq_getElem_cons (show k<l.length by omega),kX,Bool.or_eq_right_iff_imp]; simp; omega⟩,by omega,cQ rfl⟩
   ·
    simp only[bs] at hg2
    refine aE aA 7 rfl (aD (hK7 _ (bW rfl (aN (hK6 _ (aB (aE aA 1 rfl ?_)))))))
    refine aH rfl (bO rfl rfl (by omega) (by omega)) ?_
    refine aE aA 1 rfl (aD ?_)
    exact⟨k+1,⟨by omega,by rw[h2,List.drop_eq_getElem_cons (show k<l.length by omega),kX,Bool.or_eq_right_iff_imp]; simp; omega⟩,by omega,cQ rfl⟩
  ·
   simp only[bs] at hc1
   refine bF (hK2 _ (aC (fun K9 hK9=>(aB (aE aA 1 rfl (aD (hK9 _ (aJ ?_))))))))
   refine⟨_,rfl,?_⟩
   refine aO ?_
   rw[h2,List.drop_eq_nil_of_le (by omega)]; rfl
theorem aTs (l:List Int) (n:Int) (hl:l.length≤1000000000000) :Den Tryz.prog 172 [.sl 1 (l.map aKx),.s (.int .i64 n)]  (·=.sl 1 (lB l n |>.map aKx)):=by
 refine aR Tryz.func172 rfl (Nat.le_of_ble_eq_true rfl) (fun w0 A hf=>(aC (fun K1 hK1=>(aB (aH rfl (bK) (aD (hK1 _ (aC (fun K2 hK2=>(aB (mC hf 1 rfl rfl rfl (aD (hK2 _ (aC (fun K3 hK3=>(aB ?_))))))))))))))))
 refine aE aA 1 rfl (aD (hK3 _ (aC (fun K4 hK4=>(aC (fun K5 hK5=>(aB (aE aA 1 rfl (aD (hK5 _ (aP (bT (ι:=Nat×List Int×Bool) (fun(⟨k,out,done⟩:Nat×List Int×Bool)=>⟨48,[(0,.sl 1 (l.map aKx)),(1,.s (.int .i64 n)),(5,.own 5 1 0 out.length),(6,.s (.bool done)),(7,.s (.int .i64 (k:Nat)))],[(5,.buf 1 (out.map aKx))]⟩) (fun(⟨k,out,done⟩:Nat×List Int×Bool)=>k≤l.length∧aEj l n k out done) (fun(⟨k,out,done⟩:Nat×List Int×Bool)=>l.length - k) (0,[],false) ?_ ?_ ?_))))))))))))
 · exact⟨Nat.zero_le _,aUs l n⟩
 · exact cQ rfl
 ·
  rintro ⟨k,out,done⟩ hC
  obtain ⟨h1,hI⟩:=hC
  have hle:=put_le hI
  refine aC (fun K6 hK6=>(aC (fun K7 hK7=>(aB (aE aA 4 rfl (aD (hK7 _ (aL rfl (fun hc1=>?_) (fun hc1=>?_)))))))))
  ·
   simp only[bs] at hc1
   refine aN (hK6 _ (aC (fun K8 hK8=>(aP (aC (fun K9 hK9=>(aC (fun K10 hK10=>(aB (aE aA 2 rfl ?_))))))))))
   refine aH rfl (bG rfl rfl iF cA (by first | exact ixm (by omega) | assumption | exact⟨by decide,rfl⟩)) ?_
   refine aE aA 3 rfl (aD (hK10 _ (aL rfl (fun hc2=>?_) (fun hc2=>?_))))
   ·
    simp only[bs] at hc2
    refine aB (aE aA 1 rfl (aD (hK9 _ (aC (fun K11 hK11=>(aC (fun K12 hK12=>(aB (aE aA 10 rfl (aD (hK12 _ (bW rfl (aN (hK11 _ ?_))))))))))))))
    refine aB (aE aA 3 rfl ?_)
    refine aH rfl (bG rfl rfl iF cA (by first | exact ixm (by omega) | assumption | exact⟨by decide,rfl⟩)) ?_
    refine aE aA 1 rfl (aI hf rfl (aS gB rfl rfl rfl rfl (l2 rfl)) (bH hf rfl gB rfl rfl rfl (.inl rfl) (by simp only[List.length_map,List.length_append,List.length_cons,List.length_nil]) rfl (by first | rfl | simp [eK,bL]) (by first | (simp only[maxLen,List.length_map,List.length_append,List.length_cons,List.length_nil]; omega) | (simp [maxLen] <;> omega)) (by first | (simp only[List.length_map,List.length_append,List.length_cons,List.length_nil]; omega) | (simp <;> omega)) ?_))
    refine bD (cX [0,1,6,7,40] rfl) (aE aA 1 rfl ?_)
    refine bS ?_
    refine hK8 _ (aB (aE aA 1 rfl ?_))
    refine aH rfl (bO rfl rfl (by omega) (by omega)) ?_
    refine aE aA 1 rfl (aD ?_)
    exact⟨(k+1,out++[l[k]],true),⟨by omega,put_eq hI (by omega) (by assumption)⟩,by simp only; omega,cJ ⟨rfl,rfl,(by simp only[List.length_append]; rfl),rfl,rfl,trivial⟩ (by simp only[List.map_append]; rfl)⟩
   ·
    simp only[bs] at hc2
    refine aN (hK9 _ (aC (fun K13 hK13=>(aC (fun K14 hK14=>(aB (aE aA 3 rfl (aU rfl rfl rfl (fun hg4=>?_) (fun hg4=>?_)))))))))
    ·
     simp only[bs] at hg4
     refine aH rfl (fZ rfl) (aE aA 2 rfl (aX rfl rfl rfl ?_))
     refine aH rfl (bG rfl rfl iF cA (by first | exact ixm (by omega) | assumption | exact⟨by decide,rfl⟩)) ?_
     refine aE aA 3 rfl (aD (hK14 _ (aL rfl (fun hc5=>?_) (fun hc5=>?_))))
     ·
      simp only[bs] at hc5
      refine aC (fun K15 hK15=>(aB (aE aA 2 rfl (aI hf rfl (aS gB rfl rfl rfl rfl (l2 rfl)) (bH hf rfl gB rfl rfl rfl (.inl rfl) (by simp only[List.length_map,List.length_append,List.length_cons,List.length_nil]) rfl (by first | rfl | simp [eK,bL]) (by first | (simp only[maxLen,List.length_map,List.length_append,List.length_cons,List.length_nil]; omega) | (simp [maxLen] <;> omega)) (by first | (simp only[List.length_map,List.length_append,List.length_cons,List.length_nil]; omega) | (simp <;> omega)) ?_)))))
      refine bD (cX [0,1,7,33] rfl) (aE aA 1 rfl (aD (hK15 _ (aB (aE aA 1 rfl (aD (hK13 _ (aB (aE aA 3 rfl ?_)))))))))
      refine aH rfl (bG rfl rfl iF cA (by first | exact ixm (by omega) | assumption | exact⟨by decide,rfl⟩)) ?_
      refine aE aA 1 rfl (aI hf rfl (aS gB rfl rfl rfl rfl (l2 rfl)) (bH hf rfl gB rfl rfl rfl (.inl rfl) (by simp only[List.length_map,List.length_append,List.length_cons,List.length_nil]) rfl (by first | rfl | simp [eK,bL]) (by first | (simp only[maxLen,List.length_map,List.length_append,List.length_cons,List.length_nil]; omega) | (simp [maxLen] <;> omega)) (by first | (simp only[List.length_map,List.length_append,List.length_cons,List.length_nil]; omega) | (simp <;> omega)) ?_))
      refine bD (cX [0,1,6,7,40] rfl) (aE aA 1 rfl ?_)
      refine bS ?_
      refine hK8 _ (aB (aE aA 1 rfl ?_))
      refine aH rfl (bO rfl rfl (by omega) (by omega)) ?_
      refine aE aA 1 rfl (aD ?_)
      exact⟨(k+1,out++[n]++[l[k]],true),⟨by omega,put_ins (by assumption) hI (by omega) (by omega)⟩,by simp only; omega,cJ ⟨rfl,rfl,(by simp only[List.length_append]; rfl),rfl,rfl,trivial⟩ (by simp only[List.map_append]; rfl)⟩
     ·
      simp only[bs] at hc5
      refine aN (hK13 _ (aB (aE aA 3 rfl ?_)))
      refine aH rfl (bG rfl rfl iF cA (by first | exact ixm (by omega) | assumption | exact⟨by decide,rfl⟩)) ?_
      refine aE aA 1 rfl (aI hf rfl (aS gB rfl rfl rfl rfl (l2 rfl)) (bH hf rfl gB rfl rfl rfl (.inl rfl) (by simp only[List.length_map,List.length_append,List.length_cons,List.length_nil]) rfl (by first | rfl | simp [eK,bL]) (by first | (simp only[maxLen,List.length_map,List.length_append,List.length_cons,List.length_nil]; omega) | (simp [maxLen] <;> omega)) (by first | (simp only[List.length_map,List.length_append,List.length_cons,List.length_nil]; omega) | (simp <;> omega)) ?_))
      refine bD (cX [0,1,6,7,40] rfl) (aE aA 1 rfl ?_)
      refine bS ?_
      refine hK8 _ (aB (aE aA 1 rfl ?_))
      refine aH rfl (bO rfl rfl (by omega) (by omega)) ?_
      refine aE aA 1 rfl (aD ?_)
      exact⟨(k+1,out++[l[k]],done),⟨by omega,put_go (by assumption) hI (by omega) (by omega) (by omega)⟩,by simp only; omega,cJ ⟨rfl,rfl,(by simp only[List.length_append]; rfl),rfl,rfl,trivial⟩ (by simp only[List.map_append]; rfl)⟩
    ·
     simp only[bs] at hg4
     refine aE aA 6 rfl (aD (hK14 _ (bW rfl (aN (hK13 _ (aB (aE aA 3 rfl ?_)))))))
     refine aH rfl (bG rfl rfl iF cA (by first | exact ixm (by omega) | assumption | exact⟨by decide,rfl⟩)) ?_
     refine aE aA 1 rfl (aI hf rfl (aS gB rfl rfl rfl rfl (l2 rfl)) (bH hf rfl gB rfl rfl rfl (.inl rfl) (by simp only[List.length_map,List.length_append,List.length_cons,List.length_nil]) rfl (by first | rfl | simp [eK,bL]) (by first | (simp only[maxLen,List.length_map,List.length_append,List.length_cons,List.length_nil]; omega) | (simp [maxLen] <;> omega)) (by first | (simp only[List.length_map,List.length_append,List.length_cons,List.length_nil]; omega) | (simp <;> omega)) ?_))
     refine bD (cX [0,1,6,7,40] rfl) (aE aA 1 rfl ?_)
     refine bS ?_
     refine hK8 _ (aB (aE aA 1 rfl ?_))
     refine aH rfl (bO rfl rfl (by omega) (by omega)) ?_
     refine aE aA 1 rfl (aD ?_)
     exact⟨(k+1,out++[l[k]],done),⟨by omega,aW0 (by assumption) hI (by omega)⟩,by simp only; omega,cJ ⟨rfl,rfl,(by simp only[List.length_append]; rfl),rfl,rfl,trivial⟩ (by simp only[List.map_append]; rfl)⟩
  ·
   simp only[bs] at hc1
   refine bF (hK4 _ (aC (fun K16 hK16=>(aC (fun K17 hK17=>(aB (aE aA 2 rfl (aD (hK17 _ (aL rfl (fun hc7=>?_) (fun hc7=>?_)))))))))))
   ·
    simp only[bs] at hc7
    refine aB (aE aA 2 rfl (aI hf rfl (aS gB rfl rfl rfl rfl (l2 rfl)) (bH hf rfl gB rfl rfl rfl (.inl rfl) (by simp only[List.length_map,List.length_append,List.length_cons,List.length_nil]) rfl (by first | rfl | simp [eK,bL]) (by first | (simp only[maxLen,List.length_map,List.length_append,List.length_cons,List.length_nil]; omega) | (simp [maxLen] <;> omega)) (by first | (simp only[List.length_map,List.length_append,List.length_cons,List.length_nil]; omega) | (simp <;> omega)) ?_)))
    refine bD (cX [46] rfl) (aE aA 1 rfl (aD (hK16 _ (aC (fun K18 hK18=>(aB (aE aA 2 rfl (aD (hK18 _ (aJ ?_))))))))))
    refine⟨_,rfl,?_⟩
    (refine(cI (g:=5) rfl (by simp only[List.length_append,List.length_map,List.length_cons,List.length_nil])).trans ?_; rw[aTr hI (by omega),if_neg (by simp_all),List.map_append]; rfl)
   ·
    simp only[bs] at hc7
    refine aN (hK16 _ (aC (fun K19 hK19=>(aB (aE aA 2 rfl (aD (hK19 _ (aJ ?_))))))))
    refine⟨_,rfl,?_⟩
    (refine(cI (g:=5) rfl (by simp only[List.length_map])).trans ?_; rw[aTr hI (by omega),if_pos (by assumption),List.append_nil])
theorem aN9 (l:List Sp) (hl:l.length≤100000000000) :Den Tryz.prog 132 [.sl 2 (l.map spC)]  (·=.sl 1 (gJ l |>.map aKx)):=by
 refine aR Tryz.func132 rfl (Nat.le_of_ble_eq_true rfl) (fun w0 A hf=>(aC (fun K1 hK1=>(aB (aH rfl (bK) (aD (hK1 _ (aC (fun K2 hK2=>(aB (aH rfl (yN (k:=1)) (aD (hK2 _ (aC (fun K3 hK3=>(aC (fun K4 hK4=>?_)))))))))))))))))
 refine aB (aE aA 1 rfl (aD (hK4 _ (aP (bT (ι:=Nat×List Int) (fun(⟨k,out⟩:Nat×List Int)=>⟨25,[(0,.sl 2 (l.map spC)),(3,.sl 1 (out.map aKx)),(4,.s (.int .i64 (k:Nat)))],[]⟩) (fun(⟨k,out⟩:Nat×List Int)=>k≤l.length∧out=(l.take k).foldl aT4 []∧out.length≤2*k) (fun(⟨k,out⟩:Nat×List Int)=>l.length - k) (0,[]) ?_ ?_ ?_)))))
 · exact⟨Nat.zero_le _,rfl,Nat.zero_le _⟩
 · exact cQ rfl
 ·
  rintro ⟨k,out⟩ hC
  obtain ⟨h1,h2,h3⟩:=hC
  refine aC (fun K5 hK5=>(aC (fun K6 hK6=>(aB (aE aA 4 rfl (aD (hK6 _ (aL rfl (fun hc1=>?_) (fun hc1=>?_)))))))))
  ·
   simp only[bs] at hc1
   refine aN (hK5 _ (aC (fun K7 hK7=>(aP (cP hf bE (by kernel_rfl) rfl (aV aA 3 rfl ?_))))))
   refine bQ [(12,_),(13,_)] rfl rfl ⟨⟨rfl,rfl⟩,⟨rfl,rfl⟩,trivial⟩ rfl (bG rfl rfl qB oI (by first | exact ixm (by omega) | assumption | exact⟨by decide,rfl⟩)) ?_
   refine aV aA 2 rfl (bJ [(11,_),(16,_)] rfl rfl ⟨⟨rfl,rfl⟩,⟨rfl,rfl⟩,trivial⟩ rfl (aK rfl rfl aDq rfl (aTs _ _ (by omega))) (aV aA 2 rfl ?_))
   refine bQ [(18,_),(19,_)] rfl rfl ⟨⟨rfl,rfl⟩,⟨rfl,rfl⟩,trivial⟩ rfl (bG rfl rfl qB oI (by first | exact ixm (by omega) | assumption | exact⟨by decide,rfl⟩)) ?_
   refine aV aA 2 rfl ?_
   have hp1:=wE out l[k].1
   refine bJ [(17,_),(22,_)] rfl rfl ⟨⟨rfl,rfl⟩,⟨rfl,rfl⟩,trivial⟩ rfl (aK rfl rfl aDq rfl (aTs _ _ (by omega))) (aV aA 1 rfl (cT [0,3,4] rfl rfl rfl (hK7 _ (aB (aE aA 1 rfl ?_)))))
   refine aH rfl (bO rfl rfl (by omega) (by omega)) ?_
   refine aE aA 1 rfl (aD ?_)
   exact⟨(k+1,lB (lB out l[k].1) l[k].2),⟨by omega,by rw[jL l aT4 [] k (by omega),← h2]; rfl,by have:=wE (lB out l[k].1) l[k].2; have:=wE out l[k].1; omega⟩,by simp only; omega,cQ rfl⟩
  ·
   simp only[bs] at hc1
   refine bF (hK3 _ (aC (fun K8 hK8=>(aB (aE aA 2 rfl (aD (hK8 _ (aJ ?_))))))))
   refine⟨_,rfl,?_⟩
   show AV.sl 1 (out.map aKx)=_
   rw[h2,List.take_of_length_le (by omega)]; rfl
theorem aN1 (out:List Sp) (s:Sp) (n:Nat) (hn:n=out.length) (hl:out.length≤1000000000000) :DenR Tryz.prog 133 [.own E0 2 0 n,.agg (spC s)] 2 ((out.map spC)) (·=(dU out s).map spC):=by
 refine aRx Tryz.func133 rfl (Nat.le_of_ble_eq_true rfl) (args':=[.own G0 2 0 n,.agg (spC s)]) rfl (fun w0 x0 A hf=>?_)
 refine aC (fun K1 hK1=>(aB (aI hf rfl (cE rfl rfl (lf rfl)) (aH rfl (bK) (aD (hK1 _ (aC (fun K2 hK2=>(aB (aE aA 3 rfl (aD (hK2 _ (aC (fun K3 hK3=>(aC (fun K4 hK4=>?_))))))))))))))))
 refine cP hf bE (by kernel_rfl) rfl (aV aA 3 rfl (fC 10 true rfl (fun hg1=>?_) (fun hg1=>?_)))
 ·
  simp only[bs] at hg1
  refine aV aA 2 rfl ?_
  refine bQ [(12,_)] rfl rfl ⟨⟨rfl,rfl⟩,trivial⟩ rfl (eZ rfl rfl (by omega) (by omega)) ?_
  refine bQ [(11,_),(13,_)] rfl rfl ⟨⟨rfl,rfl⟩,⟨rfl,rfl⟩,trivial⟩ rfl (cB rfl rfl qB oI (by omega)) ?_
  refine aV aA 1 rfl (bQ [(15,_)] rfl rfl ⟨⟨rfl,rfl⟩,trivial⟩ rfl (iW rfl lE rfl (c:=.s (.int .i64 (out[out.length - 1]'(by omega)).2)) (jD (c:=2) (k:=out.length - 1) (enc:=spC) (by omega) (by omega) 1)) (aV aA 4 rfl (cT [0,3,5,20] rfl rfl rfl (hK4 _ (aL rfl (fun hc2=>?_) (fun hc2=>?_))))))
  ·
   simp only[bs] at hc2
   refine aC (fun K5 hK5=>(eH bE ?_))
   refine bV (listed':=#[false,true,false,false,false,false,false,false,false,false,false,false,false,false,false,false,false,false]) 1 rfl (by kernel_rfl) (by kernel_rfl) (by kernel_rfl) rfl (fun _ _ h=>h) (eA rfl) ?_
   refine bV (listed':=#[false,true,true,false,false,false,false,false,false,false,false,false,false,false,false,false,false,false]) 2 rfl (by kernel_rfl) (by kernel_rfl) (by kernel_rfl) rfl (fun _ _ h=>h) (eA rfl) ?_
   refine bV (listed':=#[false,true,true,true,false,false,false,false,false,false,false,false,false,false,false,false,false,false]) 3 rfl (by kernel_rfl) (by kernel_rfl) (by kernel_rfl) rfl (fun _ _ h=>h) (aIs rfl rfl (by omega) (by omega)) ?_
   refine bV (listed':=#[false,true,true,true,true,false,false,false,false,false,false,false,false,false,false,false,false,false]) 4 rfl (by kernel_rfl) (by kernel_rfl) (by kernel_rfl) rfl (fun _ _ h=>h) (aL7 rfl qB oI rfl (pY rfl (by omega)) (by omega) (by omega)) ?_
   refine bV (listed':=#[false,true,true,true,true,false,true,false,false,false,false,false,false,false,false,false,false,false]) 6 rfl (by kernel_rfl) (by kernel_rfl) (by kernel_rfl) rfl (fun _ _ h=>h) (eA rfl) ?_
   refine bV (listed':=#[false,true,true,true,true,false,true,true,false,false,false,false,false,false,false,false,false,false]) 7 rfl (by kernel_rfl) (by kernel_rfl) (by kernel_rfl) rfl (fun _ _ h=>h) (eA rfl) ?_
   refine bV (listed':=#[false,true,true,true,true,false,true,true,true,false,false,false,false,false,false,false,false,false]) 8 rfl (by kernel_rfl) (by kernel_rfl) (by kernel_rfl) rfl (fun _ _ h=>h) (aIs rfl rfl (by omega) (by omega)) ?_
   refine bV (listed':=#[false,true,true,true,true,false,true,true,true,true,false,false,false,false,false,false,false,false]) 9 rfl (by kernel_rfl) (by kernel_rfl) (by kernel_rfl) rfl (fun _ _ h=>h) (lU rfl rfl qB oI (by omega)) ?_
   refine bV (listed':=#[false,true,true,true,true,false,true,true,true,true,true,false,false,false,false,false,false,false]) 10 rfl (by kernel_rfl) (by kernel_rfl) (by kernel_rfl) rfl (fun _ _ h=>h) (sZ rfl aO3 cA rfl) ?_
   refine bV (listed':=#[false,true,true,true,true,false,true,true,true,true,true,false,true,false,false,false,false,false]) 12 rfl (by kernel_rfl) (by kernel_rfl) (by kernel_rfl) rfl (fun _ _ h=>h) (jT rfl aO2 cA rfl) ?_
   refine kQ (cX [25,31,33] rfl) (aG 0 [11,13] (by kernel_rfl) ⟨?_,?_,?_,trivial⟩)
   ·
    refine⟨_,rfl,rfl,(ao rfl (dR hf rfl rfl rfl aY rfl rfl rfl rfl (l2 rfl) ?_))⟩
    refine aF (aG 5 [11,13] (by kernel_rfl) ⟨?_,?_,?_,trivial⟩)
    ·
     refine⟨_,rfl,rfl,(ao rfl (bH hf rfl aY rfl rfl rfl (.inl rfl) (by first | rfl | (simp only[List.length_map,List.length_nil]; omega) | simp) rfl (dG (l:=out) (j:=out.length - 1) rfl (by omega) (by omega) (by omega)) (by first | (simp only[maxLen,List.length_map,List.length_append,List.length_cons,List.length_nil]; omega) | (simp [maxLen] <;> omega)) (by first | (simp only[List.length_map,List.length_append,List.length_cons,List.length_nil]; omega) | (simp <;> omega)) ?_))⟩
     refine bD (cX [26,31,33] rfl) (aF (aG 11 [13] (by kernel_rfl) ⟨?_,?_,trivial⟩))
     ·
      refine⟨_,rfl,rfl,(ao rfl (aH rfl (iW rfl lE rfl (c:=.s (.int .i64 (out[out.length - 1]'(by omega)).1)) (jD (c:=2) (k:=out.length - 1) (enc:=spC) (by omega) (by omega) 0)) (aF (aG 13 [] (by kernel_rfl) ⟨?_,trivial⟩))))⟩
      ·
       refine⟨_,rfl,rfl,(ao rfl (aE aA 1 rfl (aF (aG 14 [] (by kernel_rfl) ⟨?_,trivial⟩))))⟩
       ·
        refine⟨_,rfl,rfl,(ao rfl (aH rfl (bR rfl eL dP (l3 rfl) rfl) (aF (aG 15 [] (by kernel_rfl) ⟨?_,trivial⟩))))⟩
        ·
         refine⟨_,rfl,rfl,(ao rfl (aI hf rfl (aS aY rfl rfl rfl rfl (l2 rfl)) (aF (aG 16 [] (by kernel_rfl) ⟨?_,trivial⟩))))⟩
         ·
          refine⟨_,rfl,rfl,(ao rfl (bH hf rfl aY rfl rfl rfl (.inl rfl) (by first | rfl | (simp only[List.length_map,List.length_nil]; omega) | simp) rfl (by first | rfl | simp [eK,bL]) (by first | (simp only[maxLen,List.length_map,List.length_append,List.length_cons,List.length_nil]; omega) | (simp [maxLen] <;> omega)) (by first | (simp only[List.length_map,List.length_append,List.length_cons,List.length_nil]; omega) | (simp <;> omega)) ?_))⟩
          refine bD (cX [37] rfl) (aF (aG 17 [] (by kernel_rfl) ⟨?_,trivial⟩))
          ·
           refine⟨_,rfl,rfl,(ao rfl (aE aA 1 rfl (aF (bX (by kernel_rfl) ?_))))⟩
           refine hK5 _ (aJ ?_)
           refine⟨21,(dU out s).map spC,by decide,?_,?_,rfl⟩
           · rw[cV (by omega) (by omega),List.map_append]; rfl
           · rw[cV (by omega) (by omega),List.map_append,List.length_append]
             show some (AV.own 21 2 0 (0+((out.take (out.length - 1)).map spC).length+1))=_
             rw[Nat.zero_add]; rfl
     ·
      refine⟨_,rfl,rfl,(ao rfl (aE aA 1 rfl (aF (aG 11 [] (by kernel_rfl) ⟨?_,trivial⟩))))⟩
      ·
       refine⟨_,rfl,rfl,(ao rfl (aH rfl (iW rfl lE rfl (c:=.s (.int .i64 (out[out.length - 1]'(by omega)).1)) (jD (c:=2) (k:=out.length - 1) (enc:=spC) (by omega) (by omega) 0)) (aF (aG 14 [] (by kernel_rfl) ⟨?_,trivial⟩))))⟩
       ·
        refine⟨_,rfl,rfl,(ao rfl (aH rfl (bR rfl eL dP (l3 rfl) rfl) (aF (aG 15 [] (by kernel_rfl) ⟨?_,trivial⟩))))⟩
        ·
         refine⟨_,rfl,rfl,(ao rfl (aI hf rfl (aS aY rfl rfl rfl rfl (l2 rfl)) (aF (aG 16 [] (by kernel_rfl) ⟨?_,trivial⟩))))⟩
         ·
          refine⟨_,rfl,rfl,(ao rfl (bH hf rfl aY rfl rfl rfl (.inl rfl) (by first | rfl | (simp only[List.length_map,List.length_nil]; omega) | simp) rfl (by first | rfl | simp [eK,bL]) (by first | (simp only[maxLen,List.length_map,List.length_append,List.length_cons,List.length_nil]; omega) | (simp [maxLen] <;> omega)) (by first | (simp only[List.length_map,List.length_append,List.length_cons,List.length_nil]; omega) | (simp <;> omega)) ?_))⟩
          refine bD (cX [37] rfl) (aF (aG 17 [] (by kernel_rfl) ⟨?_,trivial⟩))
          ·
           refine⟨_,rfl,rfl,(ao rfl (aE aA 1 rfl (aF (bX (by kernel_rfl) ?_))))⟩
           refine hK5 _ (aJ ?_)
           refine⟨21,(dU out s).map spC,by decide,?_,?_,rfl⟩
           · rw[cV (by omega) (by omega),List.map_append]; rfl
           · rw[cV (by omega) (by omega),List.map_append,List.length_append]
             show some (AV.own 21 2 0 (0+((out.take (out.length - 1)).map spC).length+1))=_
             rw[Nat.zero_add]; rfl
    ·
     refine⟨_,rfl,rfl,(ao rfl (aH rfl (iW rfl lE rfl (c:=.s (.int .i64 (out[out.length - 1]'(by omega)).1)) (jD (c:=2) (k:=out.length - 1) (enc:=spC) (by omega) (by omega) 0)) (aF (aG 5 [13] (by kernel_rfl) ⟨?_,?_,trivial⟩))))⟩
     ·
      refine⟨_,rfl,rfl,(ao rfl (bH hf rfl aY rfl rfl rfl (.inl rfl) (by first | rfl | (simp only[List.length_map,List.length_nil]; omega) | simp) rfl (dG (l:=out) (j:=out.length - 1) rfl (by omega) (by omega) (by omega)) (by first | (simp only[maxLen,List.length_map,List.length_append,List.length_cons,List.length_nil]; omega) | (simp [maxLen] <;> omega)) (by first | (simp only[List.length_map,List.length_append,List.length_cons,List.length_nil]; omega) | (simp <;> omega)) ?_))⟩
      refine bD (cX [26,32,33] rfl) (aF (aG 13 [] (by kernel_rfl) ⟨?_,trivial⟩))
      ·
       refine⟨_,rfl,rfl,(ao rfl (aE aA 1 rfl (aF (aG 14 [] (by kernel_rfl) ⟨?_,trivial⟩))))⟩
       ·
        refine⟨_,rfl,rfl,(ao rfl (aH rfl (bR rfl eL dP (l3 rfl) rfl) (aF (aG 15 [] (by kernel_rfl) ⟨?_,trivial⟩))))⟩
        ·
         refine⟨_,rfl,rfl,(ao rfl (aI hf rfl (aS aY rfl rfl rfl rfl (l2 rfl)) (aF (aG 16 [] (by kernel_rfl) ⟨?_,trivial⟩))))⟩
         ·
          refine⟨_,rfl,rfl,(ao rfl (bH hf rfl aY rfl rfl rfl (.inl rfl) (by first | rfl | (simp only[List.length_map,List.length_nil]; omega) | simp) rfl (by first | rfl | simp [eK,bL]) (by first | (simp only[maxLen,List.length_map,List.length_append,List.length_cons,List.length_nil]; omega) | (simp [maxLen] <;> omega)) (by first | (simp only[List.length_map,List.length_append,List.length_cons,List.length_nil]; omega) | (simp <;> omega)) ?_))⟩
          refine bD (cX [37] rfl) (aF (aG 17 [] (by kernel_rfl) ⟨?_,trivial⟩))
          ·
           refine⟨_,rfl,rfl,(ao rfl (aE aA 1 rfl (aF (bX (by kernel_rfl) ?_))))⟩
           refine hK5 _ (aJ ?_)
           refine⟨21,(dU out s).map spC,by decide,?_,?_,rfl⟩
           · rw[cV (by omega) (by omega),List.map_append]; rfl
           · rw[cV (by omega) (by omega),List.map_append,List.length_append]
             show some (AV.own 21 2 0 (0+((out.take (out.length - 1)).map spC).length+1))=_
             rw[Nat.zero_add]; rfl
     ·
      refine⟨_,rfl,rfl,(ao rfl (aE aA 1 rfl (aF (aG 5 [14] (by kernel_rfl) ⟨?_,?_,trivial⟩))))⟩
      ·
       refine⟨_,rfl,rfl,(ao rfl (bH hf rfl aY rfl rfl rfl (.inl rfl) (by first | rfl | (simp only[List.length_map,List.length_nil]; omega) | simp) rfl (dG (l:=out) (j:=out.length - 1) rfl (by omega) (by omega) (by omega)) (by first | (simp only[maxLen,List.length_map,List.length_append,List.length_cons,List.length_nil]; omega) | (simp [maxLen] <;> omega)) (by first | (simp only[List.length_map,List.length_append,List.length_cons,List.length_nil]; omega) | (simp <;> omega)) ?_))⟩
       refine bD (cX [26,32,34] rfl) (aF (aG 14 [] (by kernel_rfl) ⟨?_,trivial⟩))
       ·
        refine⟨_,rfl,rfl,(ao rfl (aH rfl (bR rfl eL dP (l3 rfl) rfl) (aF (aG 15 [] (by kernel_rfl) ⟨?_,trivial⟩))))⟩
        ·
         refine⟨_,rfl,rfl,(ao rfl (aI hf rfl (aS aY rfl rfl rfl rfl (l2 rfl)) (aF (aG 16 [] (by kernel_rfl) ⟨?_,trivial⟩))))⟩
         ·
          refine⟨_,rfl,rfl,(ao rfl (bH hf rfl aY rfl rfl rfl (.inl rfl) (by first | rfl | (simp only[List.length_map,List.length_nil]; omega) | simp) rfl (by first | rfl | simp [eK,bL]) (by first | (simp only[maxLen,List.length_map,List.length_append,List.length_cons,List.length_nil]; omega) | (simp [maxLen] <;> omega)) (by first | (simp only[List.length_map,List.length_append,List.length_cons,List.length_nil]; omega) | (simp <;> omega)) ?_))⟩
          refine bD (cX [37] rfl) (aF (aG 17 [] (by kernel_rfl) ⟨?_,trivial⟩))
          ·
           refine⟨_,rfl,rfl,(ao rfl (aE aA 1 rfl (aF (bX (by kernel_rfl) ?_))))⟩
           refine hK5 _ (aJ ?_)
           refine⟨21,(dU out s).map spC,by decide,?_,?_,rfl⟩
           · rw[cV (by omega) (by omega),List.map_append]; rfl
           · rw[cV (by omega) (by omega),List.map_append,List.length_append]
             show some (AV.own 21 2 0 (0+((out.take (out.length - 1)).map spC).length+1))=_
             rw[Nat.zero_add]; rfl
      ·
       refine⟨_,rfl,rfl,(ao rfl (aH rfl (bR rfl eL dP (l3 rfl) rfl) (aF (aG 5 [15] (by kernel_rfl) ⟨?_,?_,trivial⟩))))⟩
       ·
        refine⟨_,rfl,rfl,(ao rfl (bH hf rfl aY rfl rfl rfl (.inl rfl) (by first | rfl | (simp only[List.length_map,List.length_nil]; omega) | simp) rfl (dG (l:=out) (j:=out.length - 1) rfl (by omega) (by omega) (by omega)) (by first | (simp only[maxLen,List.length_map,List.length_append,List.length_cons,List.length_nil]; omega) | (simp [maxLen] <;> omega)) (by first | (simp only[List.length_map,List.length_append,List.length_cons,List.length_nil]; omega) | (simp <;> omega)) ?_))⟩
        refine bD (cX [26,35] rfl) (aF (aG 15 [] (by kernel_rfl) ⟨?_,trivial⟩))
        ·
         refine⟨_,rfl,rfl,(ao rfl (aI hf rfl (aS aY rfl rfl rfl rfl (l2 rfl)) (aF (aG 16 [] (by kernel_rfl) ⟨?_,trivial⟩))))⟩
         ·
          refine⟨_,rfl,rfl,(ao rfl (bH hf rfl aY rfl rfl rfl (.inl rfl) (by first | rfl | (simp only[List.length_map,List.length_nil]; omega) | simp) rfl (by first | rfl | simp [eK,bL]) (by first | (simp only[maxLen,List.length_map,List.length_append,List.length_cons,List.length_nil]; omega) | (simp [maxLen] <;> omega)) (by first | (simp only[List.length_map,List.length_append,List.length_cons,List.length_nil]; omega) | (simp <;> omega)) ?_))⟩
          refine bD (cX [37] rfl) (aF (aG 17 [] (by kernel_rfl) ⟨?_,trivial⟩))
          ·
           refine⟨_,rfl,rfl,(ao rfl (aE aA 1 rfl (aF (bX (by kernel_rfl) ?_))))⟩
           refine hK5 _ (aJ ?_)
           refine⟨21,(dU out s).map spC,by decide,?_,?_,rfl⟩
           · rw[cV (by omega) (by omega),List.map_append]; rfl
           · rw[cV (by omega) (by omega),List.map_append,List.length_append]
             show some (AV.own 21 2 0 (0+((out.take (out.length - 1)).map spC).length+1))=_
             rw[Nat.zero_add]; rfl
       ·
        refine⟨_,rfl,rfl,(ao rfl (aI hf rfl (aS aY rfl rfl rfl rfl (l2 rfl)) (aF (aG 5 [] (by kernel_rfl) ⟨?_,trivial⟩))))⟩
        ·
         refine⟨_,rfl,rfl,(ao rfl (bH hf rfl aY rfl rfl rfl (.inl rfl) (by first | rfl | (simp only[List.length_map,List.length_nil]; omega) | simp) rfl (dG (l:=out) (j:=out.length - 1) rfl (by omega) (by omega) (by omega)) (by first | (simp only[maxLen,List.length_map,List.length_append,List.length_cons,List.length_nil]; omega) | (simp [maxLen] <;> omega)) (by first | (simp only[List.length_map,List.length_append,List.length_cons,List.length_nil]; omega) | (simp <;> omega)) ?_))⟩
         refine bD (cX [26,36] rfl) (aF (aG 16 [] (by kernel_rfl) ⟨?_,trivial⟩))
         ·
          refine⟨_,rfl,rfl,(ao rfl (bH hf rfl aY rfl rfl rfl (.inl rfl) (by first | rfl | (simp only[List.length_map,List.length_nil]; omega) | simp) rfl (by first | rfl | simp [eK,bL]) (by first | (simp only[maxLen,List.length_map,List.length_append,List.length_cons,List.length_nil]; omega) | (simp [maxLen] <;> omega)) (by first | (simp only[List.length_map,List.length_append,List.length_cons,List.length_nil]; omega) | (simp <;> omega)) ?_))⟩
          refine bD (cX [37] rfl) (aF (aG 17 [] (by kernel_rfl) ⟨?_,trivial⟩))
          ·
           refine⟨_,rfl,rfl,(ao rfl (aE aA 1 rfl (aF (bX (by kernel_rfl) ?_))))⟩
           refine hK5 _ (aJ ?_)
           refine⟨21,(dU out s).map spC,by decide,?_,?_,rfl⟩
           · rw[cV (by omega) (by omega),List.map_append]; rfl
           · rw[cV (by omega) (by omega),List.map_append,List.length_append]
             show some (AV.own 21 2 0 (0+((out.take (out.length - 1)).map spC).length+1))=_
             rw[Nat.zero_add]; rfl
    ·
     refine⟨_,rfl,rfl,(ao rfl (aE aA 1 rfl (aF (aG 5 [11] (by kernel_rfl) ⟨?_,?_,trivial⟩))))⟩
     ·
      refine⟨_,rfl,rfl,(ao rfl (bH hf rfl aY rfl rfl rfl (.inl rfl) (by first | rfl | (simp only[List.length_map,List.length_nil]; omega) | simp) rfl (dG (l:=out) (j:=out.length - 1) rfl (by omega) (by omega) (by omega)) (by first | (simp only[maxLen,List.length_map,List.length_append,List.length_cons,List.length_nil]; omega) | (simp [maxLen] <;> omega)) (by first | (simp only[List.length_map,List.length_append,List.length_cons,List.length_nil]; omega) | (simp <;> omega)) ?_))⟩
      refine bD (cX [26,31,34] rfl) (aF (aG 11 [] (by kernel_rfl) ⟨?_,trivial⟩))
      ·
       refine⟨_,rfl,rfl,(ao rfl (aH rfl (iW rfl lE rfl (c:=.s (.int .i64 (out[out.length - 1]'(by omega)).1)) (jD (c:=2) (k:=out.length - 1) (enc:=spC) (by omega) (by omega) 0)) (aF (aG 14 [] (by kernel_rfl) ⟨?_,trivial⟩))))⟩
       ·
        refine⟨_,rfl,rfl,(ao rfl (aH rfl (bR rfl eL dP (l3 rfl) rfl) (aF (aG 15 [] (by kernel_rfl) ⟨?_,trivial⟩))))⟩
        ·
         refine⟨_,rfl,rfl,(ao rfl (aI hf rfl (aS aY rfl rfl rfl rfl (l2 rfl)) (aF (aG 16 [] (by kernel_rfl) ⟨?_,trivial⟩))))⟩
         ·
          refine⟨_,rfl,rfl,(ao rfl (bH hf rfl aY rfl rfl rfl (.inl rfl) (by first | rfl | (simp only[List.length_map,List.length_nil]; omega) | simp) rfl (by first | rfl | simp [eK,bL]) (by first | (simp only[maxLen,List.length_map,List.length_append,List.length_cons,List.length_nil]; omega) | (simp [maxLen] <;> omega)) (by first | (simp only[List.length_map,List.length_append,List.length_cons,List.length_nil]; omega) | (simp <;> omega)) ?_))⟩
          refine bD (cX [37] rfl) (aF (aG 17 [] (by kernel_rfl) ⟨?_,trivial⟩))
          ·
           refine⟨_,rfl,rfl,(ao rfl (aE aA 1 rfl (aF (bX (by kernel_rfl) ?_))))⟩
           refine hK5 _ (aJ ?_)
           refine⟨21,(dU out s).map spC,by decide,?_,?_,rfl⟩
           · rw[cV (by omega) (by omega),List.map_append]; rfl
           · rw[cV (by omega) (by omega),List.map_append,List.length_append]
             show some (AV.own 21 2 0 (0+((out.take (out.length - 1)).map spC).length+1))=_
             rw[Nat.zero_add]; rfl
     ·
      refine⟨_,rfl,rfl,(ao rfl (aH rfl (iW rfl lE rfl (c:=.s (.int .i64 (out[out.length - 1]'(by omega)).1)) (jD (c:=2) (k:=out.length - 1) (enc:=spC) (by omega) (by omega) 0)) (aF (aG 5 [14] (by kernel_rfl) ⟨?_,?_,trivial⟩))))⟩
      ·
       refine⟨_,rfl,rfl,(ao rfl (bH hf rfl aY rfl rfl rfl (.inl rfl) (by first | rfl | (simp only[List.length_map,List.length_nil]; omega) | simp) rfl (dG (l:=out) (j:=out.length - 1) rfl (by omega) (by omega) (by omega)) (by first | (simp only[maxLen,List.length_map,List.length_append,List.length_cons,List.length_nil]; omega) | (simp [maxLen] <;> omega)) (by first | (simp only[List.length_map,List.length_append,List.length_cons,List.length_nil]; omega) | (simp <;> omega)) ?_))⟩
       refine bD (cX [26,32,34] rfl) (aF (aG 14 [] (by kernel_rfl) ⟨?_,trivial⟩))
       ·
        refine⟨_,rfl,rfl,(ao rfl (aH rfl (bR rfl eL dP (l3 rfl) rfl) (aF (aG 15 [] (by kernel_rfl) ⟨?_,trivial⟩))))⟩
        ·
         refine⟨_,rfl,rfl,(ao rfl (aI hf rfl (aS aY rfl rfl rfl rfl (l2 rfl)) (aF (aG 16 [] (by kernel_rfl) ⟨?_,trivial⟩))))⟩
         ·
          refine⟨_,rfl,rfl,(ao rfl (bH hf rfl aY rfl rfl rfl (.inl rfl) (by first | rfl | (simp only[List.length_map,List.length_nil]; omega) | simp) rfl (by first | rfl | simp [eK,bL]) (by first | (simp only[maxLen,List.length_map,List.length_append,List.length_cons,List.length_nil]; omega) | (simp [maxLen] <;> omega)) (by first | (simp only[List.length_map,List.length_append,List.length_cons,List.length_nil]; omega) | (simp <;> omega)) ?_))⟩
          refine bD (cX [37] rfl) (aF (aG 17 [] (by kernel_rfl) ⟨?_,trivial⟩))
          ·
           refine⟨_,rfl,rfl,(ao rfl (aE aA 1 rfl (aF (bX (by kernel_rfl) ?_))))⟩
           refine hK5 _ (aJ ?_)
           refine⟨21,(dU out s).map spC,by decide,?_,?_,rfl⟩
           · rw[cV (by omega) (by omega),List.map_append]; rfl
           · rw[cV (by omega) (by omega),List.map_append,List.length_append]
             show some (AV.own 21 2 0 (0+((out.take (out.length - 1)).map spC).length+1))=_
             rw[Nat.zero_add]; rfl
      ·
       refine⟨_,rfl,rfl,(ao rfl (aH rfl (bR rfl eL dP (l3 rfl) rfl) (aF (aG 5 [15] (by kernel_rfl) ⟨?_,?_,trivial⟩))))⟩
       ·
        refine⟨_,rfl,rfl,(ao rfl (bH hf rfl aY rfl rfl rfl (.inl rfl) (by first | rfl | (simp only[List.length_map,List.length_nil]; omega) | simp) rfl (dG (l:=out) (j:=out.length - 1) rfl (by omega) (by omega) (by omega)) (by first | (simp only[maxLen,List.length_map,List.length_append,List.length_cons,List.length_nil]; omega) | (simp [maxLen] <;> omega)) (by first | (simp only[List.length_map,List.length_append,List.length_cons,List.length_nil]; omega) | (simp <;> omega)) ?_))⟩
        refine bD (cX [26,35] rfl) (aF (aG 15 [] (by kernel_rfl) ⟨?_,trivial⟩))
        ·
         refine⟨_,rfl,rfl,(ao rfl (aI hf rfl (aS aY rfl rfl rfl rfl (l2 rfl)) (aF (aG 16 [] (by kernel_rfl) ⟨?_,trivial⟩))))⟩
         ·
          refine⟨_,rfl,rfl,(ao rfl (bH hf rfl aY rfl rfl rfl (.inl rfl) (by first | rfl | (simp only[List.length_map,List.length_nil]; omega) | simp) rfl (by first | rfl | simp [eK,bL]) (by first | (simp only[maxLen,List.length_map,List.length_append,List.length_cons,List.length_nil]; omega) | (simp [maxLen] <;> omega)) (by first | (simp only[List.length_map,List.length_append,List.length_cons,List.length_nil]; omega) | (simp <;> omega)) ?_))⟩
          refine bD (cX [37] rfl) (aF (aG 17 [] (by kernel_rfl) ⟨?_,trivial⟩))
          ·
           refine⟨_,rfl,rfl,(ao rfl (aE aA 1 rfl (aF (bX (by kernel_rfl) ?_))))⟩
           refine hK5 _ (aJ ?_)
           refine⟨21,(dU out s).map spC,by decide,?_,?_,rfl⟩
           · rw[cV (by omega) (by omega),List.map_append]; rfl
           · rw[cV (by omega) (by omega),List.map_append,List.length_append]
             show some (AV.own 21 2 0 (0+((out.take (out.length - 1)).map spC).length+1))=_
             rw[Nat.zero_add]; rfl
       ·
        refine⟨_,rfl,rfl,(ao rfl (aI hf rfl (aS aY rfl rfl rfl rfl (l2 rfl)) (aF (aG 5 [] (by kernel_rfl) ⟨?_,trivial⟩))))⟩
        ·
         refine⟨_,rfl,rfl,(ao rfl (bH hf rfl aY rfl rfl rfl (.inl rfl) (by first | rfl | (simp only[List.length_map,List.length_nil]; omega) | simp) rfl (dG (l:=out) (j:=out.length - 1) rfl (by omega) (by omega) (by omega)) (by first | (simp only[maxLen,List.length_map,List.length_append,List.length_cons,List.length_nil]; omega) | (simp [maxLen] <;> omega)) (by first | (simp only[List.length_map,List.length_append,List.length_cons,List.length_nil]; omega) | (simp <;> omega)) ?_))⟩
         refine bD (cX [26,36] rfl) (aF (aG 16 [] (by kernel_rfl) ⟨?_,trivial⟩))
         ·
          refine⟨_,rfl,rfl,(ao rfl (bH hf rfl aY rfl rfl rfl (.inl rfl) (by first | rfl | (simp only[List.length_map,List.length_nil]; omega) | simp) rfl (by first | rfl | simp [eK,bL]) (by first | (simp only[maxLen,List.length_map,List.length_append,List.length_cons,List.length_nil]; omega) | (simp [maxLen] <;> omega)) (by first | (simp only[List.length_map,List.length_append,List.length_cons,List.length_nil]; omega) | (simp <;> omega)) ?_))⟩
          refine bD (cX [37] rfl) (aF (aG 17 [] (by kernel_rfl) ⟨?_,trivial⟩))
          ·
           refine⟨_,rfl,rfl,(ao rfl (aE aA 1 rfl (aF (bX (by kernel_rfl) ?_))))⟩
           refine hK5 _ (aJ ?_)
           refine⟨21,(dU out s).map spC,by decide,?_,?_,rfl⟩
           · rw[cV (by omega) (by omega),List.map_append]; rfl
           · rw[cV (by omega) (by omega),List.map_append,List.length_append]
             show some (AV.own 21 2 0 (0+((out.take (out.length - 1)).map spC).length+1))=_
             rw[Nat.zero_add]; rfl
   ·
    refine⟨_,rfl,rfl,(ao rfl (aH rfl (iW rfl lE rfl (c:=.s (.int .i64 (out[out.length - 1]'(by omega)).1)) (jD (c:=2) (k:=out.length - 1) (enc:=spC) (by omega) (by omega) 0)) (aF (aG 0 [13] (by kernel_rfl) ⟨?_,?_,trivial⟩))))⟩
    ·
     refine⟨_,rfl,rfl,(ao rfl (dR hf rfl rfl rfl aY rfl rfl rfl rfl (l2 rfl) ?_))⟩
     refine aF (aG 5 [13] (by kernel_rfl) ⟨?_,?_,trivial⟩)
     ·
      refine⟨_,rfl,rfl,(ao rfl (bH hf rfl aY rfl rfl rfl (.inl rfl) (by first | rfl | (simp only[List.length_map,List.length_nil]; omega) | simp) rfl (dG (l:=out) (j:=out.length - 1) rfl (by omega) (by omega) (by omega)) (by first | (simp only[maxLen,List.length_map,List.length_append,List.length_cons,List.length_nil]; omega) | (simp [maxLen] <;> omega)) (by first | (simp only[List.length_map,List.length_append,List.length_cons,List.length_nil]; omega) | (simp <;> omega)) ?_))⟩
      refine bD (cX [26,32,33] rfl) (aF (aG 13 [] (by kernel_rfl) ⟨?_,trivial⟩))
      ·
       refine⟨_,rfl,rfl,(ao rfl (aE aA 1 rfl (aF (aG 14 [] (by kernel_rfl) ⟨?_,trivial⟩))))⟩
       ·
        refine⟨_,rfl,rfl,(ao rfl (aH rfl (bR rfl eL dP (l3 rfl) rfl) (aF (aG 15 [] (by kernel_rfl) ⟨?_,trivial⟩))))⟩
        ·
         refine⟨_,rfl,rfl,(ao rfl (aI hf rfl (aS aY rfl rfl rfl rfl (l2 rfl)) (aF (aG 16 [] (by kernel_rfl) ⟨?_,trivial⟩))))⟩
         ·
          refine⟨_,rfl,rfl,(ao rfl (bH hf rfl aY rfl rfl rfl (.inl rfl) (by first | rfl | (simp only[List.length_map,List.length_nil]; omega) | simp) rfl (by first | rfl | simp [eK,bL]) (by first | (simp only[maxLen,List.length_map,List.length_append,List.length_cons,List.length_nil]; omega) | (simp [maxLen] <;> omega)) (by first | (simp only[List.length_map,List.length_append,List.length_cons,List.length_nil]; omega) | (simp <;> omega)) ?_))⟩
          refine bD (cX [37] rfl) (aF (aG 17 [] (by kernel_rfl) ⟨?_,trivial⟩))
          ·
           refine⟨_,rfl,rfl,(ao rfl (aE aA 1 rfl (aF (bX (by kernel_rfl) ?_))))⟩
           refine hK5 _ (aJ ?_)
           refine⟨21,(dU out s).map spC,by decide,?_,?_,rfl⟩
           · rw[cV (by omega) (by omega),List.map_append]; rfl
           · rw[cV (by omega) (by omega),List.map_append,List.length_append]
             show some (AV.own 21 2 0 (0+((out.take (out.length - 1)).map spC).length+1))=_
             rw[Nat.zero_add]; rfl
     ·
      refine⟨_,rfl,rfl,(ao rfl (aE aA 1 rfl (aF (aG 5 [14] (by kernel_rfl) ⟨?_,?_,trivial⟩))))⟩
      ·
       refine⟨_,rfl,rfl,(ao rfl (bH hf rfl aY rfl rfl rfl (.inl rfl) (by first | rfl | (simp only[List.length_map,List.length_nil]; omega) | simp) rfl (dG (l:=out) (j:=out.length - 1) rfl (by omega) (by omega) (by omega)) (by first | (simp only[maxLen,List.length_map,List.length_append,List.length_cons,List.length_nil]; omega) | (simp [maxLen] <;> omega)) (by first | (simp only[List.length_map,List.length_append,List.length_cons,List.length_nil]; omega) | (simp <;> omega)) ?_))⟩
       refine bD (cX [26,32,34] rfl) (aF (aG 14 [] (by kernel_rfl) ⟨?_,trivial⟩))
       ·
        refine⟨_,rfl,rfl,(ao rfl (aH rfl (bR rfl eL dP (l3 rfl) rfl) (aF (aG 15 [] (by kernel_rfl) ⟨?_,trivial⟩))))⟩
        ·
         refine⟨_,rfl,rfl,(ao rfl (aI hf rfl (aS aY rfl rfl rfl rfl (l2 rfl)) (aF (aG 16 [] (by kernel_rfl) ⟨?_,trivial⟩))))⟩
         ·
          refine⟨_,rfl,rfl,(ao rfl (bH hf rfl aY rfl rfl rfl (.inl rfl) (by first | rfl | (simp only[List.length_map,List.length_nil]; omega) | simp) rfl (by first | rfl | simp [eK,bL]) (by first | (simp only[maxLen,List.length_map,List.length_append,List.length_cons,List.length_nil]; omega) | (simp [maxLen] <;> omega)) (by first | (simp only[List.length_map,List.length_append,List.length_cons,List.length_nil]; omega) | (simp <;> omega)) ?_))⟩
          refine bD (cX [37] rfl) (aF (aG 17 [] (by kernel_rfl) ⟨?_,trivial⟩))
          ·
           refine⟨_,rfl,rfl,(ao rfl (aE aA 1 rfl (aF (bX (by kernel_rfl) ?_))))⟩
           refine hK5 _ (aJ ?_)
           refine⟨21,(dU out s).map spC,by decide,?_,?_,rfl⟩
           · rw[cV (by omega) (by omega),List.map_append]; rfl
           · rw[cV (by omega) (by omega),List.map_append,List.length_append]
             show some (AV.own 21 2 0 (0+((out.take (out.length - 1)).map spC).length+1))=_
             rw[Nat.zero_add]; rfl
      ·
       refine⟨_,rfl,rfl,(ao rfl (aH rfl (bR rfl eL dP (l3 rfl) rfl) (aF (aG 5 [15] (by kernel_rfl) ⟨?_,?_,trivial⟩))))⟩
       ·
        refine⟨_,rfl,rfl,(ao rfl (bH hf rfl aY rfl rfl rfl (.inl rfl) (by first | rfl | (simp only[List.length_map,List.length_nil]; omega) | simp) rfl (dG (l:=out) (j:=out.length - 1) rfl (by omega) (by omega) (by omega)) (by first | (simp only[maxLen,List.length_map,List.length_append,List.length_cons,List.length_nil]; omega) | (simp [maxLen] <;> omega)) (by first | (simp only[List.length_map,List.length_append,List.length_cons,List.length_nil]; omega) | (simp <;> omega)) ?_))⟩
        refine bD (cX [26,35] rfl) (aF (aG 15 [] (by kernel_rfl) ⟨?_,trivial⟩))
        ·
         refine⟨_,rfl,rfl,(ao rfl (aI hf rfl (aS aY rfl rfl rfl rfl (l2 rfl)) (aF (aG 16 [] (by kernel_rfl) ⟨?_,trivial⟩))))⟩
         ·
          refine⟨_,rfl,rfl,(ao rfl (bH hf rfl aY rfl rfl rfl (.inl rfl) (by first | rfl | (simp only[List.length_map,List.length_nil]; omega) | simp) rfl (by first | rfl | simp [eK,bL]) (by first | (simp only[maxLen,List.length_map,List.length_append,List.length_cons,List.length_nil]; omega) | (simp [maxLen] <;> omega)) (by first | (simp only[List.length_map,List.length_append,List.length_cons,List.length_nil]; omega) | (simp <;> omega)) ?_))⟩
          refine bD (cX [37] rfl) (aF (aG 17 [] (by kernel_rfl) ⟨?_,trivial⟩))
          ·
           refine⟨_,rfl,rfl,(ao rfl (aE aA 1 rfl (aF (bX (by kernel_rfl) ?_))))⟩
           refine hK5 _ (aJ ?_)
           refine⟨21,(dU out s).map spC,by decide,?_,?_,rfl⟩
           · rw[cV (by omega) (by omega),List.map_append]; rfl
           · rw[cV (by omega) (by omega),List.map_append,List.length_append]
             show some (AV.own 21 2 0 (0+((out.take (out.length - 1)).map spC).length+1))=_
             rw[Nat.zero_add]; rfl
       ·
        refine⟨_,rfl,rfl,(ao rfl (aI hf rfl (aS aY rfl rfl rfl rfl (l2 rfl)) (aF (aG 5 [] (by kernel_rfl) ⟨?_,trivial⟩))))⟩
        ·
         refine⟨_,rfl,rfl,(ao rfl (bH hf rfl aY rfl rfl rfl (.inl rfl) (by first | rfl | (simp only[List.length_map,List.length_nil]; omega) | simp) rfl (dG (l:=out) (j:=out.length - 1) rfl (by omega) (by omega) (by omega)) (by first | (simp only[maxLen,List.length_map,List.length_append,List.length_cons,List.length_nil]; omega) | (simp [maxLen] <;> omega)) (by first | (simp only[List.length_map,List.length_append,List.length_cons,List.length_nil]; omega) | (simp <;> omega)) ?_))⟩
         refine bD (cX [26,36] rfl) (aF (aG 16 [] (by kernel_rfl) ⟨?_,trivial⟩))
         ·
          refine⟨_,rfl,rfl,(ao rfl (bH hf rfl aY rfl rfl rfl (.inl rfl) (by first | rfl | (simp only[List.length_map,List.length_nil]; omega) | simp) rfl (by first | rfl | simp [eK,bL]) (by first | (simp only[maxLen,List.length_map,List.length_append,List.length_cons,List.length_nil]; omega) | (simp [maxLen] <;> omega)) (by first | (simp only[List.length_map,List.length_append,List.length_cons,List.length_nil]; omega) | (simp <;> omega)) ?_))⟩
          refine bD (cX [37] rfl) (aF (aG 17 [] (by kernel_rfl) ⟨?_,trivial⟩))
          ·
           refine⟨_,rfl,rfl,(ao rfl (aE aA 1 rfl (aF (bX (by kernel_rfl) ?_))))⟩
           refine hK5 _ (aJ ?_)
           refine⟨21,(dU out s).map spC,by decide,?_,?_,rfl⟩
           · rw[cV (by omega) (by omega),List.map_append]; rfl
           · rw[cV (by omega) (by omega),List.map_append,List.length_append]
             show some (AV.own 21 2 0 (0+((out.take (out.length - 1)).map spC).length+1))=_
             rw[Nat.zero_add]; rfl
    ·
     refine⟨_,rfl,rfl,(ao rfl (aE aA 1 rfl (aF (aG 0 [14] (by kernel_rfl) ⟨?_,?_,trivial⟩))))⟩
     ·
      refine⟨_,rfl,rfl,(ao rfl (dR hf rfl rfl rfl aY rfl rfl rfl rfl (l2 rfl) ?_))⟩
      refine aF (aG 5 [14] (by kernel_rfl) ⟨?_,?_,trivial⟩)
      ·
       refine⟨_,rfl,rfl,(ao rfl (bH hf rfl aY rfl rfl rfl (.inl rfl) (by first | rfl | (simp only[List.length_map,List.length_nil]; omega) | simp) rfl (dG (l:=out) (j:=out.length - 1) rfl (by omega) (by omega) (by omega)) (by first | (simp only[maxLen,List.length_map,List.length_append,List.length_cons,List.length_nil]; omega) | (simp [maxLen] <;> omega)) (by first | (simp only[List.length_map,List.length_append,List.length_cons,List.length_nil]; omega) | (simp <;> omega)) ?_))⟩
       refine bD (cX [26,32,34] rfl) (aF (aG 14 [] (by kernel_rfl) ⟨?_,trivial⟩))
       ·
        refine⟨_,rfl,rfl,(ao rfl (aH rfl (bR rfl eL dP (l3 rfl) rfl) (aF (aG 15 [] (by kernel_rfl) ⟨?_,trivial⟩))))⟩
        ·
         refine⟨_,rfl,rfl,(ao rfl (aI hf rfl (aS aY rfl rfl rfl rfl (l2 rfl)) (aF (aG 16 [] (by kernel_rfl) ⟨?_,trivial⟩))))⟩
         ·
          refine⟨_,rfl,rfl,(ao rfl (bH hf rfl aY rfl rfl rfl (.inl rfl) (by first | rfl | (simp only[List.length_map,List.length_nil]; omega) | simp) rfl (by first | rfl | simp [eK,bL]) (by first | (simp only[maxLen,List.length_map,List.length_append,List.length_cons,List.length_nil]; omega) | (simp [maxLen] <;> omega)) (by first | (simp only[List.length_map,List.length_append,List.length_cons,List.length_nil]; omega) | (simp <;> omega)) ?_))⟩
          refine bD (cX [37] rfl) (aF (aG 17 [] (by kernel_rfl) ⟨?_,trivial⟩))
          ·
           refine⟨_,rfl,rfl,(ao rfl (aE aA 1 rfl (aF (bX (by kernel_rfl) ?_))))⟩
           refine hK5 _ (aJ ?_)
           refine⟨21,(dU out s).map spC,by decide,?_,?_,rfl⟩
           · rw[cV (by omega) (by omega),List.map_append]; rfl
           · rw[cV (by omega) (by omega),List.map_append,List.length_append]
             show some (AV.own 21 2 0 (0+((out.take (out.length - 1)).map spC).length+1))=_
             rw[Nat.zero_add]; rfl
      ·
       refine⟨_,rfl,rfl,(ao rfl (aH rfl (bR rfl eL dP (l3 rfl) rfl) (aF (aG 5 [15] (by kernel_rfl) ⟨?_,?_,trivial⟩))))⟩
       ·
        refine⟨_,rfl,rfl,(ao rfl (bH hf rfl aY rfl rfl rfl (.inl rfl) (by first | rfl | (simp only[List.length_map,List.length_nil]; omega) | simp) rfl (dG (l:=out) (j:=out.length - 1) rfl (by omega) (by omega) (by omega)) (by first | (simp only[maxLen,List.length_map,List.length_append,List.length_cons,List.length_nil]; omega) | (simp [maxLen] <;> omega)) (by first | (simp only[List.length_map,List.length_append,List.length_cons,List.length_nil]; omega) | (simp <;> omega)) ?_))⟩
        refine bD (cX [26,35] rfl) (aF (aG 15 [] (by kernel_rfl) ⟨?_,trivial⟩))
        ·
         refine⟨_,rfl,rfl,(ao rfl (aI hf rfl (aS aY rfl rfl rfl rfl (l2 rfl)) (aF (aG 16 [] (by kernel_rfl) ⟨?_,trivial⟩))))⟩
         ·
          refine⟨_,rfl,rfl,(ao rfl (bH hf rfl aY rfl rfl rfl (.inl rfl) (by first | rfl | (simp only[List.length_map,List.length_nil]; omega) | simp) rfl (by first | rfl | simp [eK,bL]) (by first | (simp only[maxLen,List.length_map,List.length_append,List.length_cons,List.length_nil]; omega) | (simp [maxLen] <;> omega)) (by first | (simp only[List.length_map,List.length_append,List.length_cons,List.length_nil]; omega) | (simp <;> omega)) ?_))⟩
          refine bD (cX [37] rfl) (aF (aG 17 [] (by kernel_rfl) ⟨?_,trivial⟩))
          ·
           refine⟨_,rfl,rfl,(ao rfl (aE aA 1 rfl (aF (bX (by kernel_rfl) ?_))))⟩
           refine hK5 _ (aJ ?_)
           refine⟨21,(dU out s).map spC,by decide,?_,?_,rfl⟩
           · rw[cV (by omega) (by omega),List.map_append]; rfl
           · rw[cV (by omega) (by omega),List.map_append,List.length_append]
             show some (AV.own 21 2 0 (0+((out.take (out.length - 1)).map spC).length+1))=_
             rw[Nat.zero_add]; rfl
       ·
        refine⟨_,rfl,rfl,(ao rfl (aI hf rfl (aS aY rfl rfl rfl rfl (l2 rfl)) (aF (aG 5 [] (by kernel_rfl) ⟨?_,trivial⟩))))⟩
        ·
         refine⟨_,rfl,rfl,(ao rfl (bH hf rfl aY rfl rfl rfl (.inl rfl) (by first | rfl | (simp only[List.length_map,List.length_nil]; omega) | simp) rfl (dG (l:=out) (j:=out.length - 1) rfl (by omega) (by omega) (by omega)) (by first | (simp only[maxLen,List.length_map,List.length_append,List.length_cons,List.length_nil]; omega) | (simp [maxLen] <;> omega)) (by first | (simp only[List.length_map,List.length_append,List.length_cons,List.length_nil]; omega) | (simp <;> omega)) ?_))⟩
         refine bD (cX [26,36] rfl) (aF (aG 16 [] (by kernel_rfl) ⟨?_,trivial⟩))
         ·
          refine⟨_,rfl,rfl,(ao rfl (bH hf rfl aY rfl rfl rfl (.inl rfl) (by first | rfl | (simp only[List.length_map,List.length_nil]; omega) | simp) rfl (by first | rfl | simp [eK,bL]) (by first | (simp only[maxLen,List.length_map,List.length_append,List.length_cons,List.length_nil]; omega) | (simp [maxLen] <;> omega)) (by first | (simp only[List.length_map,List.length_append,List.length_cons,List.length_nil]; omega) | (simp <;> omega)) ?_))⟩
          refine bD (cX [37] rfl) (aF (aG 17 [] (by kernel_rfl) ⟨?_,trivial⟩))
          ·
           refine⟨_,rfl,rfl,(ao rfl (aE aA 1 rfl (aF (bX (by kernel_rfl) ?_))))⟩
           refine hK5 _ (aJ ?_)
           refine⟨21,(dU out s).map spC,by decide,?_,?_,rfl⟩
           · rw[cV (by omega) (by omega),List.map_append]; rfl
           · rw[cV (by omega) (by omega),List.map_append,List.length_append]
             show some (AV.own 21 2 0 (0+((out.take (out.length - 1)).map spC).length+1))=_
             rw[Nat.zero_add]; rfl
     ·
      refine⟨_,rfl,rfl,(ao rfl (aH rfl (bR rfl eL dP (l3 rfl) rfl) (aF (aG 0 [15] (by kernel_rfl) ⟨?_,?_,trivial⟩))))⟩
      ·
       refine⟨_,rfl,rfl,(ao rfl (dR hf rfl rfl rfl aY rfl rfl rfl rfl (l2 rfl) ?_))⟩
       refine aF (aG 5 [15] (by kernel_rfl) ⟨?_,?_,trivial⟩)
       ·
        refine⟨_,rfl,rfl,(ao rfl (bH hf rfl aY rfl rfl rfl (.inl rfl) (by first | rfl | (simp only[List.length_map,List.length_nil]; omega) | simp) rfl (dG (l:=out) (j:=out.length - 1) rfl (by omega) (by omega) (by omega)) (by first | (simp only[maxLen,List.length_map,List.length_append,List.length_cons,List.length_nil]; omega) | (simp [maxLen] <;> omega)) (by first | (simp only[List.length_map,List.length_append,List.length_cons,List.length_nil]; omega) | (simp <;> omega)) ?_))⟩
        refine bD (cX [26,35] rfl) (aF (aG 15 [] (by kernel_rfl) ⟨?_,trivial⟩))
        ·
         refine⟨_,rfl,rfl,(ao rfl (aI hf rfl (aS aY rfl rfl rfl rfl (l2 rfl)) (aF (aG 16 [] (by kernel_rfl) ⟨?_,trivial⟩))))⟩
         ·
          refine⟨_,rfl,rfl,(ao rfl (bH hf rfl aY rfl rfl rfl (.inl rfl) (by first | rfl | (simp only[List.length_map,List.length_nil]; omega) | simp) rfl (by first | rfl | simp [eK,bL]) (by first | (simp only[maxLen,List.length_map,List.length_append,List.length_cons,List.length_nil]; omega) | (simp [maxLen] <;> omega)) (by first | (simp only[List.length_map,List.length_append,List.length_cons,List.length_nil]; omega) | (simp <;> omega)) ?_))⟩
          refine bD (cX [37] rfl) (aF (aG 17 [] (by kernel_rfl) ⟨?_,trivial⟩))
          ·
           refine⟨_,rfl,rfl,(ao rfl (aE aA 1 rfl (aF (bX (by kernel_rfl) ?_))))⟩
           refine hK5 _ (aJ ?_)
           refine⟨21,(dU out s).map spC,by decide,?_,?_,rfl⟩
           · rw[cV (by omega) (by omega),List.map_append]; rfl
           · rw[cV (by omega) (by omega),List.map_append,List.length_append]
             show some (AV.own 21 2 0 (0+((out.take (out.length - 1)).map spC).length+1))=_
             rw[Nat.zero_add]; rfl
       ·
        refine⟨_,rfl,rfl,(ao rfl (aI hf rfl (aS aY rfl rfl rfl rfl (l2 rfl)) (aF (aG 5 [] (by kernel_rfl) ⟨?_,trivial⟩))))⟩
        ·
         refine⟨_,rfl,rfl,(ao rfl (bH hf rfl aY rfl rfl rfl (.inl rfl) (by first | rfl | (simp only[List.length_map,List.length_nil]; omega) | simp) rfl (dG (l:=out) (j:=out.length - 1) rfl (by omega) (by omega) (by omega)) (by first | (simp only[maxLen,List.length_map,List.length_append,List.length_cons,List.length_nil]; omega) | (simp [maxLen] <;> omega)) (by first | (simp only[List.length_map,List.length_append,List.length_cons,List.length_nil]; omega) | (simp <;> omega)) ?_))⟩
         refine bD (cX [26,36] rfl) (aF (aG 16 [] (by kernel_rfl) ⟨?_,trivial⟩))
         ·
          refine⟨_,rfl,rfl,(ao rfl (bH hf rfl aY rfl rfl rfl (.inl rfl) (by first | rfl | (simp only[List.length_map,List.length_nil]; omega) | simp) rfl (by first | rfl | simp [eK,bL]) (by first | (simp only[maxLen,List.length_map,List.length_append,List.length_cons,List.length_nil]; omega) | (simp [maxLen] <;> omega)) (by first | (simp only[List.length_map,List.length_append,List.length_cons,List.length_nil]; omega) | (simp <;> omega)) ?_))⟩
          refine bD (cX [37] rfl) (aF (aG 17 [] (by kernel_rfl) ⟨?_,trivial⟩))
          ·
           refine⟨_,rfl,rfl,(ao rfl (aE aA 1 rfl (aF (bX (by kernel_rfl) ?_))))⟩
           refine hK5 _ (aJ ?_)
           refine⟨21,(dU out s).map spC,by decide,?_,?_,rfl⟩
           · rw[cV (by omega) (by omega),List.map_append]; rfl
           · rw[cV (by omega) (by omega),List.map_append,List.length_append]
             show some (AV.own 21 2 0 (0+((out.take (out.length - 1)).map spC).length+1))=_
             rw[Nat.zero_add]; rfl
      ·
       refine⟨_,rfl,rfl,(ao rfl (aI hf rfl (aS aY rfl rfl rfl rfl (l2 rfl)) (aF (aG 0 [] (by kernel_rfl) ⟨?_,trivial⟩))))⟩
       ·
        refine⟨_,rfl,rfl,(ao rfl (dR hf rfl rfl rfl aY rfl rfl rfl rfl (l2 rfl) ?_))⟩
        refine aF (aG 5 [] (by kernel_rfl) ⟨?_,trivial⟩)
        ·
         refine⟨_,rfl,rfl,(ao rfl (bH hf rfl aY rfl rfl rfl (.inl rfl) (by first | rfl | (simp only[List.length_map,List.length_nil]; omega) | simp) rfl (dG (l:=out) (j:=out.length - 1) rfl (by omega) (by omega) (by omega)) (by first | (simp only[maxLen,List.length_map,List.length_append,List.length_cons,List.length_nil]; omega) | (simp [maxLen] <;> omega)) (by first | (simp only[List.length_map,List.length_append,List.length_cons,List.length_nil]; omega) | (simp <;> omega)) ?_))⟩
         refine bD (cX [26,36] rfl) (aF (aG 16 [] (by kernel_rfl) ⟨?_,trivial⟩))
         ·
          refine⟨_,rfl,rfl,(ao rfl (bH hf rfl aY rfl rfl rfl (.inl rfl) (by first | rfl | (simp only[List.length_map,List.length_nil]; omega) | simp) rfl (by first | rfl | simp [eK,bL]) (by first | (simp only[maxLen,List.length_map,List.length_append,List.length_cons,List.length_nil]; omega) | (simp [maxLen] <;> omega)) (by first | (simp only[List.length_map,List.length_append,List.length_cons,List.length_nil]; omega) | (simp <;> omega)) ?_))⟩
          refine bD (cX [37] rfl) (aF (aG 17 [] (by kernel_rfl) ⟨?_,trivial⟩))
          ·
           refine⟨_,rfl,rfl,(ao rfl (aE aA 1 rfl (aF (bX (by kernel_rfl) ?_))))⟩
           refine hK5 _ (aJ ?_)
           refine⟨21,(dU out s).map spC,by decide,?_,?_,rfl⟩
           · rw[cV (by omega) (by omega),List.map_append]; rfl
           · rw[cV (by omega) (by omega),List.map_append,List.length_append]
             show some (AV.own 21 2 0 (0+((out.take (out.length - 1)).map spC).length+1))=_
             rw[Nat.zero_add]; rfl
   ·
    refine⟨_,rfl,rfl,(ao rfl (aE aA 1 rfl (aF (aG 0 [11] (by kernel_rfl) ⟨?_,?_,trivial⟩))))⟩
    ·
     refine⟨_,rfl,rfl,(ao rfl (dR hf rfl rfl rfl aY rfl rfl rfl rfl (l2 rfl) ?_))⟩
     refine aF (aG 5 [11] (by kernel_rfl) ⟨?_,?_,trivial⟩)
     ·
      refine⟨_,rfl,rfl,(ao rfl (bH hf rfl aY rfl rfl rfl (.inl rfl) (by first | rfl | (simp only[List.length_map,List.length_nil]; omega) | simp) rfl (dG (l:=out) (j:=out.length - 1) rfl (by omega) (by omega) (by omega)) (by first | (simp only[maxLen,List.length_map,List.length_append,List.length_cons,List.length_nil]; omega) | (simp [maxLen] <;> omega)) (by first | (simp only[List.length_map,List.length_append,List.length_cons,List.length_nil]; omega) | (simp <;> omega)) ?_))⟩
      refine bD (cX [26,31,34] rfl) (aF (aG 11 [] (by kernel_rfl) ⟨?_,trivial⟩))
      ·
       refine⟨_,rfl,rfl,(ao rfl (aH rfl (iW rfl lE rfl (c:=.s (.int .i64 (out[out.length - 1]'(by omega)).1)) (jD (c:=2) (k:=out.length - 1) (enc:=spC) (by omega) (by omega) 0)) (aF (aG 14 [] (by kernel_rfl) ⟨?_,trivial⟩))))⟩
       ·
        refine⟨_,rfl,rfl,(ao rfl (aH rfl (bR rfl eL dP (l3 rfl) rfl) (aF (aG 15 [] (by kernel_rfl) ⟨?_,trivial⟩))))⟩
        ·
         refine⟨_,rfl,rfl,(ao rfl (aI hf rfl (aS aY rfl rfl rfl rfl (l2 rfl)) (aF (aG 16 [] (by kernel_rfl) ⟨?_,trivial⟩))))⟩
         ·
          refine⟨_,rfl,rfl,(ao rfl (bH hf rfl aY rfl rfl rfl (.inl rfl) (by first | rfl | (simp only[List.length_map,List.length_nil]; omega) | simp) rfl (by first | rfl | simp [eK,bL]) (by first | (simp only[maxLen,List.length_map,List.length_append,List.length_cons,List.length_nil]; omega) | (simp [maxLen] <;> omega)) (by first | (simp only[List.length_map,List.length_append,List.length_cons,List.length_nil]; omega) | (simp <;> omega)) ?_))⟩
          refine bD (cX [37] rfl) (aF (aG 17 [] (by kernel_rfl) ⟨?_,trivial⟩))
          ·
           refine⟨_,rfl,rfl,(ao rfl (aE aA 1 rfl (aF (bX (by kernel_rfl) ?_))))⟩
           refine hK5 _ (aJ ?_)
           refine⟨21,(dU out s).map spC,by decide,?_,?_,rfl⟩
           · rw[cV (by omega) (by omega),List.map_append]; rfl
           · rw[cV (by omega) (by omega),List.map_append,List.length_append]
             show some (AV.own 21 2 0 (0+((out.take (out.length - 1)).map spC).length+1))=_
             rw[Nat.zero_add]; rfl
     ·
      refine⟨_,rfl,rfl,(ao rfl (aH rfl (iW rfl lE rfl (c:=.s (.int .i64 (out[out.length - 1]'(by omega)).1)) (jD (c:=2) (k:=out.length - 1) (enc:=spC) (by omega) (by omega) 0)) (aF (aG 5 [14] (by kernel_rfl) ⟨?_,?_,trivial⟩))))⟩
      ·
       refine⟨_,rfl,rfl,(ao rfl (bH hf rfl aY rfl rfl rfl (.inl rfl) (by first | rfl | (simp only[List.length_map,List.length_nil]; omega) | simp) rfl (dG (l:=out) (j:=out.length - 1) rfl (by omega) (by omega) (by omega)) (by first | (simp only[maxLen,List.length_map,List.length_append,List.length_cons,List.length_nil]; omega) | (simp [maxLen] <;> omega)) (by first | (simp only[List.length_map,List.length_append,List.length_cons,List.length_nil]; omega) | (simp <;> omega)) ?_))⟩
       refine bD (cX [26,32,34] rfl) (aF (aG 14 [] (by kernel_rfl) ⟨?_,trivial⟩))
       ·
        refine⟨_,rfl,rfl,(ao rfl (aH rfl (bR rfl eL dP (l3 rfl) rfl) (aF (aG 15 [] (by kernel_rfl) ⟨?_,trivial⟩))))⟩
        ·
         refine⟨_,rfl,rfl,(ao rfl (aI hf rfl (aS aY rfl rfl rfl rfl (l2 rfl)) (aF (aG 16 [] (by kernel_rfl) ⟨?_,trivial⟩))))⟩
         ·
          refine⟨_,rfl,rfl,(ao rfl (bH hf rfl aY rfl rfl rfl (.inl rfl) (by first | rfl | (simp only[List.length_map,List.length_nil]; omega) | simp) rfl (by first | rfl | simp [eK,bL]) (by first | (simp only[maxLen,List.length_map,List.length_append,List.length_cons,List.length_nil]; omega) | (simp [maxLen] <;> omega)) (by first | (simp only[List.length_map,List.length_append,List.length_cons,List.length_nil]; omega) | (simp <;> omega)) ?_))⟩
          refine bD (cX [37] rfl) (aF (aG 17 [] (by kernel_rfl) ⟨?_,trivial⟩))
          ·
           refine⟨_,rfl,rfl,(ao rfl (aE aA 1 rfl (aF (bX (by kernel_rfl) ?_))))⟩
           refine hK5 _ (aJ ?_)
           refine⟨21,(dU out s).map spC,by decide,?_,?_,rfl⟩
           · rw[cV (by omega) (by omega),List.map_append]; rfl
           · rw[cV (by omega) (by omega),List.map_append,List.length_append]
             show some (AV.own 21 2 0 (0+((out.take (out.length - 1)).map spC).length+1))=_
             rw[Nat.zero_add]; rfl
      ·
       refine⟨_,rfl,rfl,(ao rfl (aH rfl (bR rfl eL dP (l3 rfl) rfl) (aF (aG 5 [15] (by kernel_rfl) ⟨?_,?_,trivial⟩))))⟩
       ·
        refine⟨_,rfl,rfl,(ao rfl (bH hf rfl aY rfl rfl rfl (.inl rfl) (by first | rfl | (simp only[List.length_map,List.length_nil]; omega) | simp) rfl (dG (l:=out) (j:=out.length - 1) rfl (by omega) (by omega) (by omega)) (by first | (simp only[maxLen,List.length_map,List.length_append,List.length_cons,List.length_nil]; omega) | (simp [maxLen] <;> omega)) (by first | (simp only[List.length_map,List.length_append,List.length_cons,List.length_nil]; omega) | (simp <;> omega)) ?_))⟩
        refine bD (cX [26,35] rfl) (aF (aG 15 [] (by kernel_rfl) ⟨?_,trivial⟩))
        ·
         refine⟨_,rfl,rfl,(ao rfl (aI hf rfl (aS aY rfl rfl rfl rfl (l2 rfl)) (aF (aG 16 [] (by kernel_rfl) ⟨?_,trivial⟩))))⟩
         ·
          refine⟨_,rfl,rfl,(ao rfl (bH hf rfl aY rfl rfl rfl (.inl rfl) (by first | rfl | (simp only[List.length_map,List.length_nil]; omega) | simp) rfl (by first | rfl | simp [eK,bL]) (by first | (simp only[maxLen,List.length_map,List.length_append,List.length_cons,List.length_nil]; omega) | (simp [maxLen] <;> omega)) (by first | (simp only[List.length_map,List.length_append,List.length_cons,List.length_nil]; omega) | (simp <;> omega)) ?_))⟩
          refine bD (cX [37] rfl) (aF (aG 17 [] (by kernel_rfl) ⟨?_,trivial⟩))
          ·
           refine⟨_,rfl,rfl,(ao rfl (aE aA 1 rfl (aF (bX (by kernel_rfl) ?_))))⟩
           refine hK5 _ (aJ ?_)
           refine⟨21,(dU out s).map spC,by decide,?_,?_,rfl⟩
           · rw[cV (by omega) (by omega),List.map_append]; rfl
           · rw[cV (by omega) (by omega),List.map_append,List.length_append]
             show some (AV.own 21 2 0 (0+((out.take (out.length - 1)).map spC).length+1))=_
             rw[Nat.zero_add]; rfl
       ·
        refine⟨_,rfl,rfl,(ao rfl (aI hf rfl (aS aY rfl rfl rfl rfl (l2 rfl)) (aF (aG 5 [] (by kernel_rfl) ⟨?_,trivial⟩))))⟩
        ·
         refine⟨_,rfl,rfl,(ao rfl (bH hf rfl aY rfl rfl rfl (.inl rfl) (by first | rfl | (simp only[List.length_map,List.length_nil]; omega) | simp) rfl (dG (l:=out) (j:=out.length - 1) rfl (by omega) (by omega) (by omega)) (by first | (simp only[maxLen,List.length_map,List.length_append,List.length_cons,List.length_nil]; omega) | (simp [maxLen] <;> omega)) (by first | (simp only[List.length_map,List.length_append,List.length_cons,List.length_nil]; omega) | (simp <;> omega)) ?_))⟩
         refine bD (cX [26,36] rfl) (aF (aG 16 [] (by kernel_rfl) ⟨?_,trivial⟩))
         ·
          refine⟨_,rfl,rfl,(ao rfl (bH hf rfl aY rfl rfl rfl (.inl rfl) (by first | rfl | (simp only[List.length_map,List.length_nil]; omega) | simp) rfl (by first | rfl | simp [eK,bL]) (by first | (simp only[maxLen,List.length_map,List.length_append,List.length_cons,List.length_nil]; omega) | (simp [maxLen] <;> omega)) (by first | (simp only[List.length_map,List.length_append,List.length_cons,List.length_nil]; omega) | (simp <;> omega)) ?_))⟩
          refine bD (cX [37] rfl) (aF (aG 17 [] (by kernel_rfl) ⟨?_,trivial⟩))
          ·
           refine⟨_,rfl,rfl,(ao rfl (aE aA 1 rfl (aF (bX (by kernel_rfl) ?_))))⟩
           refine hK5 _ (aJ ?_)
           refine⟨21,(dU out s).map spC,by decide,?_,?_,rfl⟩
           · rw[cV (by omega) (by omega),List.map_append]; rfl
           · rw[cV (by omega) (by omega),List.map_append,List.length_append]
             show some (AV.own 21 2 0 (0+((out.take (out.length - 1)).map spC).length+1))=_
             rw[Nat.zero_add]; rfl
    ·
     refine⟨_,rfl,rfl,(ao rfl (aH rfl (iW rfl lE rfl (c:=.s (.int .i64 (out[out.length - 1]'(by omega)).1)) (jD (c:=2) (k:=out.length - 1) (enc:=spC) (by omega) (by omega) 0)) (aF (aG 0 [14] (by kernel_rfl) ⟨?_,?_,trivial⟩))))⟩
     ·
      refine⟨_,rfl,rfl,(ao rfl (dR hf rfl rfl rfl aY rfl rfl rfl rfl (l2 rfl) ?_))⟩
      refine aF (aG 5 [14] (by kernel_rfl) ⟨?_,?_,trivial⟩)
      ·
       refine⟨_,rfl,rfl,(ao rfl (bH hf rfl aY rfl rfl rfl (.inl rfl) (by first | rfl | (simp only[List.length_map,List.length_nil]; omega) | simp) rfl (dG (l:=out) (j:=out.length - 1) rfl (by omega) (by omega) (by omega)) (by first | (simp only[maxLen,List.length_map,List.length_append,List.length_cons,List.length_nil]; omega) | (simp [maxLen] <;> omega)) (by first | (simp only[List.length_map,List.length_append,List.length_cons,List.length_nil]; omega) | (simp <;> omega)) ?_))⟩
       refine bD (cX [26,32,34] rfl) (aF (aG 14 [] (by kernel_rfl) ⟨?_,trivial⟩))
       ·
        refine⟨_,rfl,rfl,(ao rfl (aH rfl (bR rfl eL dP (l3 rfl) rfl) (aF (aG 15 [] (by kernel_rfl) ⟨?_,trivial⟩))))⟩
        ·
         refine⟨_,rfl,rfl,(ao rfl (aI hf rfl (aS aY rfl rfl rfl rfl (l2 rfl)) (aF (aG 16 [] (by kernel_rfl) ⟨?_,trivial⟩))))⟩
         ·
          refine⟨_,rfl,rfl,(ao rfl (bH hf rfl aY rfl rfl rfl (.inl rfl) (by first | rfl | (simp only[List.length_map,List.length_nil]; omega) | simp) rfl (by first | rfl | simp [eK,bL]) (by first | (simp only[maxLen,List.length_map,List.length_append,List.length_cons,List.length_nil]; omega) | (simp [maxLen] <;> omega)) (by first | (simp only[List.length_map,List.length_append,List.length_cons,List.length_nil]; omega) | (simp <;> omega)) ?_))⟩
          refine bD (cX [37] rfl) (aF (aG 17 [] (by kernel_rfl) ⟨?_,trivial⟩))
          ·
           refine⟨_,rfl,rfl,(ao rfl (aE aA 1 rfl (aF (bX (by kernel_rfl) ?_))))⟩
           refine hK5 _ (aJ ?_)
           refine⟨21,(dU out s).map spC,by decide,?_,?_,rfl⟩
           · rw[cV (by omega) (by omega),List.map_append]; rfl
           · rw[cV (by omega) (by omega),List.map_append,List.length_append]
             show some (AV.own 21 2 0 (0+((out.take (out.length - 1)).map spC).length+1))=_
             rw[Nat.zero_add]; rfl
      ·
       refine⟨_,rfl,rfl,(ao rfl (aH rfl (bR rfl eL dP (l3 rfl) rfl) (aF (aG 5 [15] (by kernel_rfl) ⟨?_,?_,trivial⟩))))⟩
       ·
        refine⟨_,rfl,rfl,(ao rfl (bH hf rfl aY rfl rfl rfl (.inl rfl) (by first | rfl | (simp only[List.length_map,List.length_nil]; omega) | simp) rfl (dG (l:=out) (j:=out.length - 1) rfl (by omega) (by omega) (by omega)) (by first | (simp only[maxLen,List.length_map,List.length_append,List.length_cons,List.length_nil]; omega) | (simp [maxLen] <;> omega)) (by first | (simp only[List.length_map,List.length_append,List.length_cons,List.length_nil]; omega) | (simp <;> omega)) ?_))⟩
        refine bD (cX [26,35] rfl) (aF (aG 15 [] (by kernel_rfl) ⟨?_,trivial⟩))
        ·
         refine⟨_,rfl,rfl,(ao rfl (aI hf rfl (aS aY rfl rfl rfl rfl (l2 rfl)) (aF (aG 16 [] (by kernel_rfl) ⟨?_,trivial⟩))))⟩
         ·
          refine⟨_,rfl,rfl,(ao rfl (bH hf rfl aY rfl rfl rfl (.inl rfl) (by first | rfl | (simp only[List.length_map,List.length_nil]; omega) | simp) rfl (by first | rfl | simp [eK,bL]) (by first | (simp only[maxLen,List.length_map,List.length_append,List.length_cons,List.length_nil]; omega) | (simp [maxLen] <;> omega)) (by first | (simp only[List.length_map,List.length_append,List.length_cons,List.length_nil]; omega) | (simp <;> omega)) ?_))⟩
          refine bD (cX [37] rfl) (aF (aG 17 [] (by kernel_rfl) ⟨?_,trivial⟩))
          ·
           refine⟨_,rfl,rfl,(ao rfl (aE aA 1 rfl (aF (bX (by kernel_rfl) ?_))))⟩
           refine hK5 _ (aJ ?_)
           refine⟨21,(dU out s).map spC,by decide,?_,?_,rfl⟩
           · rw[cV (by omega) (by omega),List.map_append]; rfl
           · rw[cV (by omega) (by omega),List.map_append,List.length_append]
             show some (AV.own 21 2 0 (0+((out.take (out.length - 1)).map spC).length+1))=_
             rw[Nat.zero_add]; rfl
       ·
        refine⟨_,rfl,rfl,(ao rfl (aI hf rfl (aS aY rfl rfl rfl rfl (l2 rfl)) (aF (aG 5 [] (by kernel_rfl) ⟨?_,trivial⟩))))⟩
        ·
         refine⟨_,rfl,rfl,(ao rfl (bH hf rfl aY rfl rfl rfl (.inl rfl) (by first | rfl | (simp only[List.length_map,List.length_nil]; omega) | simp) rfl (dG (l:=out) (j:=out.length - 1) rfl (by omega) (by omega) (by omega)) (by first | (simp only[maxLen,List.length_map,List.length_append,List.length_cons,List.length_nil]; omega) | (simp [maxLen] <;> omega)) (by first | (simp only[List.length_map,List.length_append,List.length_cons,List.length_nil]; omega) | (simp <;> omega)) ?_))⟩
         refine bD (cX [26,36] rfl) (aF (aG 16 [] (by kernel_rfl) ⟨?_,trivial⟩))
         ·
          refine⟨_,rfl,rfl,(ao rfl (bH hf rfl aY rfl rfl rfl (.inl rfl) (by first | rfl | (simp only[List.length_map,List.length_nil]; omega) | simp) rfl (by first | rfl | simp [eK,bL]) (by first | (simp only[maxLen,List.length_map,List.length_append,List.length_cons,List.length_nil]; omega) | (simp [maxLen] <;> omega)) (by first | (simp only[List.length_map,List.length_append,List.length_cons,List.length_nil]; omega) | (simp <;> omega)) ?_))⟩
          refine bD (cX [37] rfl) (aF (aG 17 [] (by kernel_rfl) ⟨?_,trivial⟩))
          ·
           refine⟨_,rfl,rfl,(ao rfl (aE aA 1 rfl (aF (bX (by kernel_rfl) ?_))))⟩
           refine hK5 _ (aJ ?_)
           refine⟨21,(dU out s).map spC,by decide,?_,?_,rfl⟩
           · rw[cV (by omega) (by omega),List.map_append]; rfl
           · rw[cV (by omega) (by omega),List.map_append,List.length_append]
             show some (AV.own 21 2 0 (0+((out.take (out.length - 1)).map spC).length+1))=_
             rw[Nat.zero_add]; rfl
     ·
      refine⟨_,rfl,rfl,(ao rfl (aH rfl (bR rfl eL dP (l3 rfl) rfl) (aF (aG 0 [15] (by kernel_rfl) ⟨?_,?_,trivial⟩))))⟩
      ·
       refine⟨_,rfl,rfl,(ao rfl (dR hf rfl rfl rfl aY rfl rfl rfl rfl (l2 rfl) ?_))⟩
       refine aF (aG 5 [15] (by kernel_rfl) ⟨?_,?_,trivial⟩)
       ·
        refine⟨_,rfl,rfl,(ao rfl (bH hf rfl aY rfl rfl rfl (.inl rfl) (by first | rfl | (simp only[List.length_map,List.length_nil]; omega) | simp) rfl (dG (l:=out) (j:=out.length - 1) rfl (by omega) (by omega) (by omega)) (by first | (simp only[maxLen,List.length_map,List.length_append,List.length_cons,List.length_nil]; omega) | (simp [maxLen] <;> omega)) (by first | (simp only[List.length_map,List.length_append,List.length_cons,List.length_nil]; omega) | (simp <;> omega)) ?_))⟩
        refine bD (cX [26,35] rfl) (aF (aG 15 [] (by kernel_rfl) ⟨?_,trivial⟩))
        ·
         refine⟨_,rfl,rfl,(ao rfl (aI hf rfl (aS aY rfl rfl rfl rfl (l2 rfl)) (aF (aG 16 [] (by kernel_rfl) ⟨?_,trivial⟩))))⟩
         ·
          refine⟨_,rfl,rfl,(ao rfl (bH hf rfl aY rfl rfl rfl (.inl rfl) (by first | rfl | (simp only[List.length_map,List.length_nil]; omega) | simp) rfl (by first | rfl | simp [eK,bL]) (by first | (simp only[maxLen,List.length_map,List.length_append,List.length_cons,List.length_nil]; omega) | (simp [maxLen] <;> omega)) (by first | (simp only[List.length_map,List.length_append,List.length_cons,List.length_nil]; omega) | (simp <;> omega)) ?_))⟩
          refine bD (cX [37] rfl) (aF (aG 17 [] (by kernel_rfl) ⟨?_,trivial⟩))
          ·
           refine⟨_,rfl,rfl,(ao rfl (aE aA 1 rfl (aF (bX (by kernel_rfl) ?_))))⟩
           refine hK5 _ (aJ ?_)
           refine⟨21,(dU out s).map spC,by decide,?_,?_,rfl⟩
           · rw[cV (by omega) (by omega),List.map_append]; rfl
           · rw[cV (by omega) (by omega),List.map_append,List.length_append]
             show some (AV.own 21 2 0 (0+((out.take (out.length - 1)).map spC).length+1))=_
             rw[Nat.zero_add]; rfl
       ·
        refine⟨_,rfl,rfl,(ao rfl (aI hf rfl (aS aY rfl rfl rfl rfl (l2 rfl)) (aF (aG 5 [] (by kernel_rfl) ⟨?_,trivial⟩))))⟩
        ·
         refine⟨_,rfl,rfl,(ao rfl (bH hf rfl aY rfl rfl rfl (.inl rfl) (by first | rfl | (simp only[List.length_map,List.length_nil]; omega) | simp) rfl (dG (l:=out) (j:=out.length - 1) rfl (by omega) (by omega) (by omega)) (by first | (simp only[maxLen,List.length_map,List.length_append,List.length_cons,List.length_nil]; omega) | (simp [maxLen] <;> omega)) (by first | (simp only[List.length_map,List.length_append,List.length_cons,List.length_nil]; omega) | (simp <;> omega)) ?_))⟩
         refine bD (cX [26,36] rfl) (aF (aG 16 [] (by kernel_rfl) ⟨?_,trivial⟩))
         ·
          refine⟨_,rfl,rfl,(ao rfl (bH hf rfl aY rfl rfl rfl (.inl rfl) (by first | rfl | (simp only[List.length_map,List.length_nil]; omega) | simp) rfl (by first | rfl | simp [eK,bL]) (by first | (simp only[maxLen,List.length_map,List.length_append,List.length_cons,List.length_nil]; omega) | (simp [maxLen] <;> omega)) (by first | (simp only[List.length_map,List.length_append,List.length_cons,List.length_nil]; omega) | (simp <;> omega)) ?_))⟩
          refine bD (cX [37] rfl) (aF (aG 17 [] (by kernel_rfl) ⟨?_,trivial⟩))
          ·
           refine⟨_,rfl,rfl,(ao rfl (aE aA 1 rfl (aF (bX (by kernel_rfl) ?_))))⟩
           refine hK5 _ (aJ ?_)
           refine⟨21,(dU out s).map spC,by decide,?_,?_,rfl⟩
           · rw[cV (by omega) (by omega),List.map_append]; rfl
           · rw[cV (by omega) (by omega),List.map_append,List.length_append]
             show some (AV.own 21 2 0 (0+((out.take (out.length - 1)).map spC).length+1))=_
             rw[Nat.zero_add]; rfl
      ·
       refine⟨_,rfl,rfl,(ao rfl (aI hf rfl (aS aY rfl rfl rfl rfl (l2 rfl)) (aF (aG 0 [] (by kernel_rfl) ⟨?_,trivial⟩))))⟩
       ·
        refine⟨_,rfl,rfl,(ao rfl (dR hf rfl rfl rfl aY rfl rfl rfl rfl (l2 rfl) ?_))⟩
        refine aF (aG 5 [] (by kernel_rfl) ⟨?_,trivial⟩)
        ·
         refine⟨_,rfl,rfl,(ao rfl (bH hf rfl aY rfl rfl rfl (.inl rfl) (by first | rfl | (simp only[List.length_map,List.length_nil]; omega) | simp) rfl (dG (l:=out) (j:=out.length - 1) rfl (by omega) (by omega) (by omega)) (by first | (simp only[maxLen,List.length_map,List.length_append,List.length_cons,List.length_nil]; omega) | (simp [maxLen] <;> omega)) (by first | (simp only[List.length_map,List.length_append,List.length_cons,List.length_nil]; omega) | (simp <;> omega)) ?_))⟩
         refine bD (cX [26,36] rfl) (aF (aG 16 [] (by kernel_rfl) ⟨?_,trivial⟩))
         ·
          refine⟨_,rfl,rfl,(ao rfl (bH hf rfl aY rfl rfl rfl (.inl rfl) (by first | rfl | (simp only[List.length_map,List.length_nil]; omega) | simp) rfl (by first | rfl | simp [eK,bL]) (by first | (simp only[maxLen,List.length_map,List.length_append,List.length_cons,List.length_nil]; omega) | (simp [maxLen] <;> omega)) (by first | (simp only[List.length_map,List.length_append,List.length_cons,List.length_nil]; omega) | (simp <;> omega)) ?_))⟩
          refine bD (cX [37] rfl) (aF (aG 17 [] (by kernel_rfl) ⟨?_,trivial⟩))
          ·
           refine⟨_,rfl,rfl,(ao rfl (aE aA 1 rfl (aF (bX (by kernel_rfl) ?_))))⟩
           refine hK5 _ (aJ ?_)
           refine⟨21,(dU out s).map spC,by decide,?_,?_,rfl⟩
           · rw[cV (by omega) (by omega),List.map_append]; rfl
           · rw[cV (by omega) (by omega),List.map_append,List.length_append]
             show some (AV.own 21 2 0 (0+((out.take (out.length - 1)).map spC).length+1))=_
             rw[Nat.zero_add]; rfl
  ·
   simp only[bs] at hc2
   refine aN (hK3 _ (aC (fun K6 hK6=>(aB (aE aA 2 rfl (aI hf rfl (aS aY rfl rfl rfl rfl (l2 rfl)) (bH hf rfl aY rfl rfl rfl (.inl rfl) (by first | rfl | (simp only[List.length_map,List.length_nil]; omega) | simp) rfl (by first | rfl | simp [eK,bL]) (by first | (simp only[maxLen,List.length_map,List.length_append,List.length_cons,List.length_nil]; omega) | (simp [maxLen] <;> omega)) (by first | (simp only[List.length_map,List.length_append,List.length_cons,List.length_nil]; omega) | (simp <;> omega)) ?_)))))))
   refine bD (cX [41] rfl) (aE aA 1 rfl (aD (hK6 _ (aJ ?_))))
   refine⟨G0,(dU out s).map spC,by decide,?_,?_,rfl⟩
   · first | (rw[aRo (by omega) (by omega),List.map_append]; rfl) | (obtain rfl:out=[]:=List.eq_nil_of_length_eq_zero (by omega); rfl)
   · show some (AV.own G0 2 0 (n+1))=_
     (rw[aRo (by omega) (by omega),hn,List.length_map,List.length_append]; rfl)
 ·
  simp only[bs] at hg1
  refine aV aA 10 rfl (cT [0,3,5,20] rfl rfl rfl (hK4 _ (bW rfl (aN (hK3 _ (aC (fun K7 hK7=>(aB (aE aA 2 rfl (aI hf rfl (aS aY rfl rfl rfl rfl (l2 rfl)) (bH hf rfl aY rfl rfl rfl (.inl rfl) (by first | rfl | (simp only[List.length_map,List.length_nil]; omega) | simp) rfl (by first | rfl | simp [eK,bL]) (by first | (simp only[maxLen,List.length_map,List.length_append,List.length_cons,List.length_nil]; omega) | (simp [maxLen] <;> omega)) (by first | (simp only[List.length_map,List.length_append,List.length_cons,List.length_nil]; omega) | (simp <;> omega)) ?_)))))))))))
  refine bD (cX [41] rfl) (aE aA 1 rfl (aD (hK7 _ (aJ ?_))))
  refine⟨G0,(dU out s).map spC,by decide,?_,?_,rfl⟩
  · first | (rw[aRo (by omega) (by omega),List.map_append]; rfl) | (obtain rfl:out=[]:=List.eq_nil_of_length_eq_zero (by omega); rfl)
  · show some (AV.own G0 2 0 (n+1))=_
    (obtain rfl:out=[]:=List.eq_nil_of_length_eq_zero (by omega); rw[hn]; rfl)
end Go.Proofs.YtpkanhklapfajaaGreat
