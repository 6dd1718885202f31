import Derived.WalkKit
import Derived.WalkSpells
import Derived.WalkLawsBesides
import Derived.Deep.LoopGhost
import Derived.ChangeKeysEq
import Derived.Still
import Derived.Lib.AppendZeros
import Derived.Laws.StructEq
import Derived.OpenShut
import Derived.Scope
import Derived.Shelf.SlSortCmp.Kit1
import Derived.Shelf.SlSortCmp.InsertionK
import Derived.Lib.SlicesCompact
import Derived.ProofKit
import Derived.ChangeSame
import Derived.Carry
import Derived.SliceStrings
import Derived.ChangeMaps5
import Derived.Deep.Slices
import Derived.Test.YtpkanhklapfajaaGreatRows
import Derived.Shelf.Abstract
import Derived.Shelf.SlSortCmp.WholeK
import Derived.Shelf.SlSortCmp.Whole1
import Derived.Shelf.SlSortCmp.NoneTotal
import Derived.Deep.RegionLaw
import Derived.Lib.Walk
import Derived.Lib.Overlaps
import Derived.Lib.AppendZerosOnto
import Derived.Laws.CopyRow
import Derived.Test.YtpkanhklapfajaaGreatKP1
import Derived.Test.YtpkanhklapfajaaGreatKP2
set_option maxRecDepth 20000
set_option maxHeartbeats 16000000
set_option linter.unusedVariables false
namespace Go.Abs
open Go
def spC (s:Sp):List AV:=[.s (.int .i64 s.1),.s (.int .i64 s.2)]
theorem aSw (s:Sp):∀ c∈spC s,c.leaf=true:=by simp [spC,AV.leaf,Value.oneCell']
def jB (a b:Int):Int:=if a<b then -1 else if b<a then 1 else 0
theorem sH {l:List Sp} (h:0<l.length):l.getLast?=some (l[l.length - 1]'(by omega)):=by
  rw[List.getLast?_eq_getElem?,List.getElem?_eq_getElem (by omega)]
theorem aH1 {l:List Sp} (h:0<l.length) (x:Sp):l.dropLast++[x]=l.set (l.length - 1) x:=by
  rcases List.eq_nil_or_concat l with rfl | ⟨i,y,rfl⟩
  · simp at h
  · rw[List.concat_eq_append,List.dropLast_concat]
    simp
theorem vK {out:List Sp} {s:Sp} (h:0<out.length) (h1:s.1≤(out[out.length - 1]'(by omega)).2):cX out s=out.set (out.length - 1) ((out[out.length - 1]'(by omega)).1,max (out[out.length - 1]'(by omega)).2 s.2):=by
  simp only[cX,sH h]
  rw[if_pos h1,aH1 h]
theorem vL {out:List Sp} {s:Sp} (h:0<out.length) (h1:¬ s.1≤(out[out.length - 1]'(by omega)).2):cX out s=out++[s]:=by
  simp only[cX,sH h]
  rw[if_neg h1]
theorem qM (out:List Sp) (s:Sp):(cX out s).length≤out.length+1:=by
  by_cases h:0<out.length
  · by_cases h1:s.1≤(out[out.length - 1]'(by omega)).2
    · rw[vK h h1]; simp
    · rw[vL h h1]; simp
  · have:out=[]:=List.eq_nil_of_length_eq_zero (by omega)
    subst this; simp [cX]
theorem aT6:Go.Sort.SWO (fun x y:Sp=>decide (jB x.1 y.1<0)):=by
  have h:∀ x y:Sp,decide (jB x.1 y.1<0)=decide (x.1<y.1):=by
    intro x y
    unfold jB
    rw[Bool.eq_iff_iff]; simp only[decide_eq_true_eq]
    (repeat' split) <;> omega
  exact⟨fun x=>by rw[h]; simp,fun x y z=>by rw[h,h,h]; simp; omega,fun x y z=>by rw[h,h,h]; simp; omega⟩
theorem cmpI_le {x y:Int} (h:¬ jB y x<0):x≤y:=by
  unfold jB at h
  split at h
  · omega
  · omega
def tU (s:Sp):Bool:=decide (s.2≤s.1)
theorem aFh (l:List Sp):(l.filter fun x=>!tU x)=l.filter vA:=by
  congr 1; funext x; unfold tU vA; rw[Bool.eq_iff_iff]; simp
theorem aRg {l ms:List Sp} (hp:ms.Perm (l.filter fun x=>!tU x)) (hs:ms.Pairwise (fun x y=>¬ jB y.1 x.1<0)):ms.foldl cX []=dY l:=by
  rw[aFh] at hp
  exact aNr hp (hs.imp fun h=>cmpI_le h)
theorem aNt (a b:List Sp) (k:Nat) (h:k<a.length):wD (a.take k) b++b.map (gZ a[k])=wD (a.take (k+1)) b:=by
  simp only[wD]
  rw[List.take_add_one,List.getElem?_eq_getElem h,List.flatMap_append]
  simp
def aHi (n:Int):List AV:=[.s (.int .i64 n)]
def aBv (l:List Int) (n:Int) (k:Nat) (out:List Int) (done:Bool):Prop:=jO l n=out++(if done=true then l.drop k else jO (l.drop k) n)∧out.length≤k+(if done=true then 1 else 0)
theorem aQ1 (l:List Int) (n:Int):aBv l n 0 [] false:=⟨by simp,by simp⟩
theorem put_le {l:List Int} {n:Int} {k:Nat} {out:List Int} {done:Bool} (h:aBv l n k out done):out.length≤k+1:=by
  have:=h.2; split at this <;> omega
theorem put_eq {l:List Int} {n:Int} {k:Nat} {out:List Int} {done:Bool} (h:aBv l n k out done) (hk:k<l.length) (e:l[k]=n):aBv l n (k+1) (out++[l[k]]) true:=by
  obtain ⟨h1,h2⟩:=h
  refine⟨?_,?_⟩
  · rw[h1,List.drop_eq_getElem_cons hk]
    have:jO (l[k]::l.drop (k+1)) n=l[k]::l.drop (k+1):=by simp only[jO]; rw[if_neg (by omega),if_pos e]
    rw[this,ite_self]; simp only[List.append_assoc,List.singleton_append,if_true]
  · simp only[List.length_append,List.length_cons,List.length_nil,if_true]
    split at h2 <;> omega
theorem aS3 {l:List Int} {n:Int} {k:Nat} {out:List Int} {done:Bool} (hd:done=true) (h:aBv l n k out done) (hk:k<l.length):aBv l n (k+1) (out++[l[k]]) done:=by
  subst hd
  obtain ⟨h1,h2⟩:=h
  simp only[if_true] at h1 h2
  refine⟨?_,by simp; omega⟩
  rw[h1,List.drop_eq_getElem_cons hk]; simp
theorem put_ins {l:List Int} {n:Int} {k:Nat} {out:List Int} {done:Bool} (hd:done=false) (h:aBv l n k out done) (hk:k<l.length) (e:n<l[k]):aBv l n (k+1) (out++[n]++[l[k]]) true:=by
  subst hd
  obtain ⟨h1,h2⟩:=h
  simp only[Bool.false_eq_true,if_false] at h1 h2
  refine⟨?_,by simp; omega⟩
  rw[h1,List.drop_eq_getElem_cons hk]
  simp only[jO]; rw[if_pos e]; simp
theorem put_go {l:List Int} {n:Int} {k:Nat} {out:List Int} {done:Bool} (hd:done=false) (h:aBv l n k out done) (hk:k<l.length) (e:¬ n<l[k]) (e2:¬ l[k]=n):aBv l n (k+1) (out++[l[k]]) done:=by
  subst hd
  obtain ⟨h1,h2⟩:=h
  simp only[Bool.false_eq_true,if_false] at h1 h2
  refine⟨?_,by simp; omega⟩
  rw[h1,List.drop_eq_getElem_cons hk]
  simp only[jO]; rw[if_neg e,if_neg e2]; simp
theorem aPw {l:List Int} {n:Int} {k:Nat} {out:List Int} {done:Bool} (h:aBv l n k out done) (hk:l.length≤k):jO l n=out++(if done=true then [] else [n]):=by
  rw[h.1,List.drop_eq_nil_of_le hk]; simp [jO]
def aQd (out:List Int) (s:Sp):List Int:=jO (jO out s.1) s.2
theorem cK {out:List Sp} {s:Sp} (h:0<out.length) (e:(out[out.length - 1]'(by omega)).2=s.1):dH out s=out.take (out.length - 1)++[((out[out.length - 1]'(by omega)).1,s.2)]:=by
  simp only[dH,sH h]
  rw[if_pos e,List.dropLast_eq_take]
theorem aN0 {out:List Sp} {s:Sp} (h:0<out.length) (e:¬ (out[out.length - 1]'(by omega)).2=s.1):dH out s=out++[s]:=by
  simp only[dH,sH h]
  rw[if_neg e]
theorem mC (p:Int→Bool) (out:List Sp) (e:List Int) (k:Nat) (h:k+1<e.length):fK p out (e.drop k)=fK p (if p e[k]=true then dH out (e[k],e[k+1]) else out) (e.drop (k+1)):=by
  rw[List.drop_eq_getElem_cons (show k<e.length by omega),List.drop_eq_getElem_cons h]
  rfl
theorem aAk (p:Int→Bool) (out:List Sp) (e:List Int) (k:Nat) (h:e.length≤k+1):fK p out (e.drop k)=out:=by
  have:(e.drop k).length≤1:=by simp; omega
  generalize e.drop k=q at this
  match q,this with
  | [],_=>rfl
  | [a],_=>rfl
section
variable {P:Program}
theorem aKy {t:TypeId} (ht:P.underlying t=some .bool) {a b:Bool} (h:a=b):sO P .eql t (.bool a) (.bool b)=some (.bool true):=by
  subst h; simp [sO,ht]
theorem iF {t:TypeId} {k:IntKind} {a b:Int} (h:a=b):sO P .eql t (.int k a) (.int k b)=some (.bool true):=by
  subst h; simp [sO,zS]
end
end Go.Abs
set_option linter.unusedSimpArgs false
namespace Go.Abs
end Go.Abs
set_option linter.unusedVariables false
set_option linter.unusedSimpArgs false
namespace Go.Abs
open Go
end Go.Abs
set_option linter.unusedVariables false
set_option linter.unusedSimpArgs false
namespace Go.Abs
abbrev Pr:=ByteArray×ByteArray
abbrev En:=Pr×Sp
def prC (p:Pr):List AV:=[.s (.string p.1),.s (.string p.2)]
def enC (e:En):List AV:=[.s (.string e.1.1),.s (.string e.1.2),.s (.int .i64 e.2.1),.s (.int .i64 e.2.2)]
theorem cmpI_tri:Tri jB:=by
  refine⟨fun x y=>?_,fun x y=>?_,fun x y z=>?_⟩ <;> unfold jB <;> (repeat' split) <;> omega
theorem cmpB_tri:Tri eJ:=⟨pR,oR,fun _ _ _=>aFr⟩
def qX (p q:Pr):Int:=uY p.1 p.2 q.1 q.2
theorem aF9:qX=tY (fun p q:Pr=>eJ p.1 q.1) (fun p q=>eJ p.2 q.2):=by
  funext p q
  simp only[qX,uY,orI,tY]
  (repeat' split) <;> simp_all
theorem pairC_tri:Tri qX:=by
  rw[aF9]
  exact(cmpB_tri.comap Prod.fst).lex (cmpB_tri.comap Prod.snd)
theorem aDg {p q:Pr}:qX p q=0↔p=q:=by
  rw[aF9,rD,sM,sM,Prod.ext_iff]
def mD (a b:En):Int:=orI [qX a.1 b.1,jB a.2.1 b.2.1]
theorem tS:mD=tY (fun a b:En=>qX a.1 b.1) (fun a b=>jB a.2.1 b.2.1):=by
  funext p q
  simp only[mD,orI,tY]
  (repeat' split) <;> simp_all
theorem ordE_tri:Tri mD:=by
  rw[tS]
  exact(pairC_tri.comap Prod.fst).lex (cmpI_tri.comap fun a:En=>a.2.1)
def gK (p:Pr) (e:En):Bool:=decide (e.1=p)&&decide (e.2.2=1099511627776)
def onB (l:List En) (p:Pr):Bool:=l.any (gK p)
theorem onB_iff {l:List En} {p:Pr}:onB l p=true↔∃ e∈l,e.1=p∧e.2.2=1099511627776:=by simp [onB,gK]
def zI:List En→En→List En
  | [],e=>[e]
  | x::l,e=>if 0<mD x e then e::x::l else x::zI l e
theorem aHl (e:En):∀ (l:List En) (k:Nat),k≤l.length→(∀ (j:Nat) (hj:j<l.length),j<k→¬ 0<mD l[j] e)→(∀ (h:k<l.length),0<mD l[k] e)→zI l e=l.take k++e::l.drop k
  | [],k,hk,_,_=>by
                          have:k=0:=by simpa using hk
                          subst this; rfl
  | x::l,0,_,_,h=>by have:=h (by simp); simp only[List.getElem_cons_zero] at this; simp [zI,this]
  | x::l,k+1,hk,h1,h2=>by
    have hx:=h1 0 (by simp) (by omega)
    simp only[List.getElem_cons_zero] at hx
    rw[zI,if_neg hx,aHl e l k (by simpa using hk) (fun j hj hjk=>by have:=h1 (j+1) (by simpa using hj) (by omega); simpa using this) (fun h=>by have:=h2 (by simpa using h); simpa using this)]
    rfl
theorem aJ4 (e:En):∀ l:List En,(zI l e).length=l.length+1
  | []=>rfl
  | x::l=>by rw[zI]; split <;> simp [aJ4 e l]
theorem uA {e x:En}:∀ {l:List En},x∈zI l e↔x=e∨x∈l
  | []=>by simp [zI]
  | y::l=>by
    rw[zI]; split
    · simp
    · simp only[List.mem_cons,uA (l:=l)]
      constructor
      · rintro (h | h | h) <;> simp [h]
      · rintro (h | h | h) <;> simp [h]
def jQ (l:List En) (p:Pr) (t:Int):List En:=zI l (p,(t,1099511627776))
def tL (e:En) (t:Int):List En:=if t≤e.2.1 then [] else [(e.1,(e.2.1,t))]
def kX:List En→Pr→Int→List En
  | [],_,_=>[]
  | e::l,p,t=>if gK p e=true then tL e t++l else e::kX l p t
theorem aB0 (p:Pr) (t:Int):∀ (l:List En) (k:Nat) (hk:k<l.length),(∀ (j:Nat) (hj:j<l.length),j<k→gK p l[j]=false)→gK p l[k]=true→kX l p t=l.take k++(tL l[k] t++l.drop (k+1))
  | [],k,hk,_,_=>by simp at hk
  | x::l,0,_,_,h=>by simp only[List.getElem_cons_zero] at h; simp [kX,h]
  | x::l,k+1,hk,h1,h2=>by
    have hx:=h1 0 (by simp) (by omega)
    simp only[List.getElem_cons_zero] at hx
    rw[kX,if_neg (by simp [hx]),aB0 p t l k (by simpa using hk) (fun j hj hjk=>by have:=h1 (j+1) (by simpa using hj) (by omega); simpa using this) (by simpa using h2)]
    rfl
def ofB (p:Pr) (e:En):Bool:=decide (e.1=p)
def gB (l:List En) (p:Pr):List Sp:=dY ((l.filter (ofB p)).map Prod.snd)
def aDx (u:ByteArray) (e:En):Bool:=xN e.1.1 e.1.2 u
def okE (e:En):Bool:=decide (e.2.1<e.2.2)&&(cI e.1.1&&cI e.1.2)
def aJs (a b:En):Bool:=decide (mD a b<0)&&!(decide (a.1=b.1)&&decide (b.2.1<a.2.2))
def aE7 (l:List En):Bool:=oH okE aJs none l
end Go.Abs
set_option linter.unusedVariables false
set_option linter.unusedSimpArgs false
namespace Go.Abs
abbrev bC:=Sp×(Int×Int)
def stC (s:bC):List AV:=[.s (.int .i64 s.1.1),.s (.int .i64 s.1.2),.s (.int .i64 s.2.1),.s (.int .i64 s.2.2)]
def gL (a b:bC):Int:=orI [jB a.1.1 b.1.1,jB a.1.2 b.1.2,jB a.2.1 b.2.1,jB a.2.2 b.2.2]
theorem aKr:gL=tY (fun a b:bC=>jB a.1.1 b.1.1) (tY (fun a b=>jB a.1.2 b.1.2) (tY (fun a b=>jB a.2.1 b.2.1) (fun a b=>jB a.2.2 b.2.2))):=by
  funext p q
  simp only[gL,orI,tY]
  (repeat' split) <;> simp_all
theorem cmpS_tri:Tri gL:=by
  rw[aKr]
  exact(cmpI_tri.comap fun a:bC=>a.1.1).lex ((cmpI_tri.comap fun a:bC=>a.1.2).lex ((cmpI_tri.comap fun a:bC=>a.2.1).lex (cmpI_tri.comap fun a:bC=>a.2.2)))
theorem qF {a b:Int}:jB a b=0↔a=b:=by unfold jB; (repeat' split) <;> omega
theorem aH5 {a b:bC}:gL a b=0↔a=b:=by
  rw[aKr,rD,rD,rD,qF,qF,qF,qF,Prod.ext_iff,Prod.ext_iff,Prod.ext_iff,and_assoc]
def okS (s:bC):Bool:=decide (s.1.1<s.1.2)
def aDn (a b:bC):Bool:=decide (gL a b<0)
def yX (l:List bC):Bool:=oH okS aDn none l
theorem tJ (l:List bC):yX l=true↔(∀ x∈l,okS x=true)∧l.Pairwise fun a b=>gL a b<0:=by
  rw[yX,qV (fun a b=>gL a b<0) (fun x y=>by simp [aDn]) (fun x y z _ h1 h2=>cmpS_tri.lt_tr h1 h2)]
  simp
theorem vU {α:Type} {c:α→α→Int} (hc:Tri c) (h0:∀ x y,c x y=0→x=y):∀ {a b:List α},Srt c a→Srt c b→a.Perm b→a=b
  | [],b,_,_,hp=>by have:=hp.length_eq; exact(List.eq_nil_of_length_eq_zero (by simpa using this.symm)).symm
  | x::a,[],_,_,hp=>by have:=hp.length_eq; simp at this
  | x::a,y::b,ha,hb,hp=>by
    have e:x=y:=by
      have h1:x∈y::b:=hp.mem_iff.1 (by simp)
      have h2:y∈x::a:=hp.mem_iff.2 (by simp)
      rcases List.mem_cons.1 h1 with e | h1
      · exact e
      · rcases List.mem_cons.1 h2 with e | h2
        · exact e.symm
        · have e1:=(List.pairwise_cons.1 ha).1 y h2
          have e2:=(List.pairwise_cons.1 hb).1 x h1
          have:=hc.swap x y
          exact h0 x y (by omega)
    subst e
    rw[vU hc h0 (List.pairwise_cons.1 ha).2 (List.pairwise_cons.1 hb).2 (List.Perm.cons_inv hp)]
def sG:List bC→bC→List bC
  | [],x=>[x]
  | y::r,x=>if gL x y<0 then x::y::r else y::sG r x
theorem aHm (x:bC):∀ (l:List bC) (k:Nat),k≤l.length→(∀ (j:Nat) (hj:j<l.length),j<k→¬ gL x l[j]<0)→(∀ (h:k<l.length),gL x l[k]<0)→sG l x=l.take k++x::l.drop k
  | [],k,hk,_,_=>by
                          have:k=0:=by simpa using hk
                          subst this; rfl
  | y::l,0,_,_,h=>by have:=h (by simp); simp only[List.getElem_cons_zero] at this; simp [sG,this]
  | y::l,k+1,hk,h1,h2=>by
    have hx:=h1 0 (by simp) (by omega)
    simp only[List.getElem_cons_zero] at hx
    rw[sG,if_neg hx,aHm x l k (by simpa using hk) (fun j hj hjk=>by have:=h1 (j+1) (by simpa using hj) (by omega); simpa using this) (fun h=>by have:=h2 (by simpa using h); simpa using this)]
    rfl
theorem rF (x:bC):∀ l:List bC,(sG l x).Perm (x::l)
  | []=>.refl _
  | y::l=>by
    rw[sG]; split
    · exact .refl _
    · exact((rF x l).cons y).trans (List.Perm.swap x y l)
theorem aJ5 {x:bC}:∀ {l:List bC},Srt gL l→Srt gL (sG l x)
  | [],_=>List.pairwise_singleton _ _
  | y::l,h=>by
    obtain ⟨h1,h2⟩:=List.pairwise_cons.1 h
    rw[sG]; split
    · rename_i h0
      refine List.pairwise_cons.2 ⟨fun z hz=>?_,h⟩
      rcases List.mem_cons.1 hz with rfl | hz
      · omega
      · exact cmpS_tri.tr x y z (by omega) (h1 z hz)
    · rename_i h0
      refine List.pairwise_cons.2 ⟨fun z hz=>?_,aJ5 h2⟩
      rcases List.mem_cons.1 ((rF x l).mem_iff.1 hz) with rfl | hz
      · have:=cmpS_tri.swap z y; omega
      · exact h1 z hz
def aAa (l:List bC):List bC:=l.foldl sG []
theorem aCp:∀ (l out:List bC),Srt gL out→Srt gL (l.foldl sG out)∧(l.foldl sG out).Perm (out++l)
  | [],out,h=>⟨h,by simp⟩
  | x::l,out,h=>by
    obtain ⟨h1,h2⟩:=aCp l (sG out x) (aJ5 h)
    exact⟨h1,h2.trans (((rF x out).append_right l).trans List.perm_middle.symm)⟩
theorem aQu (l:List bC):Srt gL (aAa l):=(aCp l [] List.Pairwise.nil).1
theorem oT (l:List bC):(aAa l).Perm l:=(aCp l [] List.Pairwise.nil).2
theorem aCq {l t:List bC} (hp:t.Perm l) (hs:Srt gL t):t=aAa l :=
  vU cmpS_tri (fun _ _ h=>aH5.1 h) hs (aQu l) (hp.trans (oT l).symm)
theorem yU (l:List bC):(aAa l).length=l.length:=(oT l).length_eq
def aBs:List bC→bC→List bC
  | [],s=>[s]
  | x::l,s=>if (x::l).all (fun y=>decide (0<gL y s))=true then s::x::l else x::aBs l s
theorem aB4 (s:bC):∀ (l:List bC) (k:Nat),k≤l.length→(∀ (j:Nat) (hj:j<l.length),k≤j→0<gL l[j] s)→(∀ (h0:0<k) (h:k - 1<l.length),gL l[k - 1] s≤0)→aBs l s=l.take k++s::l.drop k
  | [],k,hk,_,_=>by
                          have:k=0:=by simpa using hk
                          subst this; rfl
  | x::l,0,_,h,_=>by
    rw[aBs,if_pos]
    · rfl
    · rw[List.all_eq_true]
      intro y hy
      obtain ⟨j,hj,rfl⟩:=List.mem_iff_getElem.1 hy
      simpa using h j hj (Nat.zero_le _)
  | x::l,k+1,hk,h1,h2=>by
    have hn:=h2 (by omega) (by simp at hk ⊢; omega)
    rw[aBs,if_neg]
    · rw[aB4 s l k (by simpa using hk) (fun j hj hkj=>by have:=h1 (j+1) (by simpa using hj) (by omega); simpa using this) (fun h0 h=>by
        have e:(x::l)[k+1 - 1]'(by simp at hk ⊢; omega)=l[k - 1]'h:=by
          simp only[Nat.add_sub_cancel]
          obtain ⟨k',rfl⟩:∃ k',k=k'+1:=⟨k - 1,by omega⟩
          simp
        rw[e] at hn; exact hn)]
      rfl
    · rw[List.all_eq_true]
      intro hall
      have:=hall _ (List.getElem_mem (show k+1 - 1<(x::l).length by simp at hk ⊢; omega))
      simp only[decide_eq_true_eq] at this
      omega
theorem gI (s:bC):∀ l:List bC,(aBs l s).Perm (s::l)
  | []=>.refl _
  | x::l=>by
    rw[aBs]; split
    · exact .refl _
    · exact((gI s l).cons x).trans (List.Perm.swap s x l)
theorem aDt (l:List bC) (s:bC):(aBs l s).length=l.length+1:=by simpa using (gI s l).length_eq
theorem nP {s:bC}:∀ {l:List bC},Srt gL l→Srt gL (aBs l s)
  | [],_=>List.pairwise_singleton _ _
  | x::l,h=>by
    obtain ⟨h1,h2⟩:=List.pairwise_cons.1 h
    rw[aBs]; split
    · rename_i h0
      rw[List.all_eq_true] at h0
      refine List.pairwise_cons.2 ⟨fun z hz=>?_,h⟩
      have:=h0 z hz
      simp only[decide_eq_true_eq] at this
      have:=cmpS_tri.swap z s; omega
    · rename_i h0
      refine List.pairwise_cons.2 ⟨fun z hz=>?_,nP h2⟩
      rcases List.mem_cons.1 ((gI s l).mem_iff.1 hz) with rfl | hz
      · -- some one of the row is not above it: so the first one is not
        have h3:∃ y∈x::l,¬ 0<gL y z:=by
          apply Classical.byContradiction
          intro hn
          exact h0 (List.all_eq_true.2 fun y hy=>by
            simp only[decide_eq_true_eq]
            apply Classical.byContradiction
            intro hh
            exact hn ⟨y,hy,hh⟩)
        obtain ⟨y,hy,hyz⟩:=h3
        rcases List.mem_cons.1 hy with rfl | hy
        · omega
        · exact cmpS_tri.tr x y z (h1 y hy) (by omega)
      · exact h1 z hz
def gA (l:List bC) (s:bC):List bC:=if s.1.2≤s.1.1 then l else aBs l s
theorem uF (l:List bC) (s:bC):(gA l s).length≤l.length+1:=by
  unfold gA; split
  · omega
  · rw[aDt]; omega
def rC (s:bC) (b:Sp):List bC:=if (gZ s.1 b).2≤(gZ s.1 b).1 then [] else [(gZ s.1 b,s.2)]
def pO (l:List bC) (by':List Sp):List bC:=l.flatMap fun s=>by'.flatMap (rC s)
def aFq (l:List bC) (b:List Sp):List bC:=aAa (pO l (dY b))
def dB (acc:Int×Bool) (s:bC):Int×Bool:=if s.1.1<s.1.2∧(acc.2=false∨acc.1<s.1.2) then (s.1.2,true) else acc
def aAp (l:List bC):Int×Bool:=l.foldl dB (0,false)
theorem yT {l:List bC} (h:l.Pairwise fun a b=>gL a b<0):Srt gL l:=h.imp fun h=>by omega
theorem ris_add {l:List bC} {s:bC} (h:yX l=true):yX (gA l s)=!(l.any fun y=>decide (y=s)):=by
  obtain ⟨h1,h2⟩:=(tJ l).1 h
  unfold gA
  split
  · rename_i h0
    have:l.any (fun y=>decide (y=s))=false:=by
      rw[Bool.eq_false_iff]; intro ha
      obtain ⟨y,hy,e⟩:=List.any_eq_true.1 ha
      simp only[decide_eq_true_eq] at e
      subst e
      have:=h1 y hy
      simp only[okS,decide_eq_true_eq] at this; omega
    rw[this,h]; rfl
  · rename_i h0
    have hs:=nP (s:=s) (yT h2)
    cases ha:l.any (fun y=>decide (y=s))
    · rw[Bool.not_false,tJ]
      refine⟨fun x hx=>?_,?_⟩
      · rcases List.mem_cons.1 ((gI s l).mem_iff.1 hx) with rfl | hx
        · simp only[okS,decide_eq_true_eq]; omega
        · exact h1 x hx
      · have hnd:(aBs l s).Nodup:=by
          rw[(gI s l).nodup_iff]
          refine List.nodup_cons.2 ⟨fun hm=>?_,?_⟩
          · rw[Bool.eq_false_iff] at ha
            exact ha (List.any_eq_true.2 ⟨s,hm,by simp⟩)
          · exact h2.imp fun {a b} h e=>by subst e; have:=cmpS_tri.self a; omega
        refine(List.Pairwise.and hs hnd).imp fun {a b} ⟨h3,h4⟩=>?_
        rcases Int.lt_or_eq_of_le h3 with e | e
        · exact e
        · exact absurd (aH5.1 e) h4
    · rw[Bool.not_true,Bool.eq_false_iff]
      intro hr
      obtain ⟨y,hy,e⟩:=List.any_eq_true.1 ha
      simp only[decide_eq_true_eq] at e
      subst e
      have hnd:(aBs l y).Nodup:=((tJ _).1 hr).2.imp fun {a b} h e=>by subst e; have:=cmpS_tri.self a; omega
      rw[(gI y l).nodup_iff] at hnd
      exact(List.nodup_cons.1 hnd).1 hy
theorem add_comm {l:List bC} {a b:bC} (h:yX l=true):gA (gA l a) b=gA (gA l b) a:=by
  have hs:=yT ((tJ l).1 h).2
  unfold gA
  split <;> split <;> try rfl
  exact vU cmpS_tri (fun _ _ h=>aH5.1 h) (nP (nP hs)) (nP (nP hs)) (((gI _ _).trans ((gI _ _).cons _)).trans ((List.Perm.swap _ _ _).trans (((gI _ _).trans ((gI _ _).cons _)).symm)))
theorem stC_eqF (x y:bC):(x.1.1 == y.1.1&&(x.1.2 == y.1.2&&(x.2.1 == y.2.1&&(x.2.2 == y.2.2&&true))))=decide (x=y):=by
  rw[Bool.eq_iff_iff]
  simp only[Bool.and_eq_true,beq_iff_eq,and_true,decide_eq_true_eq,Prod.ext_iff,and_assoc]
theorem aB5 {a b:Int}:jB a b<0↔a<b:=by unfold jB; (repeat' split) <;> omega
theorem oQ (a:Int):jB a a=0:=qF.2 rfl
theorem ah1 {a b:bC} (h:¬ a.1.1=b.1.1):decide (a.1.1<b.1.1)=decide (gL a b<0):=by
  have:gL a b=jB a.1.1 b.1.1:=by rw[gL,orI,if_pos (fun e=>h (qF.1 e))]
  rw[this,Bool.eq_iff_iff,decide_eq_true_eq,decide_eq_true_eq,aB5]
theorem ah2 {a b:bC} (h1:a.1.1=b.1.1) (h:¬ a.1.2=b.1.2):decide (a.1.2<b.1.2)=decide (gL a b<0):=by
  have:gL a b=jB a.1.2 b.1.2:=by rw[gL,h1,oQ,orI,if_neg (by simp),orI,if_pos (fun e=>h (qF.1 e))]
  rw[this,Bool.eq_iff_iff,decide_eq_true_eq,decide_eq_true_eq,aB5]
theorem ah3 {a b:bC} (h1:a.1.1=b.1.1) (h2:a.1.2=b.1.2) (h:¬ a.2.1=b.2.1):decide (a.2.1<b.2.1)=decide (gL a b<0):=by
  have:gL a b=jB a.2.1 b.2.1:=by rw[gL,h1,h2,oQ,oQ,orI,if_neg (by simp),orI,if_neg (by simp),orI,if_pos (fun e=>h (qF.1 e))]
  rw[this,Bool.eq_iff_iff,decide_eq_true_eq,decide_eq_true_eq,aB5]
theorem ah4 {a b:bC} (h1:a.1.1=b.1.1) (h2:a.1.2=b.1.2) (h3:a.2.1=b.2.1):decide (a.2.2<b.2.2)=decide (gL a b<0):=by
  have:gL a b<0↔jB a.2.2 b.2.2<0:=by
    rw[gL,h1,h2,h3,oQ,oQ,oQ,orI,if_neg (by simp),orI,if_neg (by simp),orI,if_neg (by simp),orI,orI]
    split
    · exact Iff.rfl
    · rename_i h; omega
  rw[Bool.eq_iff_iff,decide_eq_true_eq,decide_eq_true_eq,this,aB5]
theorem jU {α β:Type} (l:List α) (f:α→List β) (k:Nat) (h:k<l.length):(l.take (k+1)).flatMap f=(l.take k).flatMap f++f l[k]:=by
  rw[← List.take_append_getElem h,List.flatMap_append]; simp
theorem aKm {l:List bC} {b:List Sp} {k:Nat} (h:k<l.length):pO (l.take (k+1)) b=pO (l.take k) b++b.flatMap (rC l[k]):=jU l _ k h
theorem aP5 {s:bC} {b:Sp} (h:(gZ s.1 b).2≤(gZ s.1 b).1):rC s b=[]:=if_pos h
theorem aP6 {s:bC} {b:Sp} (h:¬ (gZ s.1 b).2≤(gZ s.1 b).1):rC s b=[(gZ s.1 b,s.2)]:=if_neg h
theorem cut_len (l:List bC) (b:List Sp):(aFq l b).length≤l.length*(dY b).length:=by
  rw[aFq,yU]
  have:∀ (l:List bC) (c:List Sp),(pO l c).length≤l.length*c.length:=by
    intro l c
    induction l with
    | nil=>simp [pO]
    | cons s l ih =>
      have h1:(c.flatMap (rC s)).length≤c.length:=by
        clear ih
        induction c with
        | nil=>simp
        | cons x c ih =>
          rw[List.flatMap_cons,List.length_append,List.length_cons]
          have:(rC s x).length≤1:=by unfold rC; split <;> simp
          omega
      simp only[pO,List.flatMap_cons,List.length_append,List.length_cons,Nat.add_mul,Nat.one_mul] at *
      omega
  exact this l _
end Go.Abs
set_option linter.unusedVariables false
set_option linter.unusedSimpArgs false
namespace Go.Proofs.YtpkanhklapfajaaGreat
open Go Go.Abs
theorem tE (g:Nat) (a1 u b1 v c1:List bC) (N:Nat) (za zb zn:Int) (hN:N=a1.length+u.length+b1.length+v.length+c1.length) (huv:v.length=u.length) (hza:za=(a1.length:Nat)) (hzb:zb=((a1.length+u.length+b1.length:Nat):Int)) (hzn:zn=(u.length:Nat)) (hM:N<4611686018427387904) :DenM Tryz.prog 206 [.own E0 4 0 N,.s (.int .i64 za),.s (.int .i64 zb),.s (.int .i64 zn),.fn g []] 4 ((List.map stC (a1++(u++(b1++(v++c1)))))) (fun r ys=>ys=(List.map stC (a1++(v++(b1++(u++c1)))))):=by
 subst hza
 subst hzb
 subst hzn
 refine hJ Tryz.func206 rfl (Nat.le_of_ble_eq_true rfl) (fun w0 x0 A hf=>?_)
 refine aC (fun K1 hK1=>(aB (aE aA 1 rfl (aD (hK1 _ (aM (bM (ι:=Nat) (fun i=>⟨38,[(0,.own E0 4 0 N),(1,.s (.int .i64 (a1.length:Nat))),(2,.s (.int .i64 ((a1.length+u.length+b1.length:Nat):Int))),(3,.s (.int .i64 (u.length:Nat))),(10,.s (.int .i64 (i:Nat)))],[(E0,.buf 4 (List.map stC (swr a1 u b1 v c1 i)))]⟩) (fun i=>i≤u.length) (fun i=>u.length - i) 0 ?_ ?_ ?_)))))))
 · exact Nat.zero_le _
 · exact cF ⟨rfl,rfl,rfl,rfl,rfl,trivial⟩ (by simp [swr])
 ·
  rintro i hC
  have hsl:=swr_len (A:=a1) (B:=b1) (C:=c1) (i:=i) huv
  refine aC (fun K2 hK2=>(aC (fun K3 hK3=>(aB (aE aA 3 rfl (aD (hK3 _ (aK rfl (fun hc1=>?_) (fun hc1=>?_)))))))))
  ·
   simp only[bs] at hc1
   refine aL (hK2 _ (aC (fun K4 hK4=>(aM (fJ bF ?_)))))
   refine bQ (listed':=#[true,false,false,false,false,false,false,false,false,false,false,false,false,false,false,false,false,false,false,false,false,false,false,false]) 0 rfl (by kernel_rfl) (by kernel_rfl) (by kernel_rfl) rfl (fun _ _ h=>h) (dQ rfl) ?_
   refine bQ (listed':=#[true,true,false,false,false,false,false,false,false,false,false,false,false,false,false,false,false,false,false,false,false,false,false,false]) 1 rfl (by kernel_rfl) (by kernel_rfl) (by kernel_rfl) rfl (fun _ _ h=>h) (dQ rfl) ?_
   refine bQ (listed':=#[true,true,true,false,false,false,false,false,false,false,false,false,false,false,false,false,false,false,false,false,false,false,false,false]) 2 rfl (by kernel_rfl) (by kernel_rfl) (by kernel_rfl) rfl (fun _ _ h=>h) (dQ rfl) ?_
   refine bQ (listed':=#[true,true,true,true,false,false,false,false,false,false,false,false,false,false,false,false,false,false,false,false,false,false,false,false]) 3 rfl (by kernel_rfl) (by kernel_rfl) (by kernel_rfl) rfl (fun _ _ h=>h) (aFu rfl rfl (by omega) (by omega)) ?_
   refine bQ (listed':=#[true,true,true,true,true,false,false,false,false,false,false,false,false,false,false,false,false,false,false,false,false,false,false,false]) 4 rfl (by kernel_rfl) (by kernel_rfl) (by kernel_rfl) rfl (fun _ _ h=>h) (dQ rfl) ?_
   refine bQ (listed':=#[true,true,true,true,true,true,false,false,false,false,false,false,false,false,false,false,false,false,false,false,false,false,false,false]) 5 rfl (by kernel_rfl) (by kernel_rfl) (by kernel_rfl) rfl (fun _ _ h=>h) (dQ rfl) ?_
   refine bQ (listed':=#[true,true,true,true,true,true,true,false,false,false,false,false,false,false,false,false,false,false,false,false,false,false,false,false]) 6 rfl (by kernel_rfl) (by kernel_rfl) (by kernel_rfl) rfl (fun _ _ h=>h) (dQ rfl) ?_
   refine bQ (listed':=#[true,true,true,true,true,true,true,true,false,false,false,false,false,false,false,false,false,false,false,false,false,false,false,false]) 7 rfl (by kernel_rfl) (by kernel_rfl) (by kernel_rfl) rfl (fun _ _ h=>h) (aFu rfl rfl (by omega) (by omega)) ?_
   refine bQ (listed':=#[true,true,true,true,true,true,true,true,true,false,false,false,false,false,false,false,false,false,false,false,false,false,false,false]) 8 rfl (by kernel_rfl) (by kernel_rfl) (by kernel_rfl) rfl (fun _ _ h=>h) (dQ rfl) ?_
   refine bQ (listed':=#[true,true,true,true,true,true,true,true,true,true,false,false,false,false,false,false,false,false,false,false,false,false,false,false]) 9 rfl (by kernel_rfl) (by kernel_rfl) (by kernel_rfl) rfl (fun _ _ h=>h) (dQ rfl) ?_
   refine bQ (listed':=#[true,true,true,true,true,true,true,true,true,true,true,false,false,false,false,false,false,false,false,false,false,false,false,false]) 10 rfl (by kernel_rfl) (by kernel_rfl) (by kernel_rfl) rfl (fun _ _ h=>h) (dQ rfl) ?_
   refine bQ (listed':=#[true,true,true,true,true,true,true,true,true,true,true,true,false,false,false,false,false,false,false,false,false,false,false,false]) 11 rfl (by kernel_rfl) (by kernel_rfl) (by kernel_rfl) rfl (fun _ _ h=>h) (aFu rfl rfl (by omega) (by omega)) ?_
   refine bQ (listed':=#[true,true,true,true,true,true,true,true,true,true,true,true,true,false,false,false,false,false,false,false,false,false,false,false]) 12 rfl (by kernel_rfl) (by kernel_rfl) (by kernel_rfl) rfl (fun _ _ h=>h) (kM rfl rfl cB bA (by omega)) ?_
   refine bQ (listed':=#[true,true,true,true,true,true,true,true,true,true,true,true,true,false,true,false,false,false,false,false,false,false,false,false]) 14 rfl (by kernel_rfl) (by kernel_rfl) (by kernel_rfl) rfl (fun _ _ h=>h) (dQ rfl) ?_
   refine bQ (listed':=#[true,true,true,true,true,true,true,true,true,true,true,true,true,false,true,true,false,false,false,false,false,false,false,false]) 15 rfl (by kernel_rfl) (by kernel_rfl) (by kernel_rfl) rfl (fun _ _ h=>h) (dQ rfl) ?_
   refine bQ (listed':=#[true,true,true,true,true,true,true,true,true,true,true,true,true,false,true,true,true,false,false,false,false,false,false,false]) 16 rfl (by kernel_rfl) (by kernel_rfl) (by kernel_rfl) rfl (fun _ _ h=>h) (dQ rfl) ?_
   refine bQ (listed':=#[true,true,true,true,true,true,true,true,true,true,true,true,true,false,true,true,true,true,false,false,false,false,false,false]) 17 rfl (by kernel_rfl) (by kernel_rfl) (by kernel_rfl) rfl (fun _ _ h=>h) (aFu rfl rfl (by omega) (by omega)) ?_
   refine bQ (listed':=#[true,true,true,true,true,true,true,true,true,true,true,true,true,false,true,true,true,true,true,false,false,false,false,false]) 18 rfl (by kernel_rfl) (by kernel_rfl) (by kernel_rfl) rfl (fun _ _ h=>h) (kM rfl rfl cB bA (by omega)) ?_
   refine mL (cM [0,1,2,3,10,16,19,20,23,28,34] rfl) (aH 13 [19] (by kernel_rfl) ⟨?_,?_,trivial⟩)
   ·
    refine⟨_,rfl,rfl,(ao rfl (aG rfl (bZ rfl eF bA rfl (eC (k:=4) (enc:=stC) (z:=a1.length+u.length+b1.length+i) (by omega) (aBx huv (by omega)) rfl) (dK (k:=4) (enc:=stC) (z:=a1.length+u.length+b1.length+i) (by omega) (aBx huv (by omega)) rfl)) (aF (aH 19 [] (by kernel_rfl) ⟨?_,trivial⟩))))⟩
    ·
     refine⟨_,rfl,rfl,(ao rfl (aG rfl (bZ rfl eF bA rfl (eC (k:=4) (enc:=stC) (z:=a1.length+i) (by omega) (aBy huv (by omega)) rfl) (dK (k:=4) (enc:=stC) (z:=a1.length+i) (by omega) (aBy huv (by omega)) rfl)) (aF (aH 20 [] (by kernel_rfl) ⟨?_,trivial⟩))))⟩
     ·
      refine⟨_,rfl,rfl,(ao rfl ?_)⟩
      refine aG rfl (bX rfl rfl cB bA (by omega)) ?_
      refine aF (aH 21 [] (by kernel_rfl) ⟨?_,trivial⟩)
      ·
       refine⟨_,rfl,rfl,(ao rfl (bB hf rfl rfl bA rfl rfl (by simp [stC,AV.cells,AV.one,Value.oneCell']) (by simp [stC,AV.cells,AV.leaf,Value.oneCell']) (eS (k:=4) (enc:=stC) (z:=a1.length+i) (v:=v[i]) (by omega) (by rw[hsl]; omega) rfl rfl rfl) ?_))⟩
       refine aF (aH 22 [] (by kernel_rfl) ⟨?_,trivial⟩)
       ·
        refine⟨_,rfl,rfl,(ao rfl ?_)⟩
        refine aG rfl (bX rfl rfl cB bA (by omega)) ?_
        refine aF (aH 23 [] (by kernel_rfl) ⟨?_,trivial⟩)
        ·
         refine⟨_,rfl,rfl,(ao rfl (bB hf rfl rfl bA rfl rfl (by simp [stC,AV.cells,AV.one,Value.oneCell']) (by simp [stC,AV.cells,AV.leaf,Value.oneCell']) (eS (k:=4) (enc:=stC) (z:=a1.length+u.length+b1.length+i) (v:=u[i]) (by omega) (by rw[List.length_set,hsl]; omega) rfl rfl rfl) ?_))⟩
         refine aF (bS (by kernel_rfl) ?_)
         refine hK4 _ (aB (aE aA 1 rfl ?_))
         refine aG rfl (bK rfl rfl (by omega) (by omega)) ?_
         refine aE aA 1 rfl (aD ?_)
         exact⟨i+1,by omega,by omega,cF ⟨rfl,rfl,rfl,rfl,rfl,trivial⟩ (by rw[← aIw huv (by omega)]; rfl)⟩
   ·
    refine⟨_,rfl,rfl,(ao rfl (aG rfl (bZ rfl eF bA rfl (eC (k:=4) (enc:=stC) (z:=a1.length+i) (by omega) (aBy huv (by omega)) rfl) (dK (k:=4) (enc:=stC) (z:=a1.length+i) (by omega) (aBy huv (by omega)) rfl)) (aF (aH 13 [] (by kernel_rfl) ⟨?_,trivial⟩))))⟩
    ·
     refine⟨_,rfl,rfl,(ao rfl (aG rfl (bZ rfl eF bA rfl (eC (k:=4) (enc:=stC) (z:=a1.length+u.length+b1.length+i) (by omega) (aBx huv (by omega)) rfl) (dK (k:=4) (enc:=stC) (z:=a1.length+u.length+b1.length+i) (by omega) (aBx huv (by omega)) rfl)) (aF (aH 20 [] (by kernel_rfl) ⟨?_,trivial⟩))))⟩
     ·
      refine⟨_,rfl,rfl,(ao rfl ?_)⟩
      refine aG rfl (bX rfl rfl cB bA (by omega)) ?_
      refine aF (aH 21 [] (by kernel_rfl) ⟨?_,trivial⟩)
      ·
       refine⟨_,rfl,rfl,(ao rfl (bB hf rfl rfl bA rfl rfl (by simp [stC,AV.cells,AV.one,Value.oneCell']) (by simp [stC,AV.cells,AV.leaf,Value.oneCell']) (eS (k:=4) (enc:=stC) (z:=a1.length+i) (v:=v[i]) (by omega) (by rw[hsl]; omega) rfl rfl rfl) ?_))⟩
       refine aF (aH 22 [] (by kernel_rfl) ⟨?_,trivial⟩)
       ·
        refine⟨_,rfl,rfl,(ao rfl ?_)⟩
        refine aG rfl (bX rfl rfl cB bA (by omega)) ?_
        refine aF (aH 23 [] (by kernel_rfl) ⟨?_,trivial⟩)
        ·
         refine⟨_,rfl,rfl,(ao rfl (bB hf rfl rfl bA rfl rfl (by simp [stC,AV.cells,AV.one,Value.oneCell']) (by simp [stC,AV.cells,AV.leaf,Value.oneCell']) (eS (k:=4) (enc:=stC) (z:=a1.length+u.length+b1.length+i) (v:=u[i]) (by omega) (by rw[List.length_set,hsl]; omega) rfl rfl rfl) ?_))⟩
         refine aF (bS (by kernel_rfl) ?_)
         refine hK4 _ (aB (aE aA 1 rfl ?_))
         refine aG rfl (bK rfl rfl (by omega) (by omega)) ?_
         refine aE aA 1 rfl (aD ?_)
         exact⟨i+1,by omega,by omega,cF ⟨rfl,rfl,rfl,rfl,rfl,trivial⟩ (by rw[← aIw huv (by omega)]; rfl)⟩
  ·
   simp only[bs] at hc1
   refine aX ?_
   refine⟨_,_,_,Le.refl _,rfl,rfl,?_⟩
   have hi:i=u.length:=by omega
   rw[hi,swr,← huv,List.take_length,List.drop_length,huv,List.take_length,List.drop_length,List.append_nil,List.append_nil]
theorem aNg (g:Nat) (p s1 s2 q:List bC) (N:Nat) (za zm zb:Int) (hN:N=p.length+s1.length+s2.length+q.length) (hza:za=(p.length:Nat)) (hzm:zm=((p.length+s1.length:Nat):Int)) (hzb:zb=((p.length+s1.length+s2.length:Nat):Int)) (h01:0<s1.length) (h02:0<s2.length) (hM:N<4611686018427387904) :DenM Tryz.prog 198 [.own E0 4 0 N,.s (.int .i64 za),.s (.int .i64 zm),.s (.int .i64 zb),.fn g []] 4 ((List.map stC (p++(s1++(s2++q))))) (fun r ys=>ys=(List.map stC (p++(s2++(s1++q))))):=by
 subst hza
 subst hzm
 subst hzb
 refine hJ Tryz.func198 rfl (Nat.le_of_ble_eq_true rfl) (fun w0 x0 A hf=>?_)
 refine aC (fun K1 hK1=>(aB (aE aA 2 rfl ?_)))
 refine aG rfl (eZ rfl rfl (by omega) (by omega)) ?_
 refine aE aA 1 rfl (aD (hK1 _ (aC (fun K2 hK2=>(aB (aE aA 2 rfl ?_))))))
 refine aG rfl (eZ rfl rfl (by omega) (by omega)) ?_
 refine aE aA 1 rfl (aD (hK2 _ (aC (fun K3 hK3=>(aM (bM (ι:=(List bC×List bC)×(List bC×List bC)) (fun(⟨⟨L,u⟩,⟨v,R⟩⟩:(List bC×List bC)×(List bC×List bC))=>⟨58,[(0,.own E0 4 0 N),(2,.s (.int .i64 ((p.length+s1.length:Nat):Int))),(4,.fn g []),(10,.s (.int .i64 (u.length:Nat))),(11,.s (.int .i64 (v.length:Nat)))],[(E0,.buf 4 (List.map stC (L++(u++(v++R)))))]⟩) (fun(⟨⟨L,u⟩,⟨v,R⟩⟩:(List bC×List bC)×(List bC×List bC))=>L.length+u.length=p.length+s1.length∧0<u.length∧0<v.length∧L++(v++(u++R))=p++(s2++(s1++q))) (fun(⟨⟨L,u⟩,⟨v,R⟩⟩:(List bC×List bC)×(List bC×List bC))=>u.length+v.length) ((p,s1),(s2,q)) ?_ ?_ ?_))))))
 · exact⟨rfl,h01,h02,rfl⟩
 · exact cF ⟨rfl,rfl,rfl,aN (by omega),aN (by omega),trivial⟩ rfl
 ·
  rintro ⟨⟨L,u⟩,⟨v,R⟩⟩ hC
  obtain ⟨hl,hu,hv,ht⟩:=hC
  have htl:=congrArg List.length ht
  simp only[List.length_append] at htl
  have hf1:=List.length_take (i:=v.length) (l:=u)
  have hf2:=List.length_drop (i:=v.length) (l:=u)
  have hf3:=List.length_take (i:=v.length - u.length) (l:=v)
  have hf4:=List.length_drop (i:=v.length - u.length) (l:=v)
  refine aC (fun K4 hK4=>(aC (fun K5 hK5=>(aB (aE aA 3 rfl (aD (hK5 _ (aK rfl (fun hc1=>?_) (fun hc1=>?_)))))))))
  ·
   simp only[bs] at hc1
   refine aL (hK4 _ (aM (aC (fun K6 hK6=>(aB (aE aA 3 rfl (aD (hK6 _ (aK rfl (fun hc2=>?_) (fun hc2=>?_))))))))))
   ·
    simp only[bs] at hc2
    refine aC (fun K7 hK7=>(aB ?_))
    rw[show L++(u++(v++R))=L++(u.take v.length++(u.drop v.length++(v++R))) from by rw[← List.append_assoc (u.take v.length),List.take_append_drop]]
    refine aE aA 3 rfl ?_
    refine aG rfl (eZ rfl rfl (by omega) (by omega)) ?_
    refine aE aA 3 rfl (gG hf E0 rfl rfl rfl rfl rfl uH (tE g L (u.take v.length) (u.drop v.length) v R N _ _ _ (by omega) (by omega) (by omega) (by omega) (by omega) hM) ?_)
    rintro r zs rfl
    refine aD (hK7 _ (aB (aE aA 2 rfl ?_)))
    refine aG rfl (eZ rfl rfl (by omega) (by omega)) ?_
    refine aE aA 1 rfl ?_
    refine bH ?_
    exact⟨((L++v,u.drop v.length),(u.take v.length,R)),⟨by rw[List.length_append]; omega,by omega,by omega,by rw[← ht]; simp [← List.append_assoc (u.take v.length)]⟩,by simp only; omega,cF ⟨rfl,rfl,rfl,aN (by omega),aN (by omega),trivial⟩ (by rw[List.append_assoc L v]; rfl)⟩
   ·
    simp only[bs] at hc2
    refine aC (fun K8 hK8=>(aB ?_))
    rw[show L++(u++(v++R))=L++(u++(v.take (v.length - u.length)++(v.drop (v.length - u.length)++R))) from by rw[← List.append_assoc (v.take (v.length - u.length)),List.take_append_drop]]
    refine aE aA 3 rfl ?_
    refine aG rfl (eZ rfl rfl (by omega) (by omega)) ?_
    refine aE aA 2 rfl ?_
    refine aG rfl (bK rfl rfl (by omega) (by omega)) ?_
    refine aE aA 1 rfl ?_
    refine aG rfl (eZ rfl rfl (by omega) (by omega)) ?_
    refine aE aA 2 rfl (gG hf E0 rfl rfl rfl rfl rfl uH (tE g L u (v.take (v.length - u.length)) (v.drop (v.length - u.length)) R N _ _ _ (by omega) (by omega) (by omega) (by omega) (by omega) hM) ?_)
    rintro r zs rfl
    refine aD (hK8 _ (aB (aE aA 2 rfl ?_)))
    refine aG rfl (eZ rfl rfl (by omega) (by omega)) ?_
    refine aE aA 1 rfl ?_
    refine bH ?_
    exact⟨((L,v.drop (v.length - u.length)),(v.take (v.length - u.length),u++R)),⟨by omega,by omega,by omega,by rw[← ht]; simp [← List.append_assoc (v.take (v.length - u.length))]⟩,by simp only; omega,cF ⟨rfl,rfl,rfl,aN (by omega),aN (by omega),trivial⟩ rfl⟩
  ·
   simp only[bs] at hc1
   refine aX (hK3 _ (aB ?_))
   rw[show L++(u++(v++R))=L++(u++([]++(v++R))) from rfl]
   refine aE aA 3 rfl ?_
   refine aG rfl (eZ rfl rfl (by omega) (by omega)) ?_
   refine aE aA 3 rfl (gG hf E0 rfl rfl rfl rfl rfl uH (tE g L u [] v R N _ _ _ (by simp only[List.length_nil]; omega) (by omega) (by omega) (by simp only[List.length_nil]; omega) (by omega) hM) ?_)
   rintro r zs rfl
   refine bH ?_
   refine⟨_,_,_,Le.refl _,rfl,rfl,?_⟩
   rw[← ht]; rfl
theorem aCo {g:Nat} (hent:∀ args w,(callFunc g args).run Tryz.prog w=.ok (.enter g args) w) {c:bC→bC→Int} (hc:Tri c) (hcmp:∀ x y:bC,Den Tryz.prog g [.agg (stC x),.agg (stC y)] (·=.s (.int .i64 (c x y)))) (p s0 q:List bC) (N:Nat) (za zb:Int) (hN:N=p.length+s0.length+q.length) (hza:za=(p.length:Nat)) (hzb:zb=((p.length+s0.length:Nat):Int)) (hM:N<4611686018427387904) :DenM Tryz.prog 170 [.own E0 4 0 N,.s (.int .i64 za),.s (.int .i64 zb),.fn g []] 4 ((List.map stC (p++(s0++q)))) (fun r ys=>∃ t:List bC,t.Perm s0∧Srt c t∧ys=(List.map stC (p++(t++q)))):=by
 subst hza
 subst hzb
 refine hJ Tryz.func170 rfl (Nat.le_of_ble_eq_true rfl) (fun w0 x0 A hf=>?_)
 refine aC (fun K1 hK1=>(aB (aE aA 1 rfl ?_)))
 refine aG rfl (bK rfl rfl (by omega) (by omega)) ?_
 refine aE aA 1 rfl (aD (hK1 _ (aM (bM (ι:=List bC×List bC) (fun(⟨s1,s2⟩:List bC×List bC)=>⟨53,[(0,.own E0 4 0 N),(1,.s (.int .i64 (p.length:Nat))),(2,.s (.int .i64 ((p.length+s0.length:Nat):Int))),(3,.fn g []),(8,.s (.int .i64 ((p.length+1+(s1.length - 1):Nat):Int)))],[(E0,.buf 4 (List.map stC (p++(s1++(s2++q)))))]⟩) (fun(⟨s1,s2⟩:List bC×List bC)=>Srt c s1∧(s1++s2).Perm s0∧(0<s1.length∨s0=[])) (fun(⟨s1,s2⟩:List bC×List bC)=>s2.length) (s0.take 1,s0.drop 1) ?_ ?_ ?_))))
 · exact⟨srt_one (by simp; omega),by rw[List.take_append_drop],by cases s0 <;> simp⟩
 · exact cF ⟨rfl,rfl,rfl,rfl,aN (by have:=List.length_take (i:=1) (l:=s0); omega),trivial⟩ (by rw[← List.append_assoc (s0.take 1),List.take_append_drop])
 ·
  rintro ⟨s1,s2⟩ hC
  obtain ⟨hs1,hp12,hne⟩:=hC
  have hpl:=hp12.length_eq
  rw[List.length_append] at hpl
  have hnl:s0=[]→s0.length=0:=fun h=>by rw[h]; rfl
  refine aC (fun K2 hK2=>(aC (fun K3 hK3=>(aB (aE aA 3 rfl (aD (hK3 _ (aK rfl (fun hc1=>?_) (fun hc1=>?_)))))))))
  ·
   simp only[bs] at hc1
   refine aL (hK2 _ (aC (fun K4 hK4=>(aM (aC (fun K5 hK5=>(aB ?_)))))))
   have h0:0<s1.length:=by rcases hne with h | h; exact h; exfalso; have:=hnl h; omega
   obtain ⟨e,s3,rfl⟩:∃ e s3,s2=e::s3:=by
    cases s2 with
    | nil=>exfalso; simp only[List.length_nil] at hpl; omega
    | cons e r=>exact⟨e,r,rfl⟩
   simp only[List.length_cons] at hpl
   refine aE aA 2 rfl (aD (hK5 _ (aM (bM (ι:=List bC×List bC) (fun(⟨u,v⟩:List bC×List bC)=>⟨53,[(0,.own E0 4 0 N),(1,.s (.int .i64 (p.length:Nat))),(2,.s (.int .i64 ((p.length+s0.length:Nat):Int))),(3,.fn g []),(8,.s (.int .i64 ((p.length+1+(s1.length - 1):Nat):Int))),(9,.s (.int .i64 ((p.length+u.length:Nat):Int)))],[(E0,.buf 4 (List.map stC (p++(u++(e::(v++(s3++q)))))))]⟩) (fun(⟨u,v⟩:List bC×List bC)=>u++v=s1∧∀ y∈v,c e y≤0) (fun(⟨u,v⟩:List bC×List bC)=>u.length) (s1,[]) ?_ ?_ ?_))))
   · exact⟨List.append_nil _,by simp⟩
   · exact cF ⟨rfl,rfl,rfl,rfl,rfl,aN (by omega),trivial⟩ rfl
   ·
    rintro ⟨u,v⟩ hC
    obtain ⟨huv,hv⟩:=hC
    have hul:=congrArg List.length huv
    rw[List.length_append] at hul
    refine aC (fun K6 hK6=>(aC (fun K7 hK7=>(cU hf bF (by kernel_rfl) rfl (aT aA 4 rfl (fZ 21 true rfl (fun hg2=>?_) (fun hg2=>?_)))))))
    ·
     simp only[bs] at hg2
     obtain ⟨u1,z,hu1⟩:=last_of (u:=u) (by omega)
     have hu2:=congrArg List.length hu1
     simp only[List.length_append,List.length_cons,List.length_nil] at hu2
     refine aT aA 3 rfl ?_
     refine bI [(23,_),(24,_)] rfl rfl ⟨⟨rfl,rfl⟩,⟨rfl,rfl⟩,trivial⟩ rfl (bX rfl rfl cB bA (by omega)) ?_
     refine bI [(25,_)] rfl rfl ⟨⟨rfl,rfl⟩,trivial⟩ rfl (bZ rfl eF bA rfl (eC (k:=4) (enc:=stC) (z:=p.length+u.length) (by omega) (atQ (p:=p++u) (q:=v++(s3++q)) (x:=e) (by simp) (by simp)) rfl) (dK (k:=4) (enc:=stC) (z:=p.length+u.length) (by omega) (atQ (p:=p++u) (q:=v++(s3++q)) (x:=e) (by simp) (by simp)) rfl)) ?_
     refine aT aA 2 rfl ?_
     refine bI [(28,_)] rfl rfl ⟨⟨rfl,rfl⟩,trivial⟩ rfl (eZ rfl rfl (by omega) (by omega)) ?_
     refine bI [(27,_),(29,_)] rfl rfl ⟨⟨rfl,rfl⟩,⟨rfl,rfl⟩,trivial⟩ rfl (bX rfl rfl cB bA (by omega)) ?_
     refine bI [(30,_)] rfl rfl ⟨⟨rfl,rfl⟩,trivial⟩ rfl (bZ rfl eF bA rfl (eC (k:=4) (enc:=stC) (z:=p.length+u1.length) (by omega) (atQ (p:=p++u1) (q:=e::(v++(s3++q))) (x:=z) (by rw[hu1]; simp) (by simp)) rfl) (dK (k:=4) (enc:=stC) (z:=p.length+u1.length) (by omega) (atQ (p:=p++u1) (q:=e::(v++(s3++q))) (x:=z) (by rw[hu1]; simp) (by simp)) rfl)) ?_
     refine bL [(22,_),(26,_),(31,_)] rfl rfl ⟨⟨rfl,rfl⟩,⟨rfl,rfl⟩,⟨rfl,rfl⟩,trivial⟩ rfl (aO rfl rfl hent rfl (hcmp e z)) (aT aA 2 rfl (cY [0,1,2,3,8,9,34] rfl rfl rfl (hK7 _ (aK rfl (fun hc3=>?_) (fun hc3=>?_)))))
     ·
      simp only[bs] at hc3
      refine aL (hK6 _ (aC (fun K8 hK8=>(aM (fJ bF ?_)))))
      refine bQ (listed':=#[true,false,false,false,false,false,false,false,false,false,false,false,false,false,false,false,false,false]) 0 rfl (by kernel_rfl) (by kernel_rfl) (by kernel_rfl) rfl (fun _ _ h=>h) (dQ rfl) ?_
      refine bQ (listed':=#[true,true,false,false,false,false,false,false,false,false,false,false,false,false,false,false,false,false]) 1 rfl (by kernel_rfl) (by kernel_rfl) (by kernel_rfl) rfl (fun _ _ h=>h) (dQ rfl) ?_
      refine bQ (listed':=#[true,true,true,false,false,false,false,false,false,false,false,false,false,false,false,false,false,false]) 2 rfl (by kernel_rfl) (by kernel_rfl) (by kernel_rfl) rfl (fun _ _ h=>h) (dQ rfl) ?_
      refine bQ (listed':=#[true,true,true,true,false,false,false,false,false,false,false,false,false,false,false,false,false,false]) 3 rfl (by kernel_rfl) (by kernel_rfl) (by kernel_rfl) rfl (fun _ _ h=>h) (dQ rfl) ?_
      refine bQ (listed':=#[true,true,true,true,true,false,false,false,false,false,false,false,false,false,false,false,false,false]) 4 rfl (by kernel_rfl) (by kernel_rfl) (by kernel_rfl) rfl (fun _ _ h=>h) (aFt rfl rfl (by omega) (by omega)) ?_
      refine bQ (listed':=#[true,true,true,true,true,true,false,false,false,false,false,false,false,false,false,false,false,false]) 5 rfl (by kernel_rfl) (by kernel_rfl) (by kernel_rfl) rfl (fun _ _ h=>h) (dQ rfl) ?_
      refine bQ (listed':=#[true,true,true,true,true,true,true,false,false,false,false,false,false,false,false,false,false,false]) 6 rfl (by kernel_rfl) (by kernel_rfl) (by kernel_rfl) rfl (fun _ _ h=>h) (dQ rfl) ?_
      refine bQ (listed':=#[true,true,true,true,true,true,true,true,false,false,false,false,false,false,false,false,false,false]) 7 rfl (by kernel_rfl) (by kernel_rfl) (by kernel_rfl) rfl (fun _ _ h=>h) (aFt rfl rfl (by omega) (by omega)) ?_
      refine bQ (listed':=#[true,true,true,true,true,true,true,true,true,false,false,false,false,false,false,false,false,false]) 8 rfl (by kernel_rfl) (by kernel_rfl) (by kernel_rfl) rfl (fun _ _ h=>h) (kM rfl rfl cB bA (by omega)) ?_
      refine bQ (listed':=#[true,true,true,true,true,true,true,true,true,false,true,false,false,false,false,false,false,false]) 10 rfl (by kernel_rfl) (by kernel_rfl) (by kernel_rfl) rfl (fun _ _ h=>h) (dQ rfl) ?_
      refine bQ (listed':=#[true,true,true,true,true,true,true,true,true,false,true,true,false,false,false,false,false,false]) 11 rfl (by kernel_rfl) (by kernel_rfl) (by kernel_rfl) rfl (fun _ _ h=>h) (dQ rfl) ?_
      refine bQ (listed':=#[true,true,true,true,true,true,true,true,true,false,true,true,true,false,false,false,false,false]) 12 rfl (by kernel_rfl) (by kernel_rfl) (by kernel_rfl) rfl (fun _ _ h=>h) (kM rfl rfl cB bA (by omega)) ?_
      refine mL (cM [0,1,2,3,8,9,37,38,39,41,45,49] rfl) (aH 9 [13] (by kernel_rfl) ⟨?_,?_,trivial⟩)
      ·
       refine⟨_,rfl,rfl,(ao rfl (aG rfl (bZ rfl eF bA rfl (eC (k:=4) (enc:=stC) (z:=p.length+u1.length) (by omega) (atQ (p:=p++u1) (q:=e::(v++(s3++q))) (x:=z) (by rw[hu1]; simp) (by simp)) rfl) (dK (k:=4) (enc:=stC) (z:=p.length+u1.length) (by omega) (atQ (p:=p++u1) (q:=e::(v++(s3++q))) (x:=z) (by rw[hu1]; simp) (by simp)) rfl)) ?_))⟩
       refine aF (aH 13 [] (by kernel_rfl) ⟨?_,trivial⟩)
       ·
        refine⟨_,rfl,rfl,(ao rfl (aG rfl (bZ rfl eF bA rfl (eC (k:=4) (enc:=stC) (z:=p.length+u.length) (by omega) (atQ (p:=p++u) (q:=v++(s3++q)) (x:=e) (by simp) (by simp)) rfl) (dK (k:=4) (enc:=stC) (z:=p.length+u.length) (by omega) (atQ (p:=p++u) (q:=v++(s3++q)) (x:=e) (by simp) (by simp)) rfl)) ?_))⟩
        refine aF (aH 14 [] (by kernel_rfl) ⟨?_,trivial⟩)
        ·
         refine⟨_,rfl,rfl,(ao rfl ?_)⟩
         refine aG rfl (bX rfl rfl cB bA (by omega)) ?_
         refine aF (aH 15 [] (by kernel_rfl) ⟨?_,trivial⟩)
         ·
          refine⟨_,rfl,rfl,(ao rfl (bB hf rfl rfl bA rfl rfl (by simp [stC,AV.cells,AV.one,Value.oneCell']) (by simp [stC,AV.cells,AV.leaf,Value.oneCell']) (eS (k:=4) (enc:=stC) (z:=p.length+u.length) (v:=z) (by omega) (by simp only[List.length_append,List.length_cons,List.length_set]; omega) rfl rfl rfl) ?_))⟩
          refine aF (aH 16 [] (by kernel_rfl) ⟨?_,trivial⟩)
          ·
           refine⟨_,rfl,rfl,(ao rfl ?_)⟩
           refine aG rfl (bX rfl rfl cB bA (by omega)) ?_
           refine aF (aH 17 [] (by kernel_rfl) ⟨?_,trivial⟩)
           ·
            refine⟨_,rfl,rfl,(ao rfl (bB hf rfl rfl bA rfl rfl (by simp [stC,AV.cells,AV.one,Value.oneCell']) (by simp [stC,AV.cells,AV.leaf,Value.oneCell']) (eS (k:=4) (enc:=stC) (z:=p.length+u1.length) (v:=e) (by omega) (by simp only[List.length_append,List.length_cons,List.length_set]; omega) rfl rfl rfl) ?_))⟩
            refine aF (bS (by kernel_rfl) ?_)
            refine hK8 _ (aB (aE aA 1 rfl ?_))
            refine aG rfl (eZ rfl rfl (by omega) (by omega)) ?_
            refine aE aA 1 rfl (aD ?_)
            exact⟨(u1,z::v),⟨by rw[← huv,hu1]; simp,fun y hy=>by
             rcases List.mem_cons.1 hy with rfl | hy
             · omega
             · exact hv y hy⟩,by simp only; omega,cF ⟨rfl,rfl,rfl,rfl,rfl,aN (by omega),trivial⟩ (congrArg (fun l=>[(E0,AM.buf 4 (List.map stC l))]) ((uT (p:=p++u1) (x:=z) (y:=e) (q:=v++(s3++q)) (by rw[hu1]; simp) (by simp; omega) (by simp)).trans (by simp)))⟩
      ·
       refine⟨_,rfl,rfl,(ao rfl (aG rfl (bZ rfl eF bA rfl (eC (k:=4) (enc:=stC) (z:=p.length+u.length) (by omega) (atQ (p:=p++u) (q:=v++(s3++q)) (x:=e) (by simp) (by simp)) rfl) (dK (k:=4) (enc:=stC) (z:=p.length+u.length) (by omega) (atQ (p:=p++u) (q:=v++(s3++q)) (x:=e) (by simp) (by simp)) rfl)) ?_))⟩
       refine aF (aH 9 [] (by kernel_rfl) ⟨?_,trivial⟩)
       ·
        refine⟨_,rfl,rfl,(ao rfl (aG rfl (bZ rfl eF bA rfl (eC (k:=4) (enc:=stC) (z:=p.length+u1.length) (by omega) (atQ (p:=p++u1) (q:=e::(v++(s3++q))) (x:=z) (by rw[hu1]; simp) (by simp)) rfl) (dK (k:=4) (enc:=stC) (z:=p.length+u1.length) (by omega) (atQ (p:=p++u1) (q:=e::(v++(s3++q))) (x:=z) (by rw[hu1]; simp) (by simp)) rfl)) ?_))⟩
        refine aF (aH 14 [] (by kernel_rfl) ⟨?_,trivial⟩)
        ·
         refine⟨_,rfl,rfl,(ao rfl ?_)⟩
         refine aG rfl (bX rfl rfl cB bA (by omega)) ?_
         refine aF (aH 15 [] (by kernel_rfl) ⟨?_,trivial⟩)
         ·
          refine⟨_,rfl,rfl,(ao rfl (bB hf rfl rfl bA rfl rfl (by simp [stC,AV.cells,AV.one,Value.oneCell']) (by simp [stC,AV.cells,AV.leaf,Value.oneCell']) (eS (k:=4) (enc:=stC) (z:=p.length+u.length) (v:=z) (by omega) (by simp only[List.length_append,List.length_cons,List.length_set]; omega) rfl rfl rfl) ?_))⟩
          refine aF (aH 16 [] (by kernel_rfl) ⟨?_,trivial⟩)
          ·
           refine⟨_,rfl,rfl,(ao rfl ?_)⟩
           refine aG rfl (bX rfl rfl cB bA (by omega)) ?_
           refine aF (aH 17 [] (by kernel_rfl) ⟨?_,trivial⟩)
           ·
            refine⟨_,rfl,rfl,(ao rfl (bB hf rfl rfl bA rfl rfl (by simp [stC,AV.cells,AV.one,Value.oneCell']) (by simp [stC,AV.cells,AV.leaf,Value.oneCell']) (eS (k:=4) (enc:=stC) (z:=p.length+u1.length) (v:=e) (by omega) (by simp only[List.length_append,List.length_cons,List.length_set]; omega) rfl rfl rfl) ?_))⟩
            refine aF (bS (by kernel_rfl) ?_)
            refine hK8 _ (aB (aE aA 1 rfl ?_))
            refine aG rfl (eZ rfl rfl (by omega) (by omega)) ?_
            refine aE aA 1 rfl (aD ?_)
            exact⟨(u1,z::v),⟨by rw[← huv,hu1]; simp,fun y hy=>by
             rcases List.mem_cons.1 hy with rfl | hy
             · omega
             · exact hv y hy⟩,by simp only; omega,cF ⟨rfl,rfl,rfl,rfl,rfl,aN (by omega),trivial⟩ (congrArg (fun l=>[(E0,AM.buf 4 (List.map stC l))]) ((uT (p:=p++u1) (x:=z) (y:=e) (q:=v++(s3++q)) (by rw[hu1]; simp) (by simp; omega) (by simp)).trans (by simp)))⟩
     ·
      simp only[bs] at hc3
      refine aX (hK4 _ (aB (aE aA 1 rfl ?_)))
      refine aG rfl (bK rfl rfl (by omega) (by omega)) ?_
      refine aE aA 1 rfl (aD ?_)
      exact⟨(u++e::v,s3),⟨aDs hc (by rw[huv]; exact hs1) hv (fun z' hz'=>by rw[hu1] at hz'; simp at hz'; subst hz'; have:=hc.swap e z; omega),aJ2 huv hp12,.inl (by simp only[List.length_append,List.length_cons]; omega)⟩,by simp,cF ⟨rfl,rfl,rfl,rfl,aN (by simp only[List.length_append,List.length_cons]; omega),trivial⟩ (by simp)⟩
    ·
     simp only[bs] at hg2
     refine aT aA 13 rfl (cY [0,1,2,3,8,9,34] rfl rfl rfl (hK7 _ (bT rfl (aX (hK4 _ (aB (aE aA 1 rfl ?_)))))))
     refine aG rfl (bK rfl rfl (by omega) (by omega)) ?_
     refine aE aA 1 rfl (aD ?_)
     exact⟨(u++e::v,s3),⟨aDs hc (by rw[huv]; exact hs1) hv (fun z' hz'=>by rw[List.eq_nil_of_length_eq_zero (show u.length=0 by omega)] at hz'; simp at hz'),aJ2 huv hp12,.inl (by simp only[List.length_append,List.length_cons]; omega)⟩,by simp,cF ⟨rfl,rfl,rfl,rfl,aN (by simp only[List.length_append,List.length_cons]; omega),trivial⟩ (by simp)⟩
  ·
   simp only[bs] at hc1
   refine aX ?_
   have hs2:s2=[]:=List.eq_nil_of_length_eq_zero (by rcases hne with h | h; omega; have:=hnl h; omega)
   subst hs2
   exact⟨_,_,_,Le.refl _,rfl,rfl,s1,by simpa using hp12,hs1,rfl⟩
theorem aCn {g:Nat} (hent:∀ args w,(callFunc g args).run Tryz.prog w=.ok (.enter g args) w) {c:bC→bC→Int} (hc:Tri c) (hcmp:∀ x y:bC,Den Tryz.prog g [.agg (stC x),.agg (stC y)] (·=.s (.int .i64 (c x y)))) (NN:Nat) (ih:∀ (p s1 s2 q:List bC) (N:Nat) (za zm zb:Int),s1.length+s2.length≤NN→N=p.length+s1.length+s2.length+q.length→za=(p.length:Nat)→zm=((p.length+s1.length:Nat):Int)→zb=((p.length+s1.length+s2.length:Nat):Int)→0<s1.length→0<s2.length→Srt c s1→Srt c s2→N<4611686018427387904→DenM Tryz.prog 171 [.own E0 4 0 N,.s (.int .i64 za),.s (.int .i64 zm),.s (.int .i64 zb),.fn g []] 4 (List.map stC (p++(s1++(s2++q)))) (fun r ys=>∃ t:List bC,t.Perm (s1++s2)∧Srt c t∧ys=(List.map stC (p++(t++q))))) (p s1 s2 q:List bC) (N:Nat) (za zm zb:Int) (hle:s1.length+s2.length≤NN+1) (hN:N=p.length+s1.length+s2.length+q.length) (hza:za=(p.length:Nat)) (hzm:zm=((p.length+s1.length:Nat):Int)) (hzb:zb=((p.length+s1.length+s2.length:Nat):Int)) (h01:0<s1.length) (h02:0<s2.length) (hs1:Srt c s1) (hs2:Srt c s2) (hM:N<4611686018427387904) :DenM Tryz.prog 171 [.own E0 4 0 N,.s (.int .i64 za),.s (.int .i64 zm),.s (.int .i64 zb),.fn g []] 4 ((List.map stC (p++(s1++(s2++q))))) (fun r ys=>∃ t:List bC,t.Perm (s1++s2)∧Srt c t∧ys=(List.map stC (p++(t++q)))):=by
 subst hza
 subst hzm
 subst hzb
 refine hJ Tryz.func171 rfl (Nat.le_of_ble_eq_true rfl) (fun w0 x0 A hf=>?_)
 refine aC (fun K1 hK1=>(aC (fun K2 hK2=>(aB (aE aA 2 rfl ?_)))))
 refine aG rfl (eZ rfl rfl (by omega) (by omega)) ?_
 refine aE aA 1 rfl (aD (hK2 _ (aK rfl (fun hc1=>?_) (fun hc1=>?_))))
 ·
  simp only[bs] at hc1
  obtain ⟨x,hx1⟩:∃ x,s1=[x]:=List.length_eq_one_iff.1 (by omega)
  have hl1:s1.length=1:=by rw[hx1]; rfl
  refine aC (fun K3 hK3=>(aB (aE aA 2 rfl (aD (hK3 _ (aC (fun K4 hK4=>(aB (aE aA 2 rfl (aD (hK4 _ (aC (fun K5 hK5=>(aM (bM (ι:=Nat×Nat) (fun(⟨i,j⟩:Nat×Nat)=>⟨220,[(0,.own E0 4 0 N),(1,.s (.int .i64 (p.length:Nat))),(4,.fn g []),(10,.s (.int .i64 ((p.length+s1.length+i:Nat):Int))),(11,.s (.int .i64 ((p.length+s1.length+j:Nat):Int)))],[(E0,.buf 4 (List.map stC (p++(s1++(s2++q)))))]⟩) (fun(⟨i,j⟩:Nat×Nat)=>i≤j∧j≤s2.length∧(∀ z,s2[i - 1]?=some z→0<i→c z x≤0)∧(∀ z,s2[j]?=some z→c x z≤0)) (fun(⟨i,j⟩:Nat×Nat)=>j - i) (0,s2.length) ?_ ?_ ?_)))))))))))))))
  · exact⟨Nat.zero_le _,Nat.le_refl _,fun _ _ h=>absurd h (by omega),fun z hz=>by rw[List.getElem?_eq_none (Nat.le_refl _)] at hz; cases hz⟩
  · exact cF ⟨(by first | rfl | exact aN (by omega)),(by first | rfl | exact aN (by omega)),(by first | rfl | exact aN (by omega)),(by first | rfl | exact aN (by omega)),(by first | rfl | exact aN (by omega)),trivial⟩ rfl
  ·
   rintro ⟨i,j⟩ hC
   obtain ⟨q1,q2,q3,q4⟩:=hC
   refine aC (fun K6 hK6=>(aC (fun K7 hK7=>(aB (aE aA 3 rfl (aD (hK7 _ (aK rfl (fun hc2=>?_) (fun hc2=>?_)))))))))
   ·
    simp only[bs] at hc2
    refine aL (hK6 _ (aM (aC (fun K8 hK8=>(aB ?_)))))
    obtain ⟨h,eh⟩:∃ h,h=(i+j) / 2:=⟨_,rfl⟩
    have hz:=zK (a:=((p.length+s1.length+i:Nat):Int)+((p.length+s1.length+j:Nat):Int)) (b:=((p.length+s1.length+h:Nat):Int)) (by omega) (by omega) (by omega)
    refine aE aA 2 rfl ?_
    refine aG rfl (bK rfl rfl (by omega) (by omega)) ?_
    refine aG rfl (oE rfl Tryz.underlying3 Tryz.underlying228 hz.1) (aG rfl (zA rfl hz.2.1 (by decide)) (aG rfl (oE rfl Tryz.underlying228 Tryz.underlying3 hz.2.2) (aE aA 1 rfl (aD (hK8 _ (aC (fun K9 hK9=>(cU hf bF (by kernel_rfl) rfl ?_))))))))
    have hh2:h<s2.length:=by omega
    refine aT aA 3 rfl ?_
    refine bI [(41,_),(42,_)] rfl rfl ⟨⟨rfl,rfl⟩,⟨rfl,rfl⟩,trivial⟩ rfl (bX rfl rfl cB bA (by omega)) ?_
    refine bI [(43,_)] rfl rfl ⟨⟨rfl,rfl⟩,trivial⟩ rfl (bZ rfl eF bA rfl (eC (k:=4) (enc:=stC) (z:=p.length+s1.length+h) (by omega) (atM hh2) rfl) (dK (k:=4) (enc:=stC) (z:=p.length+s1.length+h) (by omega) (atM hh2) rfl)) (aT aA 2 rfl ?_)
    refine bI [(45,_),(46,_)] rfl rfl ⟨⟨rfl,rfl⟩,⟨rfl,rfl⟩,trivial⟩ rfl (bX rfl rfl cB bA (by omega)) ?_
    refine bI [(47,_)] rfl rfl ⟨⟨rfl,rfl⟩,trivial⟩ rfl (bZ rfl eF bA rfl (eC (k:=4) (enc:=stC) (z:=p.length) (by omega) (atQ (p:=p) (q:=s2++q) (by rw[hx1]; rfl) rfl) rfl) (dK (k:=4) (enc:=stC) (z:=p.length) (by omega) (atQ (p:=p) (q:=s2++q) (by rw[hx1]; rfl) rfl) rfl)) ?_
    refine bL [(40,_),(44,_),(48,_)] rfl rfl ⟨⟨rfl,rfl⟩,⟨rfl,rfl⟩,⟨rfl,rfl⟩,trivial⟩ rfl (aO rfl rfl hent rfl (hcmp s2[h] x)) (aT aA 1 rfl (cY [0,1,4,10,11,12,50] rfl rfl rfl (hK9 _ (aK rfl (fun hc3=>?_) (fun hc3=>?_)))))
    ·
     simp only[bs] at hc3
     refine aB (aE aA 1 rfl ?_)
     refine aG rfl (bK rfl rfl (by omega) (by omega)) ?_
     refine aE aA 1 rfl ?_
     refine bH ?_
     exact⟨(h+1,j),⟨by omega,by omega,fun z hz _=>by rw[Nat.add_sub_cancel,List.getElem?_eq_getElem hh2] at hz; cases hz; omega,q4⟩,by simp only; omega,cF ⟨(by first | rfl | exact aN (by omega)),(by first | rfl | exact aN (by omega)),(by first | rfl | exact aN (by omega)),(by first | rfl | exact aN (by omega)),(by first | rfl | exact aN (by omega)),trivial⟩ rfl⟩
    ·
     simp only[bs] at hc3
     refine aB (aE aA 2 rfl ?_)
     refine bH ?_
     exact⟨(i,h),⟨by omega,by omega,q3,fun z hz=>by rw[List.getElem?_eq_getElem hh2] at hz; cases hz; have:=hc.swap s2[h] x; omega⟩,by simp only; omega,cF ⟨(by first | rfl | exact aN (by omega)),(by first | rfl | exact aN (by omega)),(by first | rfl | exact aN (by omega)),(by first | rfl | exact aN (by omega)),(by first | rfl | exact aN (by omega)),trivial⟩ rfl⟩
   ·
    simp only[bs] at hc2
    refine aX (hK5 _ (aC (fun K10 hK10=>(aC (fun K11 hK11=>(aB (aE aA 2 rfl (aD (hK11 _ (aM (bM (ι:=Nat) (fun t=>⟨220,[(0,.own E0 4 0 N),(10,.s (.int .i64 ((p.length+s1.length+i:Nat):Int))),(13,.s (.int .i64 ((p.length+t:Nat):Int)))],[(E0,.buf 4 (List.map stC (p++(s2.take t++(x::(s2.drop t++q))))))]⟩) (fun t=>t≤i) (fun t=>i - t) 0 ?_ ?_ ?_)))))))))))
    · exact Nat.zero_le _
    · exact cF ⟨(by first | rfl | exact aN (by omega)),(by first | rfl | exact aN (by omega)),(by first | rfl | exact aN (by omega)),trivial⟩ (by rw[hx1]; rfl)
    ·
     rintro t hC
     have hq:=hC
     refine aC (fun K12 hK12=>(aC (fun K13 hK13=>(aB (aE aA 2 rfl ?_)))))
     refine aG rfl (eZ rfl rfl (by omega) (by omega)) ?_
     refine aE aA 1 rfl (aD (hK13 _ (aK rfl (fun hc4=>?_) (fun hc4=>?_))))
     ·
      simp only[bs] at hc4
      refine aL (hK12 _ (aC (fun K14 hK14=>(aM (fJ bF ?_)))))
      refine bQ (listed':=#[true,false,false,false,false,false,false,false,false,false,false,false,false,false,false,false,false,false]) 0 rfl (by kernel_rfl) (by kernel_rfl) (by kernel_rfl) rfl (fun _ _ h=>h) (dQ rfl) ?_
      refine bQ (listed':=#[true,true,false,false,false,false,false,false,false,false,false,false,false,false,false,false,false,false]) 1 rfl (by kernel_rfl) (by kernel_rfl) (by kernel_rfl) rfl (fun _ _ h=>h) (dQ rfl) ?_
      refine bQ (listed':=#[true,true,true,false,false,false,false,false,false,false,false,false,false,false,false,false,false,false]) 2 rfl (by kernel_rfl) (by kernel_rfl) (by kernel_rfl) rfl (fun _ _ h=>h) (dQ rfl) ?_
      refine bQ (listed':=#[true,true,true,true,false,false,false,false,false,false,false,false,false,false,false,false,false,false]) 3 rfl (by kernel_rfl) (by kernel_rfl) (by kernel_rfl) rfl (fun _ _ h=>h) (dQ rfl) ?_
      refine bQ (listed':=#[true,true,true,true,true,false,false,false,false,false,false,false,false,false,false,false,false,false]) 4 rfl (by kernel_rfl) (by kernel_rfl) (by kernel_rfl) rfl (fun _ _ h=>h) (aFu rfl rfl (by omega) (by omega)) ?_
      refine bQ (listed':=#[true,true,true,true,true,true,false,false,false,false,false,false,false,false,false,false,false,false]) 5 rfl (by kernel_rfl) (by kernel_rfl) (by kernel_rfl) rfl (fun _ _ h=>h) (dQ rfl) ?_
      refine bQ (listed':=#[true,true,true,true,true,true,true,false,false,false,false,false,false,false,false,false,false,false]) 6 rfl (by kernel_rfl) (by kernel_rfl) (by kernel_rfl) rfl (fun _ _ h=>h) (dQ rfl) ?_
      refine bQ (listed':=#[true,true,true,true,true,true,true,true,false,false,false,false,false,false,false,false,false,false]) 7 rfl (by kernel_rfl) (by kernel_rfl) (by kernel_rfl) rfl (fun _ _ h=>h) (aFu rfl rfl (by omega) (by omega)) ?_
      refine bQ (listed':=#[true,true,true,true,true,true,true,true,true,false,false,false,false,false,false,false,false,false]) 8 rfl (by kernel_rfl) (by kernel_rfl) (by kernel_rfl) rfl (fun _ _ h=>h) (kM rfl rfl cB bA (by omega)) ?_
      refine bQ (listed':=#[true,true,true,true,true,true,true,true,true,false,true,false,false,false,false,false,false,false]) 10 rfl (by kernel_rfl) (by kernel_rfl) (by kernel_rfl) rfl (fun _ _ h=>h) (dQ rfl) ?_
      refine bQ (listed':=#[true,true,true,true,true,true,true,true,true,false,true,true,false,false,false,false,false,false]) 11 rfl (by kernel_rfl) (by kernel_rfl) (by kernel_rfl) rfl (fun _ _ h=>h) (dQ rfl) ?_
      refine bQ (listed':=#[true,true,true,true,true,true,true,true,true,false,true,true,true,false,false,false,false,false]) 12 rfl (by kernel_rfl) (by kernel_rfl) (by kernel_rfl) rfl (fun _ _ h=>h) (kM rfl rfl cB bA (by omega)) ?_
      refine mL (cM [0,10,13,61,62,63,65,69,73] rfl) (aH 9 [13] (by kernel_rfl) ⟨?_,?_,trivial⟩)
      ·
       refine⟨_,rfl,rfl,(ao rfl (aG rfl (bZ rfl eF bA rfl (eC (k:=4) (enc:=stC) (z:=p.length+t+1) (by omega) (atQ (p:=p++(s2.take t++[x])) (q:=s2.drop (t+1)++q) (x:=s2[t]) (by rw[List.drop_eq_getElem_cons (show t<s2.length by omega)]; simp only[List.append_assoc,List.cons_append,List.nil_append]) (by simp only[List.length_append,List.length_take,List.length_cons,List.length_nil]; omega)) rfl) (dK (k:=4) (enc:=stC) (z:=p.length+t+1) (by omega) (atQ (p:=p++(s2.take t++[x])) (q:=s2.drop (t+1)++q) (x:=s2[t]) (by rw[List.drop_eq_getElem_cons (show t<s2.length by omega)]; simp only[List.append_assoc,List.cons_append,List.nil_append]) (by simp only[List.length_append,List.length_take,List.length_cons,List.length_nil]; omega)) rfl)) ?_))⟩
       refine aF (aH 13 [] (by kernel_rfl) ⟨?_,trivial⟩)
       ·
        refine⟨_,rfl,rfl,(ao rfl (aG rfl (bZ rfl eF bA rfl (eC (k:=4) (enc:=stC) (z:=p.length+t) (by omega) (atQ (p:=p++s2.take t) (q:=s2.drop t++q) (x:=x) (by simp only[List.append_assoc]) (by(try simp only[List.length_take,List.length_drop,List.length_append]); omega)) rfl) (dK (k:=4) (enc:=stC) (z:=p.length+t) (by omega) (atQ (p:=p++s2.take t) (q:=s2.drop t++q) (x:=x) (by simp only[List.append_assoc]) (by(try simp only[List.length_take,List.length_drop,List.length_append]); omega)) rfl)) ?_))⟩
        refine aF (aH 14 [] (by kernel_rfl) ⟨?_,trivial⟩)
        ·
         refine⟨_,rfl,rfl,(ao rfl ?_)⟩
         refine aG rfl (bX rfl rfl cB bA (by omega)) ?_
         refine aF (aH 15 [] (by kernel_rfl) ⟨?_,trivial⟩)
         ·
          refine⟨_,rfl,rfl,(ao rfl (bB hf rfl rfl bA rfl rfl (by simp [stC,AV.cells,AV.one,Value.oneCell']) (by simp [stC,AV.cells,AV.leaf,Value.oneCell']) (eS (k:=4) (enc:=stC) (z:=p.length+t) (v:=s2[t]) (by omega) (by simp only[List.length_append,List.length_cons,List.length_set,List.length_take,List.length_drop]; omega) rfl rfl rfl) ?_))⟩
          refine aF (aH 16 [] (by kernel_rfl) ⟨?_,trivial⟩)
          ·
           refine⟨_,rfl,rfl,(ao rfl ?_)⟩
           refine aG rfl (bX rfl rfl cB bA (by omega)) ?_
           refine aF (aH 17 [] (by kernel_rfl) ⟨?_,trivial⟩)
           ·
            refine⟨_,rfl,rfl,(ao rfl (bB hf rfl rfl bA rfl rfl (by simp [stC,AV.cells,AV.one,Value.oneCell']) (by simp [stC,AV.cells,AV.leaf,Value.oneCell']) (eS (k:=4) (enc:=stC) (z:=p.length+t+1) (v:=x) (by omega) (by simp only[List.length_append,List.length_cons,List.length_set,List.length_take,List.length_drop]; omega) rfl rfl rfl) ?_))⟩
            refine aF (bS (by kernel_rfl) ?_)
            refine hK14 _ (aB (aE aA 1 rfl ?_))
            refine aG rfl (bK rfl rfl (by omega) (by omega)) ?_
            refine aE aA 1 rfl (aD ?_)
            exact⟨t+1,by omega,by omega,cF ⟨(by first | rfl | exact aN (by omega)),(by first | rfl | exact aN (by omega)),(by first | rfl | exact aN (by omega)),trivial⟩ (congrArg (fun l=>[(E0,AM.buf 4 (List.map stC l))]) ((aPn (p:=p++s2.take t) (x:=x) (y:=s2[t]) (q:=s2.drop (t+1)++q) (by rw[List.drop_eq_getElem_cons (show t<s2.length by omega)]; simp only[List.append_assoc,List.cons_append]) (by(try simp only[List.length_take,List.length_drop,List.length_append]); omega) (by(try simp only[List.length_take,List.length_drop,List.length_append]); omega)).trans (by rw[← List.take_append_getElem (show t<s2.length by omega)]; simp only[List.append_assoc,List.cons_append,List.nil_append])))⟩
      ·
       refine⟨_,rfl,rfl,(ao rfl (aG rfl (bZ rfl eF bA rfl (eC (k:=4) (enc:=stC) (z:=p.length+t) (by omega) (atQ (p:=p++s2.take t) (q:=s2.drop t++q) (x:=x) (by simp only[List.append_assoc]) (by(try simp only[List.length_take,List.length_drop,List.length_append]); omega)) rfl) (dK (k:=4) (enc:=stC) (z:=p.length+t) (by omega) (atQ (p:=p++s2.take t) (q:=s2.drop t++q) (x:=x) (by simp only[List.append_assoc]) (by(try simp only[List.length_take,List.length_drop,List.length_append]); omega)) rfl)) ?_))⟩
       refine aF (aH 9 [] (by kernel_rfl) ⟨?_,trivial⟩)
       ·
        refine⟨_,rfl,rfl,(ao rfl (aG rfl (bZ rfl eF bA rfl (eC (k:=4) (enc:=stC) (z:=p.length+t+1) (by omega) (atQ (p:=p++(s2.take t++[x])) (q:=s2.drop (t+1)++q) (x:=s2[t]) (by rw[List.drop_eq_getElem_cons (show t<s2.length by omega)]; simp only[List.append_assoc,List.cons_append,List.nil_append]) (by simp only[List.length_append,List.length_take,List.length_cons,List.length_nil]; omega)) rfl) (dK (k:=4) (enc:=stC) (z:=p.length+t+1) (by omega) (atQ (p:=p++(s2.take t++[x])) (q:=s2.drop (t+1)++q) (x:=s2[t]) (by rw[List.drop_eq_getElem_cons (show t<s2.length by omega)]; simp only[List.append_assoc,List.cons_append,List.nil_append]) (by simp only[List.length_append,List.length_take,List.length_cons,List.length_nil]; omega)) rfl)) ?_))⟩
        refine aF (aH 14 [] (by kernel_rfl) ⟨?_,trivial⟩)
        ·
         refine⟨_,rfl,rfl,(ao rfl ?_)⟩
         refine aG rfl (bX rfl rfl cB bA (by omega)) ?_
         refine aF (aH 15 [] (by kernel_rfl) ⟨?_,trivial⟩)
         ·
          refine⟨_,rfl,rfl,(ao rfl (bB hf rfl rfl bA rfl rfl (by simp [stC,AV.cells,AV.one,Value.oneCell']) (by simp [stC,AV.cells,AV.leaf,Value.oneCell']) (eS (k:=4) (enc:=stC) (z:=p.length+t) (v:=s2[t]) (by omega) (by simp only[List.length_append,List.length_cons,List.length_set,List.length_take,List.length_drop]; omega) rfl rfl rfl) ?_))⟩
          refine aF (aH 16 [] (by kernel_rfl) ⟨?_,trivial⟩)
          ·
           refine⟨_,rfl,rfl,(ao rfl ?_)⟩
           refine aG rfl (bX rfl rfl cB bA (by omega)) ?_
           refine aF (aH 17 [] (by kernel_rfl) ⟨?_,trivial⟩)
           ·
            refine⟨_,rfl,rfl,(ao rfl (bB hf rfl rfl bA rfl rfl (by simp [stC,AV.cells,AV.one,Value.oneCell']) (by simp [stC,AV.cells,AV.leaf,Value.oneCell']) (eS (k:=4) (enc:=stC) (z:=p.length+t+1) (v:=x) (by omega) (by simp only[List.length_append,List.length_cons,List.length_set,List.length_take,List.length_drop]; omega) rfl rfl rfl) ?_))⟩
            refine aF (bS (by kernel_rfl) ?_)
            refine hK14 _ (aB (aE aA 1 rfl ?_))
            refine aG rfl (bK rfl rfl (by omega) (by omega)) ?_
            refine aE aA 1 rfl (aD ?_)
            exact⟨t+1,by omega,by omega,cF ⟨(by first | rfl | exact aN (by omega)),(by first | rfl | exact aN (by omega)),(by first | rfl | exact aN (by omega)),trivial⟩ (congrArg (fun l=>[(E0,AM.buf 4 (List.map stC l))]) ((aPn (p:=p++s2.take t) (x:=x) (y:=s2[t]) (q:=s2.drop (t+1)++q) (by rw[List.drop_eq_getElem_cons (show t<s2.length by omega)]; simp only[List.append_assoc,List.cons_append]) (by(try simp only[List.length_take,List.length_drop,List.length_append]); omega) (by(try simp only[List.length_take,List.length_drop,List.length_append]); omega)).trans (by rw[← List.take_append_getElem (show t<s2.length by omega)]; simp only[List.append_assoc,List.cons_append,List.nil_append])))⟩
     ·
      simp only[bs] at hc4
      refine aX (hK10 _ (aI ?_))
      have hti:t=i:=by omega
      subst hti
      have hij:t=j:=by omega
      subst hij
      exact⟨_,_,_,Le.refl _,rfl,rfl,s2.take t++x::s2.drop t,by rw[hx1]; exact put_perm,aJh hc hs2 (by omega) q3 q4,by simp only[List.append_assoc,List.cons_append]⟩
 ·
  simp only[bs] at hc1
  refine aL (hK1 _ (aC (fun K15 hK15=>(aC (fun K16 hK16=>(aB (aE aA 2 rfl ?_)))))))
  refine aG rfl (eZ rfl rfl (by omega) (by omega)) ?_
  refine aE aA 1 rfl (aD (hK16 _ (aK rfl (fun hc5=>?_) (fun hc5=>?_))))
  ·
   simp only[bs] at hc5
   obtain ⟨x,hx2⟩:∃ x,s2=[x]:=List.length_eq_one_iff.1 (by omega)
   have hl2:s2.length=1:=by rw[hx2]; rfl
   refine aC (fun K17 hK17=>(aB (aE aA 2 rfl (aD (hK17 _ (aC (fun K18 hK18=>(aB (aE aA 2 rfl (aD (hK18 _ (aC (fun K19 hK19=>(aM (bM (ι:=Nat×Nat) (fun(⟨i,j⟩:Nat×Nat)=>⟨220,[(0,.own E0 4 0 N),(2,.s (.int .i64 ((p.length+s1.length:Nat):Int))),(4,.fn g []),(14,.s (.int .i64 ((p.length+i:Nat):Int))),(15,.s (.int .i64 ((p.length+j:Nat):Int)))],[(E0,.buf 4 (List.map stC (p++(s1++(s2++q)))))]⟩) (fun(⟨i,j⟩:Nat×Nat)=>i≤j∧j≤s1.length∧(∀ z,s1[i - 1]?=some z→0<i→c z x≤0)∧(∀ z,s1[j]?=some z→c x z≤0)) (fun(⟨i,j⟩:Nat×Nat)=>j - i) (0,s1.length) ?_ ?_ ?_)))))))))))))))
   · exact⟨Nat.zero_le _,Nat.le_refl _,fun _ _ h=>absurd h (by omega),fun z hz=>by rw[List.getElem?_eq_none (Nat.le_refl _)] at hz; cases hz⟩
   · exact cF ⟨(by first | rfl | exact aN (by omega)),(by first | rfl | exact aN (by omega)),(by first | rfl | exact aN (by omega)),(by first | rfl | exact aN (by omega)),(by first | rfl | exact aN (by omega)),trivial⟩ rfl
   ·
    rintro ⟨i,j⟩ hC
    obtain ⟨q1,q2,q3,q4⟩:=hC
    refine aC (fun K20 hK20=>(aC (fun K21 hK21=>(aB (aE aA 3 rfl (aD (hK21 _ (aK rfl (fun hc6=>?_) (fun hc6=>?_)))))))))
    ·
     simp only[bs] at hc6
     refine aL (hK20 _ (aM (aC (fun K22 hK22=>(aB ?_)))))
     obtain ⟨h,eh⟩:∃ h,h=(i+j) / 2:=⟨_,rfl⟩
     have hz:=zK (a:=((p.length+i:Nat):Int)+((p.length+j:Nat):Int)) (b:=((p.length+h:Nat):Int)) (by omega) (by omega) (by omega)
     refine aE aA 2 rfl ?_
     refine aG rfl (bK rfl rfl (by omega) (by omega)) ?_
     refine aG rfl (oE rfl Tryz.underlying3 Tryz.underlying228 hz.1) (aG rfl (zA rfl hz.2.1 (by decide)) (aG rfl (oE rfl Tryz.underlying228 Tryz.underlying3 hz.2.2) (aE aA 1 rfl (aD (hK22 _ (aC (fun K23 hK23=>(cU hf bF (by kernel_rfl) rfl ?_))))))))
     have hh2:h<s1.length:=by omega
     refine aT aA 3 rfl ?_
     refine bI [(93,_),(94,_)] rfl rfl ⟨⟨rfl,rfl⟩,⟨rfl,rfl⟩,trivial⟩ rfl (bX rfl rfl cB bA (by omega)) ?_
     refine bI [(95,_)] rfl rfl ⟨⟨rfl,rfl⟩,trivial⟩ rfl (bZ rfl eF bA rfl (eC (k:=4) (enc:=stC) (z:=p.length+s1.length) (by omega) (atQ (p:=p++s1) (q:=q) (x:=x) (by rw[hx2]; simp) (by simp)) rfl) (dK (k:=4) (enc:=stC) (z:=p.length+s1.length) (by omega) (atQ (p:=p++s1) (q:=q) (x:=x) (by rw[hx2]; simp) (by simp)) rfl)) ?_
     refine aT aA 2 rfl ?_
     refine bI [(97,_),(98,_)] rfl rfl ⟨⟨rfl,rfl⟩,⟨rfl,rfl⟩,trivial⟩ rfl (bX rfl rfl cB bA (by omega)) ?_
     refine bI [(99,_)] rfl rfl ⟨⟨rfl,rfl⟩,trivial⟩ rfl (bZ rfl eF bA rfl (eC (k:=4) (enc:=stC) (z:=p.length+h) (by omega) (atL hh2) rfl) (dK (k:=4) (enc:=stC) (z:=p.length+h) (by omega) (atL hh2) rfl)) (bL [(92,_),(96,_),(100,_)] rfl rfl ⟨⟨rfl,rfl⟩,⟨rfl,rfl⟩,⟨rfl,rfl⟩,trivial⟩ rfl (aO rfl rfl hent rfl (hcmp x s1[h])) (aT aA 2 rfl (cY [0,2,4,14,15,16,103] rfl rfl rfl (hK23 _ (aK rfl (fun hc7=>?_) (fun hc7=>?_))))))
     ·
      simp only[bs] at hc7
      refine aB (aE aA 1 rfl ?_)
      refine aG rfl (bK rfl rfl (by omega) (by omega)) ?_
      refine aE aA 1 rfl ?_
      refine bH ?_
      exact⟨(h+1,j),⟨by omega,by omega,fun z hz _=>by rw[Nat.add_sub_cancel,List.getElem?_eq_getElem hh2] at hz; cases hz; have:=hc.swap x s1[h]; omega,q4⟩,by simp only; omega,cF ⟨(by first | rfl | exact aN (by omega)),(by first | rfl | exact aN (by omega)),(by first | rfl | exact aN (by omega)),(by first | rfl | exact aN (by omega)),(by first | rfl | exact aN (by omega)),trivial⟩ rfl⟩
     ·
      simp only[bs] at hc7
      refine aB (aE aA 2 rfl ?_)
      refine bH ?_
      exact⟨(i,h),⟨by omega,by omega,q3,fun z hz=>by rw[List.getElem?_eq_getElem hh2] at hz; cases hz; omega⟩,by simp only; omega,cF ⟨(by first | rfl | exact aN (by omega)),(by first | rfl | exact aN (by omega)),(by first | rfl | exact aN (by omega)),(by first | rfl | exact aN (by omega)),(by first | rfl | exact aN (by omega)),trivial⟩ rfl⟩
    ·
     simp only[bs] at hc6
     refine aX (hK19 _ (aC (fun K24 hK24=>(aC (fun K25 hK25=>(aB (aE aA 2 rfl (aD (hK25 _ (aM (bM (ι:=Nat) (fun t=>⟨220,[(0,.own E0 4 0 N),(14,.s (.int .i64 ((p.length+i:Nat):Int))),(17,.s (.int .i64 ((p.length+t:Nat):Int)))],[(E0,.buf 4 (List.map stC (p++(s1.take t++(x::(s1.drop t++q))))))]⟩) (fun t=>i≤t∧t≤s1.length) (fun t=>t) s1.length ?_ ?_ ?_)))))))))))
     · exact⟨by omega,Nat.le_refl _⟩
     · exact cF ⟨(by first | rfl | exact aN (by omega)),(by first | rfl | exact aN (by omega)),(by first | rfl | exact aN (by omega)),trivial⟩ (by rw[hx2,List.take_length,List.drop_length]; rfl)
     ·
      rintro t hC
      obtain ⟨hq,hq2⟩:=hC
      refine aC (fun K26 hK26=>(aC (fun K27 hK27=>(aB (aE aA 3 rfl (aD (hK27 _ (aK rfl (fun hc8=>?_) (fun hc8=>?_)))))))))
      ·
       simp only[bs] at hc8
       refine aL (hK26 _ (aC (fun K28 hK28=>(aM (fJ bF ?_)))))
       have hsp:p++(s1.take t++(x::(s1.drop t++q)))=(p++s1.take (t - 1))++s1[t - 1]::x::(s1.drop t++q):=by
        rw[show s1.take t=s1.take (t - 1)++[s1[t - 1]] from by rw[List.take_append_getElem (show t - 1<s1.length by omega),show t - 1+1=t by omega]]
        simp only[List.append_assoc,List.cons_append,List.nil_append]
       refine bQ (listed':=#[true,false,false,false,false,false,false,false,false,false,false,false,false,false,false,false,false,false]) 0 rfl (by kernel_rfl) (by kernel_rfl) (by kernel_rfl) rfl (fun _ _ h=>h) (dQ rfl) ?_
       refine bQ (listed':=#[true,true,false,false,false,false,false,false,false,false,false,false,false,false,false,false,false,false]) 1 rfl (by kernel_rfl) (by kernel_rfl) (by kernel_rfl) rfl (fun _ _ h=>h) (dQ rfl) ?_
       refine bQ (listed':=#[true,true,true,false,false,false,false,false,false,false,false,false,false,false,false,false,false,false]) 2 rfl (by kernel_rfl) (by kernel_rfl) (by kernel_rfl) rfl (fun _ _ h=>h) (dQ rfl) ?_
       refine bQ (listed':=#[true,true,true,true,false,false,false,false,false,false,false,false,false,false,false,false,false,false]) 3 rfl (by kernel_rfl) (by kernel_rfl) (by kernel_rfl) rfl (fun _ _ h=>h) (dQ rfl) ?_
       refine bQ (listed':=#[true,true,true,true,true,false,false,false,false,false,false,false,false,false,false,false,false,false]) 4 rfl (by kernel_rfl) (by kernel_rfl) (by kernel_rfl) rfl (fun _ _ h=>h) (aFt rfl rfl (by omega) (by omega)) ?_
       refine bQ (listed':=#[true,true,true,true,true,true,false,false,false,false,false,false,false,false,false,false,false,false]) 5 rfl (by kernel_rfl) (by kernel_rfl) (by kernel_rfl) rfl (fun _ _ h=>h) (dQ rfl) ?_
       refine bQ (listed':=#[true,true,true,true,true,true,true,false,false,false,false,false,false,false,false,false,false,false]) 6 rfl (by kernel_rfl) (by kernel_rfl) (by kernel_rfl) rfl (fun _ _ h=>h) (dQ rfl) ?_
       refine bQ (listed':=#[true,true,true,true,true,true,true,true,false,false,false,false,false,false,false,false,false,false]) 7 rfl (by kernel_rfl) (by kernel_rfl) (by kernel_rfl) rfl (fun _ _ h=>h) (aFt rfl rfl (by omega) (by omega)) ?_
       refine bQ (listed':=#[true,true,true,true,true,true,true,true,true,false,false,false,false,false,false,false,false,false]) 8 rfl (by kernel_rfl) (by kernel_rfl) (by kernel_rfl) rfl (fun _ _ h=>h) (kM rfl rfl cB bA (by omega)) ?_
       refine bQ (listed':=#[true,true,true,true,true,true,true,true,true,false,true,false,false,false,false,false,false,false]) 10 rfl (by kernel_rfl) (by kernel_rfl) (by kernel_rfl) rfl (fun _ _ h=>h) (dQ rfl) ?_
       refine bQ (listed':=#[true,true,true,true,true,true,true,true,true,false,true,true,false,false,false,false,false,false]) 11 rfl (by kernel_rfl) (by kernel_rfl) (by kernel_rfl) rfl (fun _ _ h=>h) (dQ rfl) ?_
       refine bQ (listed':=#[true,true,true,true,true,true,true,true,true,false,true,true,true,false,false,false,false,false]) 12 rfl (by kernel_rfl) (by kernel_rfl) (by kernel_rfl) rfl (fun _ _ h=>h) (kM rfl rfl cB bA (by omega)) ?_
       refine mL (cM [0,14,17,113,114,115,117,121,125] rfl) (aH 9 [13] (by kernel_rfl) ⟨?_,?_,trivial⟩)
       ·
        refine⟨_,rfl,rfl,(ao rfl (aG rfl (bZ rfl eF bA rfl (eC (k:=4) (enc:=stC) (z:=p.length+(t - 1)) (by omega) (atQ (p:=p++s1.take (t - 1)) (q:=x::(s1.drop t++q)) (x:=s1[t - 1]) hsp (by(try simp only[List.length_take,List.length_drop,List.length_append]); omega)) rfl) (dK (k:=4) (enc:=stC) (z:=p.length+(t - 1)) (by omega) (atQ (p:=p++s1.take (t - 1)) (q:=x::(s1.drop t++q)) (x:=s1[t - 1]) hsp (by(try simp only[List.length_take,List.length_drop,List.length_append]); omega)) rfl)) ?_))⟩
        refine aF (aH 13 [] (by kernel_rfl) ⟨?_,trivial⟩)
        ·
         refine⟨_,rfl,rfl,(ao rfl (aG rfl (bZ rfl eF bA rfl (eC (k:=4) (enc:=stC) (z:=p.length+t) (by omega) (atQ (p:=p++s1.take t) (q:=s1.drop t++q) (x:=x) (by simp only[List.append_assoc]) (by(try simp only[List.length_take,List.length_drop,List.length_append]); omega)) rfl) (dK (k:=4) (enc:=stC) (z:=p.length+t) (by omega) (atQ (p:=p++s1.take t) (q:=s1.drop t++q) (x:=x) (by simp only[List.append_assoc]) (by(try simp only[List.length_take,List.length_drop,List.length_append]); omega)) rfl)) ?_))⟩
         refine aF (aH 14 [] (by kernel_rfl) ⟨?_,trivial⟩)
         ·
          refine⟨_,rfl,rfl,(ao rfl ?_)⟩
          refine aG rfl (bX rfl rfl cB bA (by omega)) ?_
          refine aF (aH 15 [] (by kernel_rfl) ⟨?_,trivial⟩)
          ·
           refine⟨_,rfl,rfl,(ao rfl (bB hf rfl rfl bA rfl rfl (by simp [stC,AV.cells,AV.one,Value.oneCell']) (by simp [stC,AV.cells,AV.leaf,Value.oneCell']) (eS (k:=4) (enc:=stC) (z:=p.length+t) (v:=s1[t - 1]) (by omega) (by simp only[List.length_append,List.length_cons,List.length_set,List.length_take,List.length_drop]; omega) rfl rfl rfl) ?_))⟩
           refine aF (aH 16 [] (by kernel_rfl) ⟨?_,trivial⟩)
           ·
            refine⟨_,rfl,rfl,(ao rfl ?_)⟩
            refine aG rfl (bX rfl rfl cB bA (by omega)) ?_
            refine aF (aH 17 [] (by kernel_rfl) ⟨?_,trivial⟩)
            ·
             refine⟨_,rfl,rfl,(ao rfl (bB hf rfl rfl bA rfl rfl (by simp [stC,AV.cells,AV.one,Value.oneCell']) (by simp [stC,AV.cells,AV.leaf,Value.oneCell']) (eS (k:=4) (enc:=stC) (z:=p.length+(t - 1)) (v:=x) (by omega) (by simp only[List.length_append,List.length_cons,List.length_set,List.length_take,List.length_drop]; omega) rfl rfl rfl) ?_))⟩
             refine aF (bS (by kernel_rfl) ?_)
             refine hK28 _ (aB (aE aA 1 rfl ?_))
             refine aG rfl (eZ rfl rfl (by omega) (by omega)) ?_
             refine aE aA 1 rfl (aD ?_)
             exact⟨t - 1,⟨by omega,by omega⟩,by omega,cF ⟨(by first | rfl | exact aN (by omega)),(by first | rfl | exact aN (by omega)),(by first | rfl | exact aN (by omega)),trivial⟩ (congrArg (fun l=>[(E0,AM.buf 4 (List.map stC l))]) ((uT (p:=p++s1.take (t - 1)) (x:=s1[t - 1]) (y:=x) (q:=s1.drop t++q) hsp (by(try simp only[List.length_take,List.length_drop,List.length_append]); omega) (by(try simp only[List.length_take,List.length_drop,List.length_append]); omega)).trans (by rw[List.drop_eq_getElem_cons (show t - 1<s1.length by omega),show t - 1+1=t by omega]; simp only[List.append_assoc,List.cons_append])))⟩
       ·
        refine⟨_,rfl,rfl,(ao rfl (aG rfl (bZ rfl eF bA rfl (eC (k:=4) (enc:=stC) (z:=p.length+t) (by omega) (atQ (p:=p++s1.take t) (q:=s1.drop t++q) (x:=x) (by simp only[List.append_assoc]) (by(try simp only[List.length_take,List.length_drop,List.length_append]); omega)) rfl) (dK (k:=4) (enc:=stC) (z:=p.length+t) (by omega) (atQ (p:=p++s1.take t) (q:=s1.drop t++q) (x:=x) (by simp only[List.append_assoc]) (by(try simp only[List.length_take,List.length_drop,List.length_append]); omega)) rfl)) ?_))⟩
        refine aF (aH 9 [] (by kernel_rfl) ⟨?_,trivial⟩)
        ·
         refine⟨_,rfl,rfl,(ao rfl (aG rfl (bZ rfl eF bA rfl (eC (k:=4) (enc:=stC) (z:=p.length+(t - 1)) (by omega) (atQ (p:=p++s1.take (t - 1)) (q:=x::(s1.drop t++q)) (x:=s1[t - 1]) hsp (by(try simp only[List.length_take,List.length_drop,List.length_append]); omega)) rfl) (dK (k:=4) (enc:=stC) (z:=p.length+(t - 1)) (by omega) (atQ (p:=p++s1.take (t - 1)) (q:=x::(s1.drop t++q)) (x:=s1[t - 1]) hsp (by(try simp only[List.length_take,List.length_drop,List.length_append]); omega)) rfl)) ?_))⟩
         refine aF (aH 14 [] (by kernel_rfl) ⟨?_,trivial⟩)
         ·
          refine⟨_,rfl,rfl,(ao rfl ?_)⟩
          refine aG rfl (bX rfl rfl cB bA (by omega)) ?_
          refine aF (aH 15 [] (by kernel_rfl) ⟨?_,trivial⟩)
          ·
           refine⟨_,rfl,rfl,(ao rfl (bB hf rfl rfl bA rfl rfl (by simp [stC,AV.cells,AV.one,Value.oneCell']) (by simp [stC,AV.cells,AV.leaf,Value.oneCell']) (eS (k:=4) (enc:=stC) (z:=p.length+t) (v:=s1[t - 1]) (by omega) (by simp only[List.length_append,List.length_cons,List.length_set,List.length_take,List.length_drop]; omega) rfl rfl rfl) ?_))⟩
           refine aF (aH 16 [] (by kernel_rfl) ⟨?_,trivial⟩)
           ·
            refine⟨_,rfl,rfl,(ao rfl ?_)⟩
            refine aG rfl (bX rfl rfl cB bA (by omega)) ?_
            refine aF (aH 17 [] (by kernel_rfl) ⟨?_,trivial⟩)
            ·
             refine⟨_,rfl,rfl,(ao rfl (bB hf rfl rfl bA rfl rfl (by simp [stC,AV.cells,AV.one,Value.oneCell']) (by simp [stC,AV.cells,AV.leaf,Value.oneCell']) (eS (k:=4) (enc:=stC) (z:=p.length+(t - 1)) (v:=x) (by omega) (by simp only[List.length_append,List.length_cons,List.length_set,List.length_take,List.length_drop]; omega) rfl rfl rfl) ?_))⟩
             refine aF (bS (by kernel_rfl) ?_)
             refine hK28 _ (aB (aE aA 1 rfl ?_))
             refine aG rfl (eZ rfl rfl (by omega) (by omega)) ?_
             refine aE aA 1 rfl (aD ?_)
             exact⟨t - 1,⟨by omega,by omega⟩,by omega,cF ⟨(by first | rfl | exact aN (by omega)),(by first | rfl | exact aN (by omega)),(by first | rfl | exact aN (by omega)),trivial⟩ (congrArg (fun l=>[(E0,AM.buf 4 (List.map stC l))]) ((uT (p:=p++s1.take (t - 1)) (x:=s1[t - 1]) (y:=x) (q:=s1.drop t++q) hsp (by(try simp only[List.length_take,List.length_drop,List.length_append]); omega) (by(try simp only[List.length_take,List.length_drop,List.length_append]); omega)).trans (by rw[List.drop_eq_getElem_cons (show t - 1<s1.length by omega),show t - 1+1=t by omega]; simp only[List.append_assoc,List.cons_append])))⟩
      ·
       simp only[bs] at hc8
       refine aX (hK24 _ (aI ?_))
       have hti:t=i:=by omega
       subst hti
       have hij:t=j:=by omega
       subst hij
       exact⟨_,_,_,Le.refl _,rfl,rfl,s1.take t++x::s1.drop t,by rw[hx2]; exact put_perm.trans (List.perm_append_comm (l₁:=[x])),aJh hc hs1 (by omega) q3 q4,by simp only[List.append_assoc,List.cons_append]⟩
  ·
   simp only[bs] at hc5
   refine aL (hK15 _ (aC (fun K29 hK29=>(aB ?_))))
   obtain ⟨M,eM⟩:∃ M,M=(s1.length+s2.length) / 2:=⟨_,rfl⟩
   have hz:=zK (a:=((p.length:Nat):Int)+((p.length+s1.length+s2.length:Nat):Int)) (b:=((p.length+M:Nat):Int)) (by omega) (by omega) (by omega)
   refine aE aA 2 rfl ?_
   refine aG rfl (bK rfl rfl (by omega) (by omega)) ?_
   refine aG rfl (oE rfl Tryz.underlying3 Tryz.underlying228 hz.1) (aG rfl (zA rfl hz.2.1 (by decide)) (aG rfl (oE rfl Tryz.underlying228 Tryz.underlying3 hz.2.2) (aE aA 1 rfl (aD (hK29 _ (aC (fun K30 hK30=>(aB (aE aA 2 rfl ?_)))))))))
   refine aG rfl (bK rfl rfl (by omega) (by omega)) ?_
   refine aE aA 1 rfl (aD (hK30 _ (aC (fun K31 hK31=>(aB (aE aA 2 rfl (aD (hK31 _ (aH7 (ι:=Nat×Nat) (fun w=>⟨220,[(0,.own E0 4 0 N),(1,.s (.int .i64 (p.length:Nat))),(2,.s (.int .i64 ((p.length+s1.length:Nat):Int))),(3,.s (.int .i64 ((p.length+s1.length+s2.length:Nat):Int))),(4,.fn g []),(18,.s (.int .i64 ((p.length+M:Nat):Int))),(19,.s (.int .i64 ((p.length+M:Nat)+(p.length+s1.length:Nat)))),(20,.s (.int .i64 ((p.length+w.1:Nat):Int))),(21,.s (.int .i64 ((p.length+w.2:Nat):Int)))],[(E0,.buf 4 (List.map stC (p++(s1++(s2++q)))))]⟩) (fun w=>(w.1=0∨M - w.1=s2.length)∧(w.2=s1.length∨w.2=M)∧w.1≤w.2∧w.2≤s1.length∧w.2≤M∧M - w.1≤s2.length) ?_ ?_)))))))))
   ·
    refine aC (fun K33 hK33=>(aB (aE aA 3 rfl (aD (hK33 _ (aK rfl (fun hc9=>?_) (fun hc9=>?_)))))))
    ·
     simp only[bs] at hc9
     refine aC (fun K34 hK34=>(aB (aE aA 2 rfl ?_)))
     refine aG rfl (eZ rfl rfl (by omega) (by omega)) ?_
     refine aE aA 1 rfl (aD (hK34 _ (aB (aE aA 2 rfl ?_))))
     refine aD ?_
     exact⟨(M - s2.length,M),⟨.inr (by simp only; omega),.inr rfl,by simp only; omega,by simp only; omega,Nat.le_refl _,by simp only; omega⟩,cF ⟨(by first | rfl | exact aN (by omega)),(by first | rfl | exact aN (by omega)),(by first | rfl | exact aN (by omega)),(by first | rfl | exact aN (by omega)),(by first | rfl | exact aN (by omega)),(by first | rfl | exact aN (by omega)),(by first | rfl | exact aN (by omega)),(by first | rfl | exact aN (by omega)),(by first | rfl | exact aN (by omega)),trivial⟩ rfl⟩
    ·
     simp only[bs] at hc9
     refine aC (fun K35 hK35=>(aB (aE aA 2 rfl (aD (hK35 _ (aB (aE aA 2 rfl ?_)))))))
     refine aD ?_
     exact⟨(0,s1.length),⟨.inl rfl,.inl rfl,Nat.zero_le _,Nat.le_refl _,by simp only; omega,by simp only; omega⟩,cF ⟨(by first | rfl | exact aN (by omega)),(by first | rfl | exact aN (by omega)),(by first | rfl | exact aN (by omega)),(by first | rfl | exact aN (by omega)),(by first | rfl | exact aN (by omega)),(by first | rfl | exact aN (by omega)),(by first | rfl | exact aN (by omega)),(by first | rfl | exact aN (by omega)),(by first | rfl | exact aN (by omega)),trivial⟩ rfl⟩
   ·
    intro w hj
    obtain ⟨S0,R0⟩:=w
    obtain ⟨j1,j2,j3,j4,j5,j6⟩:=hj
    simp only at j1 j2 j3 j4 j5 j6
    refine aC (fun K36 hK36=>(aB (aE aA 1 rfl ?_)))
    refine aG rfl (eZ rfl rfl (by omega) (by omega)) ?_
    refine aE aA 1 rfl (aD (hK36 _ (aC (fun K37 hK37=>(aM (bM (ι:=Nat×Nat) (fun(⟨S,R⟩:Nat×Nat)=>⟨220,[(0,.own E0 4 0 N),(1,.s (.int .i64 (p.length:Nat))),(2,.s (.int .i64 ((p.length+s1.length:Nat):Int))),(3,.s (.int .i64 ((p.length+s1.length+s2.length:Nat):Int))),(4,.fn g []),(18,.s (.int .i64 ((p.length+M:Nat):Int))),(19,.s (.int .i64 ((p.length+M:Nat)+(p.length+s1.length:Nat)))),(20,.s (.int .i64 ((p.length+S:Nat):Int))),(21,.s (.int .i64 ((p.length+R:Nat):Int))),(22,.s (.int .i64 ((p.length+M:Nat)+(p.length+s1.length:Nat) - 1)))],[(E0,.buf 4 (List.map stC (p++(s1++(s2++q)))))]⟩) (fun(⟨S,R⟩:Nat×Nat)=>S0≤S∧S≤R∧R≤R0∧(S=S0∨∀ z w,s1[S - 1]?=some z→s2[M - S]?=some w→c z w≤0)∧(R=R0∨∀ z w,s2[M - 1 - R]?=some z→s1[R]?=some w→c z w≤0)) (fun(⟨S,R⟩:Nat×Nat)=>R - S) (S0,R0) ?_ ?_ ?_))))))
    · exact⟨Nat.le_refl _,j3,Nat.le_refl _,.inl rfl,.inl rfl⟩
    · exact cF ⟨(by first | rfl | exact aN (by omega)),(by first | rfl | exact aN (by omega)),(by first | rfl | exact aN (by omega)),(by first | rfl | exact aN (by omega)),(by first | rfl | exact aN (by omega)),(by first | rfl | exact aN (by omega)),(by first | rfl | exact aN (by omega)),(by first | rfl | exact aN (by omega)),(by first | rfl | exact aN (by omega)),(by first | rfl | exact aN (by omega)),trivial⟩ rfl
    ·
     rintro ⟨S,R⟩ hC
     obtain ⟨q1,q2,q3,q4,q5⟩:=hC
     refine aC (fun K38 hK38=>(aC (fun K39 hK39=>(aB (aE aA 3 rfl (aD (hK39 _ (aK rfl (fun hc10=>?_) (fun hc10=>?_)))))))))
     ·
      simp only[bs] at hc10
      refine aL (hK38 _ (aM (aC (fun K40 hK40=>(aB ?_)))))
      obtain ⟨h,eh⟩:∃ h,h=(S+R) / 2:=⟨_,rfl⟩
      have hz:=zK (a:=((p.length+S:Nat):Int)+((p.length+R:Nat):Int)) (b:=((p.length+h:Nat):Int)) (by omega) (by omega) (by omega)
      refine aE aA 2 rfl ?_
      refine aG rfl (bK rfl rfl (by omega) (by omega)) ?_
      refine aG rfl (oE rfl Tryz.underlying3 Tryz.underlying228 hz.1) (aG rfl (zA rfl hz.2.1 (by decide)) (aG rfl (oE rfl Tryz.underlying228 Tryz.underlying3 hz.2.2) (aE aA 1 rfl (aD (hK40 _ (aC (fun K41 hK41=>(cU hf bF (by kernel_rfl) rfl ?_))))))))
      have hh1:h<s1.length:=by omega
      have hh2:M - 1 - h<s2.length:=by omega
      refine aT aA 4 rfl ?_
      refine bI [(160,_),(161,_)] rfl rfl ⟨⟨rfl,rfl⟩,⟨rfl,rfl⟩,trivial⟩ rfl (eZ rfl rfl (by omega) (by omega)) ?_
      refine bI [(159,_),(162,_)] rfl rfl ⟨⟨rfl,rfl⟩,⟨rfl,rfl⟩,trivial⟩ rfl (bX rfl rfl cB bA (by omega)) ?_
      refine bI [(163,_)] rfl rfl ⟨⟨rfl,rfl⟩,trivial⟩ rfl (bZ rfl eF bA rfl (eC (k:=4) (enc:=stC) (z:=p.length+s1.length+(M - 1 - h)) (by omega) (atM hh2) rfl) (dK (k:=4) (enc:=stC) (z:=p.length+s1.length+(M - 1 - h)) (by omega) (atM hh2) rfl)) (aT aA 2 rfl ?_)
      refine bI [(165,_),(166,_)] rfl rfl ⟨⟨rfl,rfl⟩,⟨rfl,rfl⟩,trivial⟩ rfl (bX rfl rfl cB bA (by omega)) ?_
      refine bI [(167,_)] rfl rfl ⟨⟨rfl,rfl⟩,trivial⟩ rfl (bZ rfl eF bA rfl (eC (k:=4) (enc:=stC) (z:=p.length+h) (by omega) (atL hh1) rfl) (dK (k:=4) (enc:=stC) (z:=p.length+h) (by omega) (atL hh1) rfl)) (bL [(158,_),(164,_),(168,_)] rfl rfl ⟨⟨rfl,rfl⟩,⟨rfl,rfl⟩,⟨rfl,rfl⟩,trivial⟩ rfl (aO rfl rfl hent rfl (hcmp s2[M - 1 - h] s1[h])) (aT aA 2 rfl (cY [0,1,2,3,4,18,19,20,21,22,23,171] rfl rfl rfl (hK41 _ (aK rfl (fun hc11=>?_) (fun hc11=>?_))))))
      ·
       simp only[bs] at hc11
       refine aB (aE aA 1 rfl ?_)
       refine aG rfl (bK rfl rfl (by omega) (by omega)) ?_
       refine aE aA 1 rfl ?_
       refine bH ?_
       exact⟨(h+1,R),⟨by omega,by omega,q3,.inr (fun z w hz hw=>by rw[Nat.add_sub_cancel,List.getElem?_eq_getElem hh1] at hz; rw[show M - (h+1)=M - 1 - h by omega,List.getElem?_eq_getElem hh2] at hw; cases hz; cases hw; have:=hc.swap s1[h] s2[M - 1 - h]; omega),q5⟩,by simp only; omega,cF ⟨(by first | rfl | exact aN (by omega)),(by first | rfl | exact aN (by omega)),(by first | rfl | exact aN (by omega)),(by first | rfl | exact aN (by omega)),(by first | rfl | exact aN (by omega)),(by first | rfl | exact aN (by omega)),(by first | rfl | exact aN (by omega)),(by first | rfl | exact aN (by omega)),(by first | rfl | exact aN (by omega)),(by first | rfl | exact aN (by omega)),trivial⟩ rfl⟩
      ·
       simp only[bs] at hc11
       refine aB (aE aA 2 rfl ?_)
       refine bH ?_
       exact⟨(S,h),⟨q1,by omega,by omega,q4,.inr (fun z w hz hw=>by rw[List.getElem?_eq_getElem hh2] at hz; rw[List.getElem?_eq_getElem hh1] at hw; cases hz; cases hw; omega)⟩,by simp only; omega,cF ⟨(by first | rfl | exact aN (by omega)),(by first | rfl | exact aN (by omega)),(by first | rfl | exact aN (by omega)),(by first | rfl | exact aN (by omega)),(by first | rfl | exact aN (by omega)),(by first | rfl | exact aN (by omega)),(by first | rfl | exact aN (by omega)),(by first | rfl | exact aN (by omega)),(by first | rfl | exact aN (by omega)),(by first | rfl | exact aN (by omega)),trivial⟩ rfl⟩
     ·
      simp only[bs] at hc10
      refine aX (hK37 _ (aC (fun K42 hK42=>(aB ?_))))
      obtain ⟨K,hK⟩:∃ K,K=M - S:=⟨_,rfl⟩
      have hA:∀ (h0:0<S) (h3:K<s2.length),c (s1[S - 1]'(by omega)) s2[K]≤0:=fun h0 h3=>by
       rcases q4 with e | e
       · exfalso; omega
       · exact e _ _ (List.getElem?_eq_getElem (by omega)) (by rw[← hK]; exact List.getElem?_eq_getElem h3)
      have hB:∀ (h0:0<K) (h3:S<s1.length),c (s2[K - 1]'(by omega)) s1[S]≤0:=fun h0 h3=>by
       have hSR:S=R:=by omega
       rw[← hSR] at q5
       rcases q5 with e | e
       · exfalso; omega
       · exact e _ _ (by rw[show M - 1 - S=K - 1 by omega]; exact List.getElem?_eq_getElem (by omega)) (List.getElem?_eq_getElem h3)
      have hsep:=sym_sep hc hs1 hs2 (show S≤s1.length by omega) (show K≤s2.length by omega) hA hB
      refine aE aA 2 rfl ?_
      refine aG rfl (eZ rfl rfl (by omega) (by omega)) ?_
      rw[show (((p.length+M:Nat):Int)+((p.length+s1.length:Nat):Int)) - ((p.length+S:Nat):Int)=((p.length+s1.length+K:Nat):Int) from by omega]
      refine aE aA 1 rfl (aD (hK42 _ (aH7 (ι:=Unit) (fun w=>⟨220,[(0,.own E0 4 0 N),(1,.s (.int .i64 (p.length:Nat))),(3,.s (.int .i64 ((p.length+s1.length+s2.length:Nat):Int))),(4,.fn g []),(18,.s (.int .i64 ((p.length+M:Nat):Int))),(20,.s (.int .i64 ((p.length+S:Nat):Int))),(24,.s (.int .i64 ((p.length+s1.length+K:Nat):Int)))],[(E0,.buf 4 (List.map stC (p++((s1.take S++s2.take K)++((s1.drop S++s2.drop K)++q)))))]⟩) (fun w=>True) ?_ ?_)))
      ·
       refine aC (fun K44 hK44=>(aB (aE aA 4 rfl (aW rfl rfl rfl (fun hg12=>?_) (fun hg12=>?_)))))
       ·
        simp only[bs] at hg12
        refine aG rfl (fB rfl) (aE aA 3 rfl (aD (hK44 _ (aK rfl (fun hc13=>?_) (fun hc13=>?_)))))
        ·
         simp only[bs] at hc13
         refine aB ?_
         rw[aSt (p:=p) (s1:=s1) (s2:=s2) (q:=q) S K]
         refine aE aA 5 rfl (gG hf E0 rfl rfl rfl rfl rfl aLo (aNg g (p++s1.take S) (s1.drop S) (s2.take K) (s2.drop K++q) N _ _ _ (by(try simp only[List.length_take,List.length_drop,List.length_append]); omega) (by(try simp only[List.length_take,List.length_drop,List.length_append]); omega) (by(try simp only[List.length_take,List.length_drop,List.length_append]); omega) (by(try simp only[List.length_take,List.length_drop,List.length_append]); omega) (by(try simp only[List.length_take,List.length_drop,List.length_append]); omega) (by(try simp only[List.length_take,List.length_drop,List.length_append]); omega) hM) ?_)
         rintro r zs rfl
         refine aD ?_
         exact⟨(),trivial,cF ⟨(by first | rfl | exact aN (by omega)),(by first | rfl | exact aN (by omega)),(by first | rfl | exact aN (by omega)),(by first | rfl | exact aN (by omega)),(by first | rfl | exact aN (by omega)),(by first | rfl | exact aN (by omega)),(by first | rfl | exact aN (by omega)),trivial⟩ (congrArg (fun l=>[(E0,AM.buf 4 (List.map stC l))]) (by simp only[List.append_assoc]))⟩
        ·
         simp only[bs] at hc13
         refine aL ?_
         exact⟨(),trivial,cF ⟨(by first | rfl | exact aN (by omega)),(by first | rfl | exact aN (by omega)),(by first | rfl | exact aN (by omega)),(by first | rfl | exact aN (by omega)),(by first | rfl | exact aN (by omega)),(by first | rfl | exact aN (by omega)),(by first | rfl | exact aN (by omega)),trivial⟩ (by rw[aIv (p:=p) (s1:=s1) (s2:=s2) (q:=q) (S:=S) (K:=K) (by omega)])⟩
       ·
        simp only[bs] at hg12
        refine aE aA 3 rfl (aD (hK44 _ (bT rfl (aL ?_))))
        exact⟨(),trivial,cF ⟨(by first | rfl | exact aN (by omega)),(by first | rfl | exact aN (by omega)),(by first | rfl | exact aN (by omega)),(by first | rfl | exact aN (by omega)),(by first | rfl | exact aN (by omega)),(by first | rfl | exact aN (by omega)),(by first | rfl | exact aN (by omega)),trivial⟩ (by rw[aIv (p:=p) (s1:=s1) (s2:=s2) (q:=q) (S:=S) (K:=K) (by omega)])⟩
      ·
       intro w hj
       refine aH7 (ι:=List bC) (fun l=>⟨220,[(0,.own E0 4 0 N),(3,.s (.int .i64 ((p.length+s1.length+s2.length:Nat):Int))),(4,.fn g []),(18,.s (.int .i64 ((p.length+M:Nat):Int))),(24,.s (.int .i64 ((p.length+s1.length+K:Nat):Int)))],[(E0,.buf 4 (List.map stC (p++(l++((s1.drop S++s2.drop K)++q)))))]⟩) (fun l=>l.Perm (s1.take S++s2.take K)∧Srt c l) ?_ ?_
       ·
        refine aC (fun K46 hK46=>(aB (aE aA 4 rfl (aW rfl rfl rfl (fun hg15=>?_) (fun hg15=>?_)))))
        ·
         simp only[bs] at hg15
         refine aG rfl (fB rfl) (aE aA 3 rfl (aD (hK46 _ (aK rfl (fun hc16=>?_) (fun hc16=>?_)))))
         ·
          simp only[bs] at hc16
          refine aB ?_
          rw[List.append_assoc (s1.take S)]
          refine aE aA 5 rfl (gG hf E0 rfl rfl rfl rfl rfl qI (ih p (s1.take S) (s2.take K) ((s1.drop S++s2.drop K)++q) N _ _ _ (by(try simp only[List.length_take,List.length_drop,List.length_append]); omega) (by(try simp only[List.length_take,List.length_drop,List.length_append]); omega) rfl (by(try simp only[List.length_take,List.length_drop,List.length_append]); omega) (by(try simp only[List.length_take,List.length_drop,List.length_append]); omega) (by(try simp only[List.length_take,List.length_drop,List.length_append]); omega) (by(try simp only[List.length_take,List.length_drop,List.length_append]); omega) (hs1.take S) (hs2.take K) hM) ?_)
          rintro r zs ⟨lq,hl1,hl2,rfl⟩
          refine aD ?_
          exact⟨lq,⟨hl1,hl2⟩,cF ⟨(by first | rfl | exact aN (by omega)),(by first | rfl | exact aN (by omega)),(by first | rfl | exact aN (by omega)),(by first | rfl | exact aN (by omega)),(by first | rfl | exact aN (by omega)),trivial⟩ rfl⟩
         ·
          simp only[bs] at hc16
          refine aL ?_
          exact⟨s1.take S++s2.take K,⟨.refl _,aIy hs1 hs2 (by omega)⟩,cF ⟨(by first | rfl | exact aN (by omega)),(by first | rfl | exact aN (by omega)),(by first | rfl | exact aN (by omega)),(by first | rfl | exact aN (by omega)),(by first | rfl | exact aN (by omega)),trivial⟩ rfl⟩
        ·
         simp only[bs] at hg15
         refine aE aA 3 rfl (aD (hK46 _ (bT rfl (aL ?_))))
         exact⟨s1.take S++s2.take K,⟨.refl _,aIy hs1 hs2 (by omega)⟩,cF ⟨(by first | rfl | exact aN (by omega)),(by first | rfl | exact aN (by omega)),(by first | rfl | exact aN (by omega)),(by first | rfl | exact aN (by omega)),(by first | rfl | exact aN (by omega)),trivial⟩ rfl⟩
       ·
        intro l hj
        obtain ⟨hl1,hl2⟩:=hj
        have hll:=hl1.length_eq
        rw[List.length_append,List.length_take,List.length_take] at hll
        refine aC (fun K47 hK47=>(aB (aE aA 4 rfl (aW rfl rfl rfl (fun hg18=>?_) (fun hg18=>?_)))))
        ·
         simp only[bs] at hg18
         refine aG rfl (fB rfl) (aE aA 3 rfl (aD (hK47 _ (aK rfl (fun hc19=>?_) (fun hc19=>?_)))))
         ·
          simp only[bs] at hc19
          refine aB ?_
          rw[show p++(l++((s1.drop S++s2.drop K)++q))=(p++l)++(s1.drop S++(s2.drop K++q)) from by simp only[List.append_assoc]]
          refine aE aA 5 rfl (gG hf E0 rfl rfl rfl rfl rfl qI (ih (p++l) (s1.drop S) (s2.drop K) q N _ _ _ (by(try simp only[List.length_take,List.length_drop,List.length_append]); omega) (by(try simp only[List.length_take,List.length_drop,List.length_append]); omega) (by(try simp only[List.length_take,List.length_drop,List.length_append]); omega) (by(try simp only[List.length_take,List.length_drop,List.length_append]); omega) (by(try simp only[List.length_take,List.length_drop,List.length_append]); omega) (by(try simp only[List.length_take,List.length_drop,List.length_append]); omega) (by(try simp only[List.length_take,List.length_drop,List.length_append]); omega) (hs1.drop S) (hs2.drop K) hM) ?_)
          rintro r zs ⟨rq,hr1,hr2,rfl⟩
          refine bH ?_
          exact⟨_,_,_,Le.refl _,rfl,rfl,l++rq,uB hl1 hr1,Srt.append hl2 hr2 (aCr hl1 hr1 hsep),by simp only[List.append_assoc]⟩
         ·
          simp only[bs] at hc19
          refine aL ?_
          exact⟨_,_,_,Le.refl _,rfl,rfl,l++(s1.drop S++s2.drop K),uB hl1 (.refl _),Srt.append hl2 (aFy hs1 hs2 (by omega)) (aCr hl1 (.refl _) hsep),by simp only[List.append_assoc]⟩
        ·
         simp only[bs] at hg18
         refine aE aA 3 rfl (aD (hK47 _ (bT rfl (aL ?_))))
         exact⟨_,_,_,Le.refl _,rfl,rfl,l++(s1.drop S++s2.drop K),uB hl1 (.refl _),Srt.append hl2 (aFy hs1 hs2 (by omega)) (aCr hl1 (.refl _) hsep),by simp only[List.append_assoc]⟩
theorem vT {g:Nat} (hent:∀ args w,(callFunc g args).run Tryz.prog w=.ok (.enter g args) w) {c:bC→bC→Int} (hc:Tri c) (hcmp:∀ x y:bC,Den Tryz.prog g [.agg (stC x),.agg (stC y)] (·=.s (.int .i64 (c x y)))):∀ (NN:Nat) (p s1 s2 q:List bC) (N:Nat) (za zm zb:Int),s1.length+s2.length≤NN→N=p.length+s1.length+s2.length+q.length→za=(p.length:Nat)→zm=((p.length+s1.length:Nat):Int)→zb=((p.length+s1.length+s2.length:Nat):Int)→0<s1.length→0<s2.length→Srt c s1→Srt c s2→N<4611686018427387904→DenM Tryz.prog 171 [.own E0 4 0 N,.s (.int .i64 za),.s (.int .i64 zm),.s (.int .i64 zb),.fn g []] 4 (List.map stC (p++(s1++(s2++q)))) (fun r ys=>∃ t:List bC,t.Perm (s1++s2)∧Srt c t∧ys=(List.map stC (p++(t++q))))
 | 0,p,s1,s2,q,N,za,zm,zb,hle,_,_,_,_,h01,_,_,_,_=>by exfalso; omega
 | NN+1,p,s1,s2,q,N,za,zm,zb,hle,hN,hza,hzm,hzb,h01,h02,hs1,hs2,hM=>aCn hent hc hcmp NN (vT hent hc hcmp NN) p s1 s2 q N za zm zb hle hN hza hzm hzb h01 h02 hs1 hs2 hM
theorem aE5 {g:Nat} (hent:∀ args w,(callFunc g args).run Tryz.prog w=.ok (.enter g args) w) {c:bC→bC→Int} (hc:Tri c) (hcmp:∀ x y:bC,Den Tryz.prog g [.agg (stC x),.agg (stC y)] (·=.s (.int .i64 (c x y)))) (s0:List bC) (N:Nat) (hN:N=s0.length) (hM:N<4611686018427387904) :DenM Tryz.prog 126 [.own E0 4 0 N,.s (.int .i64 (N:Nat)),.fn g []] 4 ((List.map stC (s0))) (fun r ys=>∃ t:List bC,t.Perm s0∧Srt c t∧ys=(List.map stC (t))):=by
 refine hJ Tryz.func126 rfl (Nat.le_of_ble_eq_true rfl) (fun w0 x0 A hf=>?_)
 refine aC (fun K1 hK1=>(aB (aE aA 1 rfl (aD (hK1 _ (aC (fun K2 hK2=>(aB (aE aA 3 rfl (aD (hK2 _ (aC (fun K3 hK3=>(aM (bM (ι:=List bC×List bC) (fun(⟨x,y⟩:List bC×List bC)=>⟨63,[(0,.own E0 4 0 N),(1,.s (.int .i64 (N:Nat))),(2,.fn g []),(6,.s (.int .i64 20)),(7,.s (.int .i64 (x.length:Nat))),(8,.s (.int .i64 ((x.length+20:Nat):Int)))],[(E0,.buf 4 (List.map stC (x++y)))]⟩) (fun(⟨x,y⟩:List bC×List bC)=>Fu c 20 x∧(x++y).Perm s0) (fun(⟨x,y⟩:List bC×List bC)=>y.length) ([],s0) ?_ ?_ ?_)))))))))))))))
 · exact⟨.nil,.refl _⟩
 · exact cN rfl
 ·
  rintro ⟨x,y⟩ hC
  obtain ⟨hd,hp⟩:=hC
  have hpl:=hp.length_eq
  rw[List.length_append] at hpl
  refine aC (fun K4 hK4=>(aC (fun K5 hK5=>(aB (aE aA 3 rfl (aD (hK5 _ (aK rfl (fun hc1=>?_) (fun hc1=>?_)))))))))
  ·
   simp only[bs] at hc1
   refine aL (hK4 _ (aM (aC (fun K6 hK6=>(aB ?_)))))
   have htk:=List.length_take (i:=20) (l:=y)
   have hdk:=List.length_drop (i:=20) (l:=y)
   rw[show x++y=x++(y.take 20++y.drop 20) from by rw[List.take_append_drop]]
   refine aE aA 4 rfl (gG hf E0 rfl rfl rfl rfl rfl aA8 (aCo hent hc hcmp x (y.take 20) (y.drop 20) N _ _ (by omega) (by omega) (by omega) hM) ?_)
   rintro r zs ⟨t,ht1,ht2,rfl⟩
   have htl:=ht1.length_eq
   refine aD (hK6 _ (aC (fun K7 hK7=>(aB (aE aA 2 rfl (aD (hK7 _ (aB (aE aA 2 rfl ?_)))))))))
   refine aG rfl (bK rfl rfl (by omega) (by omega)) ?_
   refine aE aA 1 rfl ?_
   refine bH ?_
   exact⟨(x++t,y.drop 20),⟨.cons hd ht2 (by have:=ht1.length_eq; rw[List.length_take] at this; omega),(show ((x++t)++y.drop 20).Perm s0 from (by rw[List.append_assoc]; exact(List.Perm.append_left x ((List.Perm.append_right _ ht1).trans (by rw[List.take_append_drop]))).trans hp))⟩,by simp only[List.length_drop]; omega,cF ⟨(by first | rfl | exact aN (by simp only[List.length_append]; omega)),(by first | rfl | exact aN (by simp only[List.length_append]; omega)),(by first | rfl | exact aN (by simp only[List.length_append]; omega)),(by first | rfl | exact aN (by simp only[List.length_append]; omega)),(by first | rfl | exact aN (by simp only[List.length_append]; omega)),(by first | rfl | exact aN (by simp only[List.length_append]; omega)),trivial⟩ (by rw[List.append_assoc]; rfl)⟩
  ·
   simp only[bs] at hc1
   refine aX (hK3 _ (aC (fun K8 hK8=>(aB ?_))))
   rw[show x++y=x++(y++[]) from by rw[List.append_nil]]
   refine aE aA 4 rfl (gG hf E0 rfl rfl rfl rfl rfl aA8 (aCo hent hc hcmp x y [] N _ _ (by simp only[List.length_nil]; omega) (by omega) (by omega) hM) ?_)
   rintro r zs ⟨t0,ht01,ht02,rfl⟩
   refine aD (hK8 _ (aM (bM (ι:=Nat×List bC) (fun(⟨bz,l⟩:Nat×List bC)=>⟨63,[(0,.own E0 4 0 N),(1,.s (.int .i64 (N:Nat))),(2,.fn g []),(6,.s (.int .i64 (bz:Nat)))],[(E0,.buf 4 (List.map stC (l)))]⟩) (fun(⟨bz,l⟩:Nat×List bC)=>0<bz∧bz<9223372036854775808∧Ch c bz l∧l.Perm s0) (fun(⟨bz,l⟩:Nat×List bC)=>N - bz) (20,x++t0) ?_ ?_ ?_)))
   · exact⟨by decide,by decide,hd.ch (.last ht02 (by have:=ht01.length_eq; omega)),(List.Perm.append_left x ht01).trans hp⟩
   · exact cF ⟨rfl,rfl,rfl,rfl,trivial⟩ (by rw[List.append_nil]; rfl)
   ·
    rintro ⟨bz,l⟩ hC
    obtain ⟨hb0,hb1,hch,hlp⟩:=hC
    have hll:=hlp.length_eq
    refine aC (fun K9 hK9=>(aC (fun K10 hK10=>(aB (aE aA 3 rfl (aD (hK10 _ (aK rfl (fun hc2=>?_) (fun hc2=>?_)))))))))
    ·
     simp only[bs] at hc2
     refine aL (hK9 _ (aM (aC (fun K11 hK11=>(aB (aE aA 1 rfl (aG rfl (aPy rfl rfl rfl (by omega) (by omega)) (aE aA 2 rfl (aD (hK11 _ (aC (fun K12 hK12=>(aM (bM (ι:=List bC×List bC) (fun(⟨x,y⟩:List bC×List bC)=>⟨63,[(0,.own E0 4 0 N),(1,.s (.int .i64 (N:Nat))),(2,.fn g []),(6,.s (.int .i64 (bz:Nat))),(7,.s (.int .i64 (x.length:Nat))),(8,.s (.int .i64 ((x.length+2*bz:Nat):Int)))],[(E0,.buf 4 (List.map stC (x++y)))]⟩) (fun(⟨x,y⟩:List bC×List bC)=>Fu c (2*bz) x∧Ch c bz y∧(x++y).Perm s0) (fun(⟨x,y⟩:List bC×List bC)=>y.length) ([],l) ?_ ?_ ?_))))))))))))))
     · exact⟨.nil,hch,hlp⟩
     · exact cF ⟨rfl,rfl,rfl,rfl,rfl,aN (by simp only[List.length_nil]; omega),trivial⟩ rfl
     ·
      rintro ⟨x,y⟩ hC
      obtain ⟨hd2,hr2,hp2⟩:=hC
      have hpl2:=hp2.length_eq
      rw[List.length_append] at hpl2
      refine aC (fun K13 hK13=>(aC (fun K14 hK14=>(aB (aE aA 3 rfl (aD (hK14 _ (aK rfl (fun hc3=>?_) (fun hc3=>?_)))))))))
      ·
       simp only[bs] at hc3
       refine aL (hK13 _ (aM (aC (fun K15 hK15=>(aB ?_)))))
       obtain ⟨sa,sb,r3,hy,hsa1,hsa2,hsb1,hsb2,hr3⟩:=hr2.pair hb0 (by omega)
       subst hy
       simp only[List.length_append] at hpl2
       refine aE aA 4 rfl ?_
       refine aG rfl (bK rfl rfl (by omega) (by omega)) ?_
       refine aE aA 2 rfl (gG hf E0 rfl rfl rfl rfl rfl qI (vT hent hc hcmp (sa.length+sb.length) x sa sb r3 N _ _ _ (Nat.le_refl _) (by omega) (by omega) (by omega) (by omega) (by omega) (by omega) hsa1 hsb1 hM) ?_)
       rintro r zs ⟨tt,htt1,htt2,rfl⟩
       have httl:=htt1.length_eq
       rw[List.length_append] at httl
       refine aD (hK15 _ (aC (fun K16 hK16=>(aB (aE aA 2 rfl (aD (hK16 _ (aB (aE aA 2 rfl (aG rfl (aPy rfl rfl rfl (by omega) (by omega)) ?_))))))))))
       refine aG rfl (bK rfl rfl (by omega) (by omega)) ?_
       refine aE aA 1 rfl ?_
       refine bH ?_
       exact⟨(x++tt,r3),⟨.cons hd2 htt2 (by have:=htt1.length_eq; rw[List.length_append] at this; omega),hr3,(show ((x++tt)++r3).Perm s0 from (by rw[List.append_assoc]; exact(List.Perm.append_left x ((List.Perm.append_right r3 htt1).trans (by rw[List.append_assoc]))).trans hp2))⟩,by simp only[List.length_append]; omega,cF ⟨(by first | rfl | exact aN (by simp only[List.length_append]; omega)),(by first | rfl | exact aN (by simp only[List.length_append]; omega)),(by first | rfl | exact aN (by simp only[List.length_append]; omega)),(by first | rfl | exact aN (by simp only[List.length_append]; omega)),(by first | rfl | exact aN (by simp only[List.length_append]; omega)),(by first | rfl | exact aN (by simp only[List.length_append]; omega)),trivial⟩ (by rw[List.append_assoc]; rfl)⟩
      ·
       simp only[bs] at hc3
       refine aX (hK12 _ (aC (fun K17 hK17=>(aC (fun K18 hK18=>(aB (aE aA 2 rfl ?_)))))))
       refine aG rfl (bK rfl rfl (by omega) (by omega)) ?_
       refine aE aA 1 rfl (aD (hK18 _ (aC (fun K19 hK19=>(aB (aE aA 3 rfl (aD (hK19 _ (aK rfl (fun hc4=>?_) (fun hc4=>?_))))))))))
       ·
        simp only[bs] at hc4
        refine aB ?_
        obtain ⟨sa,sb,hy,hsa1,hsa2,hsb1,hsb2⟩:=hr2.rest (by omega) (by omega)
        subst hy
        simp only[List.length_append] at hpl2
        rw[show x++(sa++sb)=x++(sa++(sb++[])) from by rw[List.append_nil]]
        refine aE aA 5 rfl (gG hf E0 rfl rfl rfl rfl rfl qI (vT hent hc hcmp (sa.length+sb.length) x sa sb [] N _ _ _ (Nat.le_refl _) (by simp only[List.length_nil]; omega) (by omega) (by omega) (by omega) (by omega) (by omega) hsa1 hsb1 hM) ?_)
        rintro r zs ⟨tq,htq1,htq2,rfl⟩
        refine aD (hK17 _ (aB (aE aA 1 rfl (aG rfl (aPy rfl rfl rfl (by omega) (by omega)) (aE aA 1 rfl ?_)))))
        refine bH ?_
        exact⟨(2*bz,x++tq),⟨by omega,by omega,hd2.ch (.last htq2 (by have:=htq1.length_eq; rw[List.length_append] at this; omega)),(List.Perm.append_left x htq1).trans hp2⟩,by simp only; omega,cF ⟨(by first | rfl | exact aN (by omega)),(by first | rfl | exact aN (by omega)),(by first | rfl | exact aN (by omega)),(by first | rfl | exact aN (by omega)),trivial⟩ (by rw[List.append_nil]; rfl)⟩
       ·
        simp only[bs] at hc4
        refine aL (hK17 _ (aB (aE aA 1 rfl (aG rfl (aPy rfl rfl rfl (by omega) (by omega)) (aE aA 1 rfl ?_)))))
        refine bH ?_
        exact⟨(2*bz,x++y),⟨by omega,by omega,hd2.ch (.last (hr2.short (by omega)) (by omega)),hp2⟩,by simp only; omega,cF ⟨(by first | rfl | exact aN (by omega)),(by first | rfl | exact aN (by omega)),(by first | rfl | exact aN (by omega)),(by first | rfl | exact aN (by omega)),trivial⟩ rfl⟩
    ·
     simp only[bs] at hc2
     refine aX ?_
     exact⟨_,_,_,Le.refl _,rfl,rfl,l,hlp,hch.short (by omega),rfl⟩
theorem qB {g:Nat} (hent:∀ args w,(callFunc g args).run Tryz.prog w=.ok (.enter g args) w) {c:bC→bC→Int} (hc:Tri c) (hcmp:∀ x y:bC,Den Tryz.prog g [.agg (stC x),.agg (stC y)] (·=.s (.int .i64 (c x y)))) (s0:List bC) (N:Nat) (hN:N=s0.length) (hM:N<4611686018427387904) :DenM Tryz.prog 66 [.own E0 4 0 N,.fn g []] 4 ((List.map stC (s0))) (fun r ys=>∃ t:List bC,t.Perm s0∧Srt c t∧ys=(List.map stC (t))):=by
 refine hJ Tryz.func66 rfl (Nat.le_of_ble_eq_true rfl) (fun w0 x0 A hf=>?_)
 refine aB (aE aA 4 rfl (gG hf E0 rfl rfl rfl rfl rfl aMp (aE5 hent hc hcmp s0 N hN hM) ?_))
 rintro r zs ⟨t,ht1,ht2,rfl⟩
 refine bH ?_
 exact⟨_,_,_,Le.refl _,rfl,rfl,t,ht1,ht2,rfl⟩
end Go.Proofs.YtpkanhklapfajaaGreat
set_option linter.unusedVariables false
set_option linter.unusedSimpArgs false
namespace Go.Proofs.YtpkanhklapfajaaGreat
open Go Go.Abs
theorem vN {g:Nat} {cap:List AV} (hent:∀ args w,(callFunc g args).run Tryz.prog w=.ok (.enter g args) w) (hcl:cleanL (fun _=>false) cap=true) (p:Sp→Bool) (l:List Sp) (hl:l.length≤9223372036854775807) (hp:∀ x∈l,Den Tryz.prog g (.agg (spC x)::cap) (·=.s (.bool (p x)))) :Den Tryz.prog 146 [.sl 2 (l.map spC),.fn g cap]  (·=.s (.int .i64 (pI p l))):=by
 refine aR Tryz.func146 rfl (Nat.le_of_ble_eq_true rfl) (fun w0 A hf=>(aC (fun K1 hK1=>(aB (aE aA 1 rfl (aD (hK1 _ (aC (fun K2 hK2=>(aC (fun K3 hK3=>(aB (aE aA 3 rfl (aD (hK3 _ (aM ?_))))))))))))))))
 refine bM (ι:=Nat) (fun k=>⟨19,[(0,.sl 2 (l.map spC)),(1,.fn g cap),(7,.s (.int .i64 ((l.map spC).length:Nat))),(8,.s (.int .i64 (k:Nat)))],[]⟩) (fun k=>k≤l.length∧∀ (j:Nat) (hj:j<l.length),j<k→p l[j]=false) (fun k=>l.length - k) 0 ?_ ?_ ?_
 · exact⟨by omega,by omega⟩
 · exact cN rfl
 ·
  rintro k hC
  obtain ⟨h1,h2⟩:=hC
  refine aC (fun K4 hK4=>(aB (aE aA 1 rfl (aD (hK4 _ (aC (fun K5 hK5=>(aK rfl (fun hc1=>?_) (fun hc1=>?_)))))))))
  ·
   simp only[bs] at hc1
   refine aL (hK5 _ (aC (fun K6 hK6=>(aM (aC (fun K7 hK7=>(aB (aE aA 2 rfl (aD (hK7 _ (aC (fun K8 hK8=>(aB (aE aA 3 rfl ?_))))))))))))))
   refine aG rfl (aY rfl rfl iZ dP (by first | exact ixm (by omega) | assumption | exact⟨by decide,rfl⟩)) ?_
   refine aE aA 1 rfl (aJ hf rfl (aO rfl rfl hent (by rw[gS,hcl]; rfl) (hp _ (List.getElem_mem _))) ?_)
   refine aD (hK8 _ (aK rfl (fun hc2=>?_) (fun hc2=>?_)))
   ·
    refine aC (fun K9 hK9=>(aB (aE aA 2 rfl (aD (hK9 _ (aI ?_))))))
    refine⟨_,rfl,?_⟩
    refine dG ?_
    rw[pH (by omega) h2 (by assumption)]
   ·
    refine aL (hK6 _ (aB ?_))
    refine aG rfl (bK rfl rfl (by omega) (by omega)) ?_
    refine aE aA 1 rfl (aD ?_)
    exact⟨k+1,⟨by omega,fun j hj hjk=>by
      by_cases e:j=k
      · subst e; simp_all
      · exact h2 j hj (by omega)⟩,by omega,cN rfl⟩
  ·
   simp only[bs] at hc1
   refine aX (hK2 _ (aC (fun K10 hK10=>(aB (aE aA 1 rfl (aD (hK10 _ (aI ?_))))))))
   refine⟨_,rfl,?_⟩
   refine dG ?_
   rw[rG (fun j hj=>h2 j hj (by omega))]
theorem zQ {g:Nat} {cap:List AV} (hent:∀ args w,(callFunc g args).run Tryz.prog w=.ok (.enter g args) w) (hcl:cleanL (fun _=>false) cap=true) (p:Sp→Bool) (l:List Sp) (hl:l.length≤9223372036854775807) (hp:∀ x∈l,Den Tryz.prog g (.agg (spC x)::cap) (·=.s (.bool (p x)))) :Den Tryz.prog 102 [.sl 2 (l.map spC),.fn g cap]  (·=.s (.bool (l.any p))):=by
 refine aR Tryz.func102 rfl (Nat.le_of_ble_eq_true rfl) (fun w0 A hf=>(aC (fun K1 hK1=>(aB (aE aA 1 rfl (aD (hK1 _ (aC (fun K2 hK2=>(aB (aE aA 2 rfl (aJ hf rfl (aO rfl rfl aBc (by show (true&&(cleanL (fun _=>false) cap&&true))=true; rw[hcl]; rfl) (vN hent hcl p l hl hp)) ?_))))))))))))
 refine aE aA 2 rfl (aD (hK2 _ (aI ?_)))
 refine⟨_,rfl,?_⟩
 refine aQ ?_
 rw[← aDw]
theorem aD9 {g:Nat} {cap:List AV} (hent:∀ args w,(callFunc g args).run Tryz.prog w=.ok (.enter g args) w) (hcl:cleanL (fun _=>false) cap=true) (hcv:∀ m,convL m cap=cap) (p:Sp→Bool) (l:List Sp) (n:Nat) (hn:n=l.length) (hl:l.length≤9223372036854775807) (hp:∀ x∈l,Den Tryz.prog g (.agg (spC x)::cap) (·=.s (.bool (p x)))) :DenM Tryz.prog 121 [.own E0 2 0 n,.fn g cap] 2 ((l.map spC)) (fun r ys=>r=.own E0 2 0 (l.filter fun x=>!p x).length∧ys=((l.filter fun x=>!p x).map spC)):=by
 subst hn
 have hq0:∀ j,((l.take j).filter fun x=>!p x).length≤j:=fun j=>iU _ l j
 have hq1:∀ j,((l.take j).filter fun x=>!p x).length≤l.length:=fun j=>hZ _ l j
 refine hJ Tryz.func121 rfl (Nat.le_of_ble_eq_true rfl) (fun w0 x0 A hf=>?_)
 refine aC (fun K1 hK1=>(aB (aG rfl (bD) (aD (hK1 _ (aC (fun K2 hK2=>(aB (aE aA 2 rfl (aJ hf rfl (sD rfl rfl (by show [AV.conv _ _,AV.fn g (convL _ cap)]=_; rw[hcv,cJ (g:=E0) rfl (by simp)]) aBc (vN hent hcl p l hl hp) rfl) ?_))))))))))
 refine aE aA 1 rfl (aD (hK2 _ (aC (fun K3 hK3=>(aC (fun K4 hK4=>(aB (aE aA 2 rfl (aD (hK4 _ (aK rfl (fun hc1=>?_) (fun hc1=>?_))))))))))))
 ·
  simp only[bs] at hc1
  refine aC (fun K5 hK5=>(aB (aE aA 2 rfl (aD (hK5 _ (aI ?_))))))
  have hno:pI p l=-1:=by simpa using hc1
  rcases eL p l with ⟨_,hn⟩ | ⟨k,hk,e,_⟩
  · exact⟨_,.own E0 2 0 l.length,(l.map spC),Le.refl _,rfl,rfl,by rw[gQ p l hn],by rw[gQ p l hn]⟩
  · exfalso; omega
 ·
  simp only[bs] at hc1
  refine aL (hK3 _ (aC (fun K6 hK6=>(aC (fun K7 hK7=>(aB ?_))))))
  rcases eL p l with ⟨e0,_⟩ | ⟨k0,hk0,ek0,hpk0,hbef⟩
  · exact absurd e0 (by simpa using hc1)
  have hst:=mH (fun x=>!p x) l k0 hk0 (fun j hj hjk=>by simp [hbef j hj hjk]) (by simp [hpk0])
  rw[ek0]
  refine aE aA 1 rfl ?_
  refine aG rfl (bK rfl rfl (by omega) (by omega)) ?_
  refine aE aA 1 rfl (aD (hK7 _ (aM (bM (ι:=Nat) (fun j=>⟨42,[(0,.own E0 2 0 l.length),(1,.fn g cap),(5,.s (.int .i64 (((l.take j).filter fun x=>!p x).length:Nat))),(6,.s (.int .i64 (j:Nat)))],[(E0,.buf 2 ((jF (fun x=>!p x) l j).map spC))]⟩) (fun j=>j≤l.length) (fun j=>l.length - j) (k0+1) ?_ ?_ ?_))))
  · exact hk0
  · rw[hst.1,hst.2]; exact gN ⟨rfl,rfl,rfl,rfl,trivial⟩
  ·
   rintro j hC
   let q:=fun x=>!p x
   have hle:((l.take j).filter q).length≤j:=hq0 j
   have hle2:((l.take j).filter fun x=>!p x).length≤j:=hq0 j
   refine aC (fun K8 hK8=>(aC (fun K9 hK9=>(aB (aE aA 4 rfl (aD (hK9 _ (aK rfl (fun hc2=>?_) (fun hc2=>?_)))))))))
   ·
    simp only[bs] at hc2
    refine aL (hK8 _ (aC (fun K10 hK10=>(aM (aC (fun K11 hK11=>(aB (aE aA 2 rfl ?_))))))))
    refine aG rfl (bX rfl rfl iZ dP (by omega)) ?_
    refine aG rfl (bZ rfl aEl dP rfl (sF (c:=2) (k:=j) (enc:=spC) (by omega) (by rw[eU]; omega) rfl) (cs':=spC l[j]) (by rw[oZ (c:=2) (k:=j) (enc:=spC) (by omega) (by rw[eU]; omega) rfl,rI q l j j (by omega) hle])) ?_
    refine cA hf rfl fW rfl dP rfl rfl rfl rfl (lf rfl) (aD (hK11 _ (aC (fun K12 hK12=>(aB (aE aA 2 rfl (aJ hf rfl (aO rfl rfl hent (by rw[gS,hcl]; rfl) (hp _ (List.getElem_mem _))) ?_)))))))
    refine aE aA 1 rfl (aD (hK12 _ (aK rfl (fun hc3=>?_) (fun hc3=>?_))))
    ·
     simp only[bs] at hc3
     refine aC (fun K13 hK13=>(aB (aE aA 3 rfl ?_)))
     refine aG rfl (bX rfl rfl iZ dP (by omega)) ?_
     refine bB hf rfl rfl dP rfl rfl (by simp [spC,AV.cells,AV.one,Value.oneCell',splice]) (by simp [spC,AV.cells,AV.leaf,Value.oneCell',splice]) (hY (c:=2) (k:=((l.take j).filter fun x=>!p x).length) (enc:=spC) (v:=l[j]) (by omega) (by rw[eU]; omega) rfl (Nat.le_refl _)) ?_
     refine aD (hK13 _ (aB ?_))
     rw[kZ (fun x=>!p x) l j (by omega) (by simp_all)]
     refine aE aA 1 rfl ?_
     refine aG rfl (bK rfl rfl (by omega) (by omega)) ?_
     rw[nR (fun x=>!p x) l j (by omega) (by simp_all)]
     refine aE aA 1 rfl ?_
     refine bH ?_
     refine hK10 _ (aB (aE aA 1 rfl ?_))
     refine aG rfl (bK rfl rfl (by omega) (by omega)) ?_
     refine aE aA 1 rfl (aD ?_)
     exact⟨j+1,(by omega),by omega,cN rfl⟩
    ·
     simp only[bs] at hc3
     rw[lA (fun x=>!p x) l j (by omega) (by simp_all),nS (fun x=>!p x) l j (by omega) (by simp_all)]
     refine aL (hK10 _ (aB (aE aA 1 rfl ?_)))
     refine aG rfl (bK rfl rfl (by omega) (by omega)) ?_
     refine aE aA 1 rfl (aD ?_)
     exact⟨j+1,(by omega),by omega,cN rfl⟩
   ·
    simp only[bs] at hc2
    refine aX (hK6 _ (aC (fun K14 hK14=>(aB (aE aA 2 rfl ?_)))))
    refine aG rfl (eW rfl iZ dP rfl rfl (by omega) (by omega)) ?_
    refine wZ hf iA fW (by simp [Value.oneCell']) rfl rfl ?_
    refine aD (hK14 _ (aC (fun K15 hK15=>(aB (aE aA 2 rfl ?_)))))
    refine aG rfl (eW rfl iZ dP rfl rfl (by omega) (by omega)) ?_
    refine aE aA 1 rfl (aD (hK15 _ (aI ?_)))
    have hjl:l.length≤j:=by omega
    have he:=pN (fun x=>!p x) l j hjl
    refine⟨_,_,_,Le.refl _,rfl,rfl,?_,?_⟩
    · rw[List.take_of_length_le hjl]; rfl
    · rw[List.take_of_length_le hjl,Nat.zero_add,Int.toNat_natCast,← List.map_take,he]
end Go.Proofs.YtpkanhklapfajaaGreat
set_option linter.unusedVariables false
set_option linter.unusedSimpArgs false
namespace Go.Proofs.YtpkanhklapfajaaGreat
open Go Go.Abs
theorem aR6 (l:List Sp) (hl:l.length*16≤140737488355328) :DenO Tryz.prog 122 [.sl 2 (l.map spC)] 2 (·=(l.map spC)):=by
 refine fN Tryz.func122 rfl (Nat.le_of_ble_eq_true rfl) (fun w0 A hf=>?_)
 refine aC (fun K1 hK1=>(aB (aG rfl (bD) (aD (hK1 _ (aC (fun K2 hK2=>(aC (fun K3 hK3=>(aB (aE aA 1 rfl ?_)))))))))))
 refine mP rfl rfl rfl iZ (fun b hb1=>?_)
 refine aD (hK3 _ (aK rfl (fun hc2=>?_) (fun hc2=>?_)))
 ·
  have hl0:l=[]:=by simpa using hb1 (by assumption)
  refine aC (fun K4 hK4=>(aB (kW hf 2 rfl rfl rfl (aD (hK4 _ (aI ?_))))))
  exact⟨2,[],by decide,rfl,rfl,by rw[hl0]; rfl⟩
 ·
  refine aL (hK2 _ (aC (fun K5 hK5=>(aB (cT hf rfl rfl rfl iA rfl rfl rfl rfl (l2 rfl) ?_)))))
  refine aE aA 1 rfl (aZ hf rfl iA rfl rfl rfl (.inl rfl) rfl rfl (by first | rfl | simp [dJ,bG]) (by first | (simp only[maxLen,List.length_map,List.length_append,List.length_cons,List.length_nil]; omega) | (simp [maxLen] <;> omega)) (by first | (simp only[List.length_map,List.length_append,List.length_cons,List.length_nil]; omega) | (simp <;> omega)) ?_)
  refine aU (cM [7] rfl) (aE aA 1 rfl (aD (hK5 _ (aI ?_))))
  refine⟨5,(l.map spC),by decide,rfl,?_,rfl⟩
  show some (AV.own 5 2 0 (0+(l.map spC).length))=_
  rw[Nat.zero_add]
theorem rE (a:Int) :Den Tryz.prog 169 [.s (.int .i64 a)]  (·=.s (.bool false)):=by
 refine aR Tryz.func169 rfl (Nat.le_of_ble_eq_true rfl) (fun w0 A hf=>(aC (fun K1 hK1=>(aB (aE aA 1 rfl (aD (hK1 _ (aC (fun K2 hK2=>(aB (aE aA 4 rfl (aD (hK2 _ (aI ?_))))))))))))))
 refine⟨_,rfl,?_⟩
 refine aQ ?_
 simp
theorem jC (a b:Int) :Den Tryz.prog 125 [.s (.int .i64 a),.s (.int .i64 b)]  (·=.s (.int .i64 (jB a b))):=by
 refine aR Tryz.func125 rfl (Nat.le_of_ble_eq_true rfl) (fun w0 A hf=>(aC (fun K1 hK1=>(aB (aE aA 1 rfl (aD (hK1 _ (aC (fun K2 hK2=>(aB (aE aA 1 rfl (aJ hf rfl (aO rfl rfl aA9 rfl (rE _)) (aE aA 1 rfl (aD (hK2 _ ?_)))))))))))))))
 refine aC (fun K3 hK3=>(aB (aE aA 1 rfl (aJ hf rfl (aO rfl rfl aA9 rfl (rE _)) (aE aA 1 rfl (aD (hK3 _ (aC (fun K4 hK4=>(aC (fun K5 hK5=>(aB (aE aA 1 rfl (aD (hK5 _ ?_)))))))))))))))
 refine bT rfl (aL (hK4 _ (aC (fun K6 hK6=>(aC (fun K7 hK7=>(aB (aE aA 1 rfl (aD (hK7 _ (bT rfl (aL (hK6 _ (aC (fun K8 hK8=>?_)))))))))))))))
 refine aC (fun K9 hK9=>(aB (aE aA 3 rfl (aD (hK9 _ (aK rfl (fun hc3=>?_) (fun hc3=>?_)))))))
 ·
  simp only[bs] at hc3
  refine aC (fun K10 hK10=>(aB (aE aA 1 rfl (aD (hK10 _ (aI ?_))))))
  refine⟨_,rfl,?_⟩
  refine dG ?_
  unfold jB
  (repeat' split) <;> first | rfl | omega
 ·
  simp only[bs] at hc3
  refine aL (hK8 _ (aC (fun K11 hK11=>(aC (fun K12 hK12=>(aB (aE aA 3 rfl (aD (hK12 _ (aK rfl (fun hc4=>?_) (fun hc4=>?_)))))))))))
  ·
   simp only[bs] at hc4
   refine aC (fun K13 hK13=>(aB (aE aA 1 rfl (aD (hK13 _ (aI ?_))))))
   refine⟨_,rfl,?_⟩
   refine dG ?_
   unfold jB
   (repeat' split) <;> first | rfl | omega
  ·
   simp only[bs] at hc4
   refine aL (hK11 _ (aC (fun K14 hK14=>(aB (aE aA 1 rfl (aD (hK14 _ (aI ?_))))))))
   refine⟨_,rfl,?_⟩
   refine dG ?_
   unfold jB
   (repeat' split) <;> first | rfl | omega
theorem pC (s:Sp) :Den Tryz.prog 65 [.agg (spC s)]  (·=.s (.bool (decide (s.2≤s.1)))):=by
 refine aR Tryz.func65 rfl (Nat.le_of_ble_eq_true rfl) (fun w0 A hf=>(aC (fun K1 hK1=>(aB (aJ hf rfl (cE rfl rfl (lf rfl)) (aE aA 1 rfl (aD (hK1 _ (aC (fun K2 hK2=>(aB (aE aA 6 rfl (aD (hK2 _ (aI ?_)))))))))))))))
 refine⟨_,rfl,?_⟩
 rfl
theorem aQa (s:Sp) (t:Int) :Den Tryz.prog 24 [.agg (spC s),.s (.int .i64 t)]  (·=.s (.bool (decide (s.1≤t)&&decide (t<s.2)))):=by
 refine aR Tryz.func24 rfl (Nat.le_of_ble_eq_true rfl) (fun w0 A hf=>(aC (fun K1 hK1=>(aB (aJ hf rfl (cE rfl rfl (lf rfl)) (aE aA 1 rfl (aD (hK1 _ (aC (fun K2 hK2=>(aB (aE aA 5 rfl (aW rfl rfl rfl (fun hg1=>?_) (fun hg1=>?_))))))))))))))
 ·
  simp only[bs] at hg1
  refine aG rfl (fB rfl) (aE aA 5 rfl (aD (hK2 _ (aI ?_))))
  refine⟨_,rfl,?_⟩
  refine aQ ?_
  rw[Bool.eq_iff_iff]
  simp only[Bool.and_eq_true,decide_eq_true_eq,true_iff,Bool.false_eq_true,false_iff]
  omega
 ·
  simp only[bs] at hg1
  refine aE aA 5 rfl (aD (hK2 _ (aI ?_)))
  refine⟨_,rfl,?_⟩
  refine aQ ?_
  rw[Bool.eq_iff_iff]
  simp only[Bool.and_eq_true,decide_eq_true_eq,true_iff,Bool.false_eq_true,false_iff]
  omega
theorem zD (s o:Sp) :Den Tryz.prog 64 [.agg (spC s),.agg (spC o)]  (·=.agg (spC (gZ s o))):=by
 refine aR Tryz.func64 rfl (Nat.le_of_ble_eq_true rfl) (fun w0 A hf=>(aC (fun K1 hK1=>(aB (aJ hf rfl (cE rfl rfl (lf rfl)) (aJ hf rfl (cE rfl rfl (lf rfl)) (bV hf rfl rfl rfl fW (aD (hK1 _ (aC (fun K2 hK2=>(aB (aE aA 4 rfl (aG rfl (aPz rfl rfl) (aE aA 4 rfl ?_)))))))))))))))
 refine aG rfl (p_min rfl rfl) (aG rfl (bO rfl fW kR (l3 rfl) rfl) (bB hf rfl rfl dP rfl rfl (l1 rfl) (l4 rfl) rfl (aD (hK2 _ (aI ?_)))))
 refine⟨_,rfl,?_⟩
 rfl
theorem aJr (a b:Sp) :Den Tryz.prog 124 [.agg (spC a),.agg (spC b)]  (·=.s (.int .i64 (jB a.1 b.1))):=by
 refine aR Tryz.func124 rfl (Nat.le_of_ble_eq_true rfl) (fun w0 A hf=>(aC (fun K1 hK1=>(aB (aJ hf rfl (cE rfl rfl (lf rfl)) (aJ hf rfl (cE rfl rfl (lf rfl)) (aE aA 1 rfl (aD (hK1 _ (aC (fun K2 hK2=>(aB (aE aA 4 rfl (aJ hf rfl (aO rfl rfl lV rfl (jC _ _)) (aE aA 1 rfl ?_)))))))))))))))
 refine aD (hK2 _ (aI ?_))
 refine⟨_,rfl,?_⟩
 rfl
end Go.Proofs.YtpkanhklapfajaaGreat
namespace Go.Proofs
open Go.Shelf
def Tryz.sortL_ren:Go.Shelf.Ren:=⟨fun | 6=>123 | 15=>168 | 14=>167 | 28=>196 | 29=>197 | 20=>188 | 21=>189 | 22=>190 | 23=>191 | 24=>192 | 25=>193 | 26=>194 | 27=>195 | 46=>201 | 47=>202 | 48=>203 | 49=>204 | 50=>205 | 57=>208 | n=>n,fun | 22=>79 | 24=>47 | 25=>190 | 3=>3 | 39=>228 | 0=>0 | 53=>252 | 55=>254 | 4=>4 | 46=>246 | 45=>245 | 50=>116 | 5=>5 | 9=>9 | 66=>255 | 70=>259 | 76=>262 | 77=>263 | n=>n,fun | n=>n⟩
theorem Tryz.sortL:Go.Proofs.SlLaysF0.n6 Tryz.prog Tryz.sortL_ren:={
  mixed:=by kernel_rfl
  f6:=⟨Tryz.f123.name,by decide,Tryz.func123.trans (congrArg some (by kernel_rfl))⟩
  f14:=⟨Tryz.f167.name,by decide,Tryz.func167.trans (congrArg some (by kernel_rfl))⟩
  f15:=Tryz.func168.trans (congrArg some (by kernel_rfl))
  f20:=⟨Tryz.f188.name,by decide,Tryz.func188.trans (congrArg some (by kernel_rfl))⟩
  f21:=⟨Tryz.f189.name,by decide,Tryz.func189.trans (congrArg some (by kernel_rfl))⟩
  f22:=⟨Tryz.f190.name,by decide,Tryz.func190.trans (congrArg some (by kernel_rfl))⟩
  f23:=⟨Tryz.f191.name,by decide,Tryz.func191.trans (congrArg some (by kernel_rfl))⟩
  f24:=⟨Tryz.f192.name,by decide,Tryz.func192.trans (congrArg some (by kernel_rfl))⟩
  f25:=⟨Tryz.f193.name,by decide,Tryz.func193.trans (congrArg some (by kernel_rfl))⟩
  f26:=⟨Tryz.f194.name,by decide,Tryz.func194.trans (congrArg some (by kernel_rfl))⟩
  f27:=⟨Tryz.f195.name,by decide,Tryz.func195.trans (congrArg some (by kernel_rfl))⟩
  f28:=Tryz.func196.trans (congrArg some (by kernel_rfl))
  f29:=Tryz.func197.trans (congrArg some (by kernel_rfl))
  f46:=⟨Tryz.f201.name,by decide,Tryz.func201.trans (congrArg some (by kernel_rfl))⟩
  f47:=Tryz.func202.trans (congrArg some (by kernel_rfl))
  f48:=Tryz.func203.trans (congrArg some (by kernel_rfl))
  f49:=⟨Tryz.f204.name,by decide,Tryz.func204.trans (congrArg some (by kernel_rfl))⟩
  f50:=⟨Tryz.f205.name,by decide,Tryz.func205.trans (congrArg some (by kernel_rfl))⟩
  f57:=⟨Tryz.f208.name,by decide,Tryz.func208.trans (congrArg some (by kernel_rfl))⟩
  t0:=Tryz.underlying0
  a0:=Tryz.isAgg0
  z0:=Tryz.sizeOf0
  v0:=Tryz.zeroValue0
  t3:=Tryz.underlying3
  a3:=Tryz.isAgg3
  z3:=Tryz.sizeOf3
  v3:=Tryz.zeroValue3
  t4:=Tryz.underlying4
  a4:=Tryz.isAgg4
  z4:=Tryz.sizeOf4
  v4:=Tryz.zeroValue4
  t5:=Tryz.underlying5
  a5:=Tryz.isAgg5
  z5:=Tryz.sizeOf5
  v5:=Tryz.zeroValue5
  t9:=Tryz.underlying9
  a9:=Tryz.isAgg9
  z9:=Tryz.sizeOf9
  v9:=Tryz.zeroValue9
  t22:=Tryz.underlying79
  a22:=Tryz.isAgg79
  z22:=Tryz.sizeOf79
  v22:=Tryz.zeroValue79
  t25:=Tryz.underlying190
  a25:=Tryz.isAgg190
  z25:=Tryz.sizeOf190
  v25:=Tryz.zeroValue190
  t39:=Tryz.underlying228
  a39:=Tryz.isAgg228
  z39:=Tryz.sizeOf228
  v39:=Tryz.zeroValue228
  t45:=Tryz.underlying245
  a45:=Tryz.isAgg245
  z45:=Tryz.sizeOf245
  v45:=Tryz.zeroValue245
  t46:=Tryz.underlying246
  a46:=Tryz.isAgg246
  z46:=Tryz.sizeOf246
  v46:=Tryz.zeroValue246
  t50:=Tryz.underlying116
  a50:=Tryz.isAgg116
  z50:=Tryz.sizeOf116
  v50:=Tryz.zeroValue116
  t53:=Tryz.underlying252
  a53:=Tryz.isAgg252
  z53:=Tryz.sizeOf252
  v53:=Tryz.zeroValue252
  t55:=Tryz.underlying254
  a55:=Tryz.isAgg254
  z55:=Tryz.sizeOf254
  v55:=Tryz.zeroValue254
  t66:=Tryz.underlying255
  a66:=Tryz.isAgg255
  z66:=Tryz.sizeOf255
  v66:=Tryz.zeroValue255
  t70:=Tryz.underlying259
  a70:=Tryz.isAgg259
  z70:=Tryz.sizeOf259
  v70:=Tryz.zeroValue259
  t76:=Tryz.underlying262
  a76:=Tryz.isAgg262
  z76:=Tryz.sizeOf262
  v76:=Tryz.zeroValue262
  t77:=Tryz.underlying263
  a77:=Tryz.isAgg263
  z77:=Tryz.sizeOf263
  v77:=Tryz.zeroValue263 }
end Go.Proofs
set_option linter.unusedVariables false
set_option linter.unusedSimpArgs false
namespace Go.Proofs.YtpkanhklapfajaaGreat
open Go Go.Abs
theorem aNh:aUr Tryz.prog 123 2:=fun m enc cf g cb blk off cap d w hk h1 hO eg hc hH hb hs=>Go.Proofs.AnyQ.slices_SortFunc Tryz.sortL 2 Tryz.isAgg47 Tryz.sizeOf47 enc hk h1 cf hO g cb blk off cap d w eg hc hH hb hs
theorem aNi:aUs Tryz.prog 123:=fun p cap fv w=>Go.Proofs.AnyF.slices_SortFunc_none Tryz.sortL p cap fv w
theorem aSx (l:List Sp) (n:Nat) (hn:n=l.length) (hl:l.length<4611686018427387904):DenM Tryz.prog 123 [.own E0 2 0 n,.fn 124 []] 2 (l.map spC)
    (fun r ys=>∃ ms:List Sp,ms.Perm l∧ms.Pairwise (fun x y=>¬ jB y.1 x.1<0)∧ys=(ms.map spC)):=by
  subst hn
  exact aNj (by decide) aNh aNi aMq l spC (fun _=>rfl) (fun a _=>aSw a) (fun x y=>jB x.1 y.1) aT6 (fun x _ y _=>aJr x y) hl
theorem aDm (l:List Sp) (hl:l.length*16≤140737488355328) :Den Tryz.prog 63 [.sl 2 (l.map spC)]  (·=.sl 2 (dY l |>.map spC)):=by
 refine aR Tryz.func63 rfl (Nat.le_of_ble_eq_true rfl) (fun w0 A hf=>(aC (fun K1 hK1=>(aB (aG rfl (bD) (aD (hK1 _ (aC (fun K2 hK2=>(aB (aE aA 1 rfl (iB hf rfl rfl rfl rfl rfl aMs rfl (aR6 _ (by first | assumption | omega)) ?_))))))))))))
 rintro _ rfl
 refine gG hf 8 rfl rfl rfl rfl rfl aMt (aD9 lI rfl (fun _=>rfl) tU l _ (by rw[List.length_map]) (by omega) (fun x _=>pC x)) ?_
 rintro r zs ⟨rfl,rfl⟩
 refine aE aA 1 rfl (aD (hK2 _ (aC (fun K3 hK3=>(aB (aE aA 1 rfl ?_))))))
 have hfl:(l.filter fun x=>!tU x).length≤l.length:=List.length_filter_le _ _
 refine gG hf 8 rfl rfl rfl rfl rfl aMr (aSx (l.filter fun x=>!tU x) _ rfl (by omega)) ?_
 rintro r zs ⟨ms,hp,hs,rfl⟩
 have hml:=hp.length_eq
 refine aD (hK3 _ (aC (fun K4 hK4=>(aB (kW hf 2 rfl rfl rfl (aD (hK4 _ (aC (fun K5 hK5=>(aC (fun K6 hK6=>(aB (aE aA 3 rfl (aD (hK6 _ ?_)))))))))))))))
 refine aM (bM (ι:=Nat×List Sp) (fun(⟨k,out⟩:Nat×List Sp)=>⟨53,[(3,.own 3 2 0 out.length),(12,.own 8 2 0 (l.filter fun x=>!tU x).length),(13,.s (.int .i64 ((l.filter fun x=>!tU x).length:Nat))),(14,.s (.int .i64 (k:Nat)))],[(3,.buf 2 (out.map spC)),(8,.buf 2 (ms.map spC))]⟩) (fun(⟨k,out⟩:Nat×List Sp)=>k≤ms.length∧out=(ms.take k).foldl cX []∧out.length≤k) (fun(⟨k,out⟩:Nat×List Sp)=>ms.length - k) (0,[]) ?_ ?_ ?_)
 · exact⟨Nat.zero_le _,rfl,Nat.le_refl _⟩
 · exact cN rfl
 ·
  rintro ⟨k,out⟩ hC
  obtain ⟨h1,h2,h3⟩:=hC
  refine aC (fun K7 hK7=>(aB (aE aA 1 rfl (aD (hK7 _ (aC (fun K8 hK8=>(aK rfl (fun hc1=>?_) (fun hc1=>?_)))))))))
  ·
   simp only[bs] at hc1
   refine aL (hK8 _ (aC (fun K9 hK9=>(aM (aC (fun K10 hK10=>(aB ?_)))))))
   refine aG rfl (bX rfl rfl iZ dP (by omega)) ?_
   refine aG rfl (bZ rfl aEl dP rfl (sF (c:=2) (k:=k) (enc:=spC) (by omega) (by omega) rfl) (cs':=spC ms[k]) (oZ (c:=2) (k:=k) (enc:=spC) (by omega) (by omega) rfl)) (cA hf rfl fW rfl dP rfl rfl rfl rfl (lf rfl) (aD (hK10 _ (aC (fun K11 hK11=>(aB (aE aA 3 rfl (aD (hK11 _ (aC (fun K12 hK12=>(cU hf bF (by kernel_rfl) rfl (aT aA 3 rfl (fZ 22 true rfl (fun hg2=>?_) (fun hg2=>?_)))))))))))))))
   ·
    simp only[bs] at hg2
    refine aT aA 4 rfl ?_
    refine bI [(26,_)] rfl rfl ⟨⟨rfl,rfl⟩,trivial⟩ rfl (eZ rfl rfl (by omega) (by omega)) ?_
    refine bI [(25,_),(27,_)] rfl rfl ⟨⟨rfl,rfl⟩,⟨rfl,rfl⟩,trivial⟩ rfl (bX rfl rfl iZ dP (by omega)) ?_
    refine aT aA 1 rfl (bI [(29,_)] rfl rfl ⟨⟨rfl,rfl⟩,trivial⟩ rfl (gY rfl jI rfl (c:=.s (.int .i64 (out[out.length - 1]'(by omega)).2)) (iD (c:=2) (k:=out.length - 1) (enc:=spC) (by omega) (by omega) 1)) (aT aA 2 rfl (cY [3,5,6,12,13,14,32] rfl rfl rfl (hK12 _ (aK rfl (fun hc3=>?_) (fun hc3=>?_))))))
    ·
     simp only[bs] at hc3
     refine fO hf (L:=#[true,true,true,true,true,true,true,true,true,true,true,true,true,true,false]) 14 1 bF (by kernel_rfl) rfl (by kernel_rfl) rfl ?_
     refine aT aA 2 rfl ?_
     refine bI [(34,_)] rfl rfl ⟨⟨rfl,rfl⟩,trivial⟩ rfl (eZ rfl rfl (by omega) (by omega)) ?_
     refine aT aA 2 rfl ?_
     refine bI [(37,_)] rfl rfl ⟨⟨rfl,rfl⟩,trivial⟩ rfl (eZ rfl rfl (by omega) (by omega)) ?_
     refine bI [(36,_),(38,_)] rfl rfl ⟨⟨rfl,rfl⟩,⟨rfl,rfl⟩,trivial⟩ rfl (bX rfl rfl iZ dP (by omega)) ?_
     refine aT aA 1 rfl (bI [(40,_)] rfl rfl ⟨⟨rfl,rfl⟩,trivial⟩ rfl (gY rfl jI rfl (c:=.s (.int .i64 (out[out.length - 1]'(by omega)).2)) (iD (c:=2) (k:=out.length - 1) (enc:=spC) (by omega) (by omega) 1)) (aT aA 2 rfl (bI [(41,_),(43,_)] rfl rfl ⟨⟨rfl,rfl⟩,⟨rfl,rfl⟩,trivial⟩ rfl (aPz rfl rfl) ?_)))
     refine bI [(33,_),(35,_)] rfl rfl ⟨⟨rfl,rfl⟩,⟨rfl,rfl⟩,trivial⟩ rfl (bX rfl rfl iZ dP (by omega)) ?_
     refine aT aA 1 rfl (pE [3,12,13,14,44,46] rfl rfl rfl ?_)
     refine aH 14 [] (by kernel_rfl) ⟨?_,trivial⟩
     ·
      refine⟨_,rfl,rfl,(ao rfl (bB hf rfl rfl cD rfl rfl (by simp [AV.cells,AV.one,Value.oneCell']) (by simp [AV.cells,AV.leaf,Value.oneCell']) (hY (c:=2) (k:=out.length - 1) (f:=1) (enc:=spC) (v:=((out[out.length - 1]'(by omega)).1,max (out[out.length - 1]'(by omega)).2 ms[k].2)) (by omega) (by omega) rfl (Nat.le_refl _)) ?_))⟩
      refine aF (bS (by kernel_rfl) ?_)
      refine hK9 _ (aB ?_)
      refine aG rfl (bK rfl rfl (by omega) (by omega)) ?_
      refine aE aA 1 rfl (aD ?_)
      refine⟨(k+1,cX out ms[k]),⟨by omega,by rw[dU ms cX [] k (by omega),← h2],by have:=qM out ms[k]; omega⟩,by simp only; omega,?_⟩
      (rw[vK (by omega) (by assumption)]; exact cF ⟨by rw[List.length_set]; rfl,rfl,rfl,rfl,trivial⟩ rfl)
    ·
     simp only[bs] at hc3
     refine aB (aE aA 2 rfl (aJ hf rfl (aP iA rfl rfl rfl rfl (l2 rfl)) (aZ hf rfl iA rfl rfl rfl (by first | exact Or.inl rfl | exact Or.inr rfl) (by first | rfl | simp) rfl (by first | rfl | simp [dJ,bG]) (by first | (simp only[maxLen,List.length_map,List.length_append,List.length_cons,List.length_nil]; omega) | (simp [maxLen] <;> omega)) (by first | (simp only[List.length_map,List.length_append,List.length_cons,List.length_nil]; omega) | (simp <;> omega)) ?_)))
     refine aU (cM [12,13,14,50] rfl) (aE aA 1 rfl ?_)
     refine bH ?_
     refine hK9 _ (aB ?_)
     refine aG rfl (bK rfl rfl (by omega) (by omega)) ?_
     refine aE aA 1 rfl (aD ?_)
     refine⟨(k+1,cX out ms[k]),⟨by omega,by rw[dU ms cX [] k (by omega),← h2],by have:=qM out ms[k]; omega⟩,by simp only; omega,?_⟩
     (rw[vL (by omega) (by omega)]; exact cF ⟨by rw[List.length_append]; rfl,rfl,rfl,rfl,trivial⟩ (by rw[List.map_append]; rfl))
   ·
    simp only[bs] at hg2
    refine aT aA 10 rfl (cY [3,5,6,12,13,14,32] rfl rfl rfl (hK12 _ (bT rfl (aB (aE aA 2 rfl (aJ hf rfl (aP iA rfl rfl rfl rfl (l2 rfl)) (aZ hf rfl iA rfl rfl rfl (by first | exact Or.inl rfl | exact Or.inr rfl) (by first | rfl | simp) rfl (by first | rfl | simp [dJ,bG]) (by first | (simp only[maxLen,List.length_map,List.length_append,List.length_cons,List.length_nil]; omega) | (simp [maxLen] <;> omega)) (by first | (simp only[List.length_map,List.length_append,List.length_cons,List.length_nil]; omega) | (simp <;> omega)) ?_)))))))
    refine aU (cM [12,13,14,50] rfl) (aE aA 1 rfl ?_)
    refine bH ?_
    refine hK9 _ (aB ?_)
    refine aG rfl (bK rfl rfl (by omega) (by omega)) ?_
    refine aE aA 1 rfl (aD ?_)
    refine⟨(k+1,cX out ms[k]),⟨by omega,by rw[dU ms cX [] k (by omega),← h2],by have:=qM out ms[k]; omega⟩,by simp only; omega,?_⟩
    (obtain rfl:out=[]:=List.eq_nil_of_length_eq_zero (by omega); exact cF ⟨rfl,rfl,rfl,rfl,trivial⟩ rfl)
  ·
   simp only[bs] at hc1
   refine aX (hK5 _ (aC (fun K13 hK13=>(aB (aE aA 2 rfl (aD (hK13 _ (aI ?_))))))))
   refine⟨_,rfl,?_⟩
   refine(cJ (g:=3) rfl (by rw[List.length_map])).trans ?_
   rw[h2,lZ ms cX [] k (by omega),aRg hp hs]
end Go.Proofs.YtpkanhklapfajaaGreat
set_option linter.unusedVariables false
set_option linter.unusedSimpArgs false
namespace Go.Proofs.YtpkanhklapfajaaGreat
open Go Go.Abs
theorem vX (l:List bC) (hl:l.length*32≤140737488355328) :DenO Tryz.prog 71 [.sl 4 (l.map stC)] 4 (·=(l.map stC)):=by
 refine fN Tryz.func71 rfl (Nat.le_of_ble_eq_true rfl) (fun w0 A hf=>?_)
 refine aC (fun K1 hK1=>(aB (aG rfl (bD) (aD (hK1 _ (aC (fun K2 hK2=>(aC (fun K3 hK3=>(aB (aE aA 1 rfl ?_)))))))))))
 refine mP rfl rfl rfl cB (fun b hb1=>?_)
 refine aD (hK3 _ (aK rfl (fun hc2=>?_) (fun hc2=>?_)))
 ·
  have hl0:l=[]:=by simpa using hb1 (by assumption)
  refine aC (fun K4 hK4=>(aB (kW hf 4 rfl rfl rfl (aD (hK4 _ (aI ?_))))))
  exact⟨2,[],by decide,rfl,rfl,by rw[hl0]; rfl⟩
 ·
  refine aL (hK2 _ (aC (fun K5 hK5=>(aB (cT hf rfl rfl rfl gW rfl rfl rfl rfl (l2 rfl) ?_)))))
  refine aE aA 1 rfl (aZ hf rfl gW rfl rfl rfl (.inl rfl) rfl rfl (by first | rfl | simp [dJ,bG]) (by first | (simp only[maxLen,List.length_map,List.length_append,List.length_cons,List.length_nil]; omega) | (simp [maxLen] <;> omega)) (by first | (simp only[List.length_map,List.length_append,List.length_cons,List.length_nil]; omega) | (simp <;> omega)) ?_)
  refine aU (cM [7] rfl) (aE aA 1 rfl (aD (hK5 _ (aI ?_))))
  refine⟨5,(l.map stC),by decide,rfl,?_,rfl⟩
  show some (AV.own 5 4 0 (0+(l.map stC).length))=_
  rw[Nat.zero_add]
theorem aQw (n:Nat) (hn:n*32≤140737488355328) :DenO Tryz.prog 134 [.s (.slice none 0 0),.s (.int .i64 (n:Nat))] 4 (·=[]):=by
 refine fN Tryz.func134 rfl (Nat.le_of_ble_eq_true rfl) (fun w0 A hf=>?_)
 refine aC (fun K1 hK1=>(aB (aG rfl (bD) (aD (hK1 _ (aC (fun K2 hK2=>(aC (fun K3 hK3=>(aB (aE aA 2 rfl (aD (hK3 _ (aK rfl (fun hc1=>?_) (fun hc1=>?_)))))))))))))))
 ·
  simp only[bs] at hc1
  omega
 ·
  simp only[bs] at hc1
  refine aL (hK2 _ (aC (fun K4 hK4=>(aC (fun K5 hK5=>(aB (aE aA 2 rfl (aG rfl (lN rfl cB) (aE aA 2 rfl ?_)))))))))
  refine aG rfl (eZ rfl rfl (by omega) (by omega)) ?_
  refine aG rfl (eZ rfl rfl (by omega) (by omega)) ?_
  refine aE aA 1 rfl (aD (hK5 _ (aC (fun K6 hK6=>(aB (aE aA 2 rfl (aD (hK6 _ (aK rfl (fun hc2=>?_) (fun hc2=>?_))))))))))
  ·
   simp only[bs] at hc2
   refine aB (aE aA 2 rfl (aG rfl (lN rfl cB) ?_))
   refine aG rfl (qC rfl cB bA rfl) ?_
   refine aE aA 1 rfl (uP hf rfl rfl rfl gW Tryz.underlying3 rfl rfl (by omega) (by omega) (by simp only[maxLen]; omega) ?_)
   refine aE aA 2 rfl ?_
   refine aG rfl (eW rfl cB bA rfl rfl (by omega) (by omega)) ?_
   refine aE aA 1 rfl (aD (hK4 _ (aC (fun K7 hK7=>(aB (aE aA 1 rfl ?_))))))
   refine aG rfl (tR rfl) ?_
   refine aD (hK7 _ (aI ?_))
   exact⟨22,[],by decide,rfl,rfl,rfl⟩
  ·
   simp only[bs] at hc2
   refine aL (hK4 _ (aC (fun K8 hK8=>(aB (aE aA 1 rfl ?_)))))
   refine aGu hf 4 rfl rfl rfl rfl ?_
   refine aD (hK8 _ (aI ?_))
   exact⟨4,[],by decide,rfl,rfl,rfl⟩
theorem aAb (rows:List (List bC)) (hl:rows.length≤9223372036854775807) (hb:rows.flatten.length*32≤140737488355328) :DenO Tryz.prog 72 [.sl 1 (rows.map fun r=>[AV.sl 4 (r.map stC)])] 4 (·=(rows.flatten.map stC)):=by
 refine fN Tryz.func72 rfl (Nat.le_of_ble_eq_true rfl) (fun w0 A hf=>?_)
 refine aC (fun K1 hK1=>(aB (aG rfl (bD) (aD (hK1 _ (aC (fun K2 hK2=>(aB (aE aA 1 rfl (aD (hK2 _ (aC (fun K3 hK3=>(aC (fun K4 hK4=>(aB ?_))))))))))))))))
 refine aE aA 3 rfl (aD (hK4 _ (aM (bM (ι:=Nat) (fun k=>⟨36,[(0,.sl 1 (rows.map fun r=>[AV.sl 4 (r.map stC)])),(3,.s (.int .i64 ((rows.take k).flatten.length:Nat))),(9,.sl 1 (rows.map fun r=>[AV.sl 4 (r.map stC)])),(10,.s (.int .i64 ((rows.map fun r=>[AV.sl 4 (r.map stC)]).length:Nat))),(11,.s (.int .i64 (k:Nat)))],[]⟩) (fun k=>k≤rows.length) (fun k=>rows.length - k) 0 ?_ ?_ ?_))))
 · exact Nat.zero_le _
 · exact cN rfl
 ·
  rintro k hC
  refine aC (fun K5 hK5=>(aB (aE aA 1 rfl (aD (hK5 _ (aC (fun K6 hK6=>(aK rfl (fun hc1=>?_) (fun hc1=>?_)))))))))
  ·
   simp only[bs] at hc1
   refine aL (hK6 _ (aC (fun K7 hK7=>(aM (aC (fun K8 hK8=>(aB ?_)))))))
   refine aG rfl (aY rfl rfl aGs yL (by first | exact ixm (by omega) | assumption | exact⟨by decide,rfl⟩)) ?_
   refine aE aA 2 rfl (aD (hK8 _ (aC (fun K9 hK9=>(aB ?_)))))
   have hk:k<rows.length:=by omega
   have e1:=congrArg List.length (hU rows k hk)
   rw[List.length_append] at e1
   have e2:=qE rows (k+1)
   have e3:(rows[k].map stC).length=rows[k].length:=List.length_map _
   refine aE aA 3 rfl ?_
   refine aG rfl (bK rfl rfl (by omega) (by omega)) ?_
   rw[show ((((rows.take k).flatten.length:Nat):Int)+(((rows[k].map stC).length:Nat):Int))=(((rows.take (k+1)).flatten.length:Nat):Int) from by omega]
   refine aE aA 1 rfl (aD (hK9 _ (aC (fun K10 hK10=>(aB (aE aA 2 rfl (aD (hK10 _ (aK rfl (fun hc2=>?_) (fun hc2=>?_))))))))))
   ·
    simp only[bs] at hc2
    omega
   ·
    simp only[bs] at hc2
    refine aL (hK7 _ (aB ?_))
    refine aG rfl (bK rfl rfl (by omega) (by omega)) ?_
    refine aE aA 1 rfl (aD ?_)
    exact⟨k+1,(by omega),by omega,cN rfl⟩
  ·
   simp only[bs] at hc1
   refine aX (hK3 _ (aC (fun K11 hK11=>(aB ?_))))
   rw[List.take_of_length_le (show rows.length≤k by omega)]
   refine aE aA 1 rfl (iB hf rfl rfl rfl rfl rfl aMn rfl (aQw rows.flatten.length (by omega)) ?_)
   rintro _ rfl
   refine aE aA 1 rfl (aD (hK11 _ (aC (fun K12 hK12=>(aC (fun K13 hK13=>(aB (aE aA 3 rfl (aD (hK13 _ (aM (bM (ι:=Nat) (fun j=>⟨36,[(6,.own 24 4 0 (rows.take j).flatten.length),(25,.sl 1 (rows.map fun r=>[AV.sl 4 (r.map stC)])),(26,.s (.int .i64 ((rows.map fun r=>[AV.sl 4 (r.map stC)]).length:Nat))),(27,.s (.int .i64 (j:Nat)))],[(24,.buf 4 ((rows.take j).flatten.map stC))]⟩) (fun j=>j≤rows.length) (fun j=>rows.length - j) 0 ?_ ?_ ?_))))))))))))
   · exact Nat.zero_le _
   · exact cN rfl
   ·
    rintro j hC
    refine aC (fun K14 hK14=>(aB (aE aA 1 rfl (aD (hK14 _ (aC (fun K15 hK15=>(aK rfl (fun hc3=>?_) (fun hc3=>?_)))))))))
    ·
     simp only[bs] at hc3
     refine aL (hK15 _ (aC (fun K16 hK16=>(aM (aC (fun K17 hK17=>(aB ?_)))))))
     refine aG rfl (aY rfl rfl aGs yL (by first | exact ixm (by omega) | assumption | exact⟨by decide,rfl⟩)) ?_
     refine aE aA 2 rfl (aD (hK17 _ (aB ?_)))
     have hj:j<rows.length:=by omega
     have e1:=congrArg List.length (hU rows j hj)
     rw[List.length_append] at e1
     have e2:=qE rows (j+1)
     have e3:(rows[j].map stC).length=rows[j].length:=List.length_map _
     refine aE aA 2 rfl (aZ hf rfl gW rfl rfl rfl (.inl rfl) (by simp only[List.length_map]) rfl (by first | rfl | simp [dJ,bG]) (by first | (simp only[maxLen,List.length_map,List.length_append,List.length_cons,List.length_nil]; omega) | (simp [maxLen] <;> omega)) (by first | (simp only[List.length_map,List.length_append,List.length_cons,List.length_nil]; omega) | (simp <;> omega)) ?_)
     refine aU (cM [25,26,27,33] rfl) ?_
     rw[show (rows.take j).flatten.length+(rows[j].map stC).length=(rows.take (j+1)).flatten.length from by omega,← List.map_append,← hU rows j hj]
     refine aE aA 1 rfl ?_
     refine bH ?_
     refine hK16 _ (aB ?_)
     refine aG rfl (bK rfl rfl (by omega) (by omega)) ?_
     refine aE aA 1 rfl (aD ?_)
     exact⟨j+1,(by omega),by omega,cN rfl⟩
    ·
     simp only[bs] at hc3
     refine aX (hK12 _ (aC (fun K18 hK18=>(aB (aE aA 2 rfl (aD (hK18 _ (aI ?_))))))))
     refine⟨24,(rows.flatten.map stC),by decide,?_,?_,rfl⟩
     · rw[List.take_of_length_le (show rows.length≤j by omega)]; rfl
     · rw[List.take_of_length_le (show rows.length≤j by omega)]
       show some (AV.own 24 4 0 rows.flatten.length)=_
       rw[List.length_map]
theorem aTc (a b c d:Int) :Den Tryz.prog 73 [.s (.int .i64 a),.s (.int .i64 b),.s (.int .i64 c),.s (.int .i64 d)]  (·=.agg (stC ((a,b),(c,d)))):=by
 refine aR Tryz.func73 rfl (Nat.le_of_ble_eq_true rfl) (fun w0 A hf=>(aC (fun K1 hK1=>(aB (bV hf rfl rfl rfl eE (aD (hK1 _ (aC (fun K2 hK2=>(aB (aE aA 2 rfl (aG rfl (bO rfl fW kR (l3 rfl) rfl) (aE aA 2 rfl (aG rfl (bO rfl eE rO (l3 rfl) rfl) (bB hf rfl rfl bA rfl rfl (l1 rfl) (l4 rfl) rfl ?_)))))))))))))))
 refine aD (hK2 _ (aI ?_))
 refine⟨_,rfl,?_⟩
 rfl
theorem aTi (s:bC) :Den Tryz.prog 34 [.agg (stC s)]  (·=.agg (stC s)):=by
 refine aR Tryz.func34 rfl (Nat.le_of_ble_eq_true rfl) (fun w0 A hf=>(aC (fun K1 hK1=>(aB (aJ hf rfl (cE rfl rfl (lf rfl)) (bV hf rfl rfl rfl eE (aD (hK1 _ (aC (fun K2 hK2=>(aB (aE aA 8 rfl (aJ hf rfl (aO rfl rfl aOr rfl (aTc _ _ _ _)) (bB hf rfl rfl bA rfl rfl (l1 rfl) (l4 rfl) rfl (aD ?_)))))))))))))))
 refine hK2 _ (aI ?_)
 refine⟨_,rfl,?_⟩
 rfl
theorem aTe (s:bC) :Den Tryz.prog 49 [.agg (stC s)]  (·=.agg (stC s)):=by
 refine aR Tryz.func49 rfl (Nat.le_of_ble_eq_true rfl) (fun w0 A hf=>(aC (fun K1 hK1=>(aB (aJ hf rfl (cE rfl rfl (lf rfl)) (bV hf rfl rfl rfl nU (aD (hK1 _ (aC (fun K2 hK2=>(aB (aE aA 10 rfl (aG rfl (bO rfl nU zW (l3 rfl) rfl) (bB hf rfl rfl cS rfl rfl (l1 rfl) (l4 rfl) rfl (aD ?_)))))))))))))))
 refine hK2 _ (aI ?_)
 refine⟨_,rfl,?_⟩
 rfl
theorem aEc (a b:bC) :Den Tryz.prog 67 [.agg (stC a),.agg (stC b)]  (·=.s (.int .i64 (gL a b))):=by
 refine aR Tryz.func67 rfl (Nat.le_of_ble_eq_true rfl) (fun w0 A hf=>(aC (fun K1 hK1=>(aB (aJ hf rfl (cE rfl rfl (lf rfl)) (aJ hf rfl (cE rfl rfl (lf rfl)) (aE aA 1 rfl (aD (hK1 _ (aC (fun K2 hK2=>(cU hf bF (by kernel_rfl) rfl (aT aA 6 rfl (bL [(7,_),(10,_)] rfl rfl ⟨⟨rfl,rfl⟩,⟨rfl,rfl⟩,trivial⟩ rfl (aO rfl rfl lV rfl (jC _ _)) (aT aA 6 rfl ?_)))))))))))))))
 refine bL [(14,_),(17,_)] rfl rfl ⟨⟨rfl,rfl⟩,⟨rfl,rfl⟩,trivial⟩ rfl (aO rfl rfl lV rfl (jC _ _)) (aT aA 4 rfl (bL [(20,_),(22,_)] rfl rfl ⟨⟨rfl,rfl⟩,⟨rfl,rfl⟩,trivial⟩ rfl (aO rfl rfl lV rfl (jC _ _)) (aT aA 4 rfl (bL [(25,_),(27,_)] rfl rfl ⟨⟨rfl,rfl⟩,⟨rfl,rfl⟩,trivial⟩ rfl (aO rfl rfl lV rfl (jC _ _)) (bL [(11,_),(18,_),(23,_),(28,_)] rfl rfl ⟨⟨rfl,rfl⟩,⟨rfl,rfl⟩,⟨rfl,rfl⟩,⟨rfl,rfl⟩,trivial⟩ rfl (aP fD rfl rfl rfl rfl (l2 rfl)) (bL [(29,_)] rfl rfl ⟨⟨rfl,rfl⟩,trivial⟩ rfl (aO rfl rfl uM rfl (Nm.or_den [_,_,_,_] (by simp))) ?_))))))
 refine aT aA 1 rfl (cY [4] rfl rfl rfl (hK2 _ (aI ?_)))
 refine⟨_,rfl,?_⟩
 rfl
theorem wO (a b:bC) :Den Tryz.prog 106 [.agg (stC a),.agg (stC b)]  (·=.s (.bool (decide (gL a b<0)))):=by
 refine aR Tryz.func106 rfl (Nat.le_of_ble_eq_true rfl) (fun w0 A hf=>(aC (fun K1 hK1=>(aB (aJ hf rfl (cE rfl rfl (lf rfl)) (aJ hf rfl (cE rfl rfl (lf rfl)) (aE aA 1 rfl (aD (hK1 _ (aC (fun K2 hK2=>(aC (fun K3 hK3=>(aB (aE aA 5 rfl (aD ?_))))))))))))))))
 refine hK3 _ (aK rfl (fun hc1=>?_) (fun hc1=>?_))
 ·
  simp only[bs] at hc1
  refine aC (fun K4 hK4=>(aB (aE aA 6 rfl (aD (hK4 _ (aI ?_))))))
  refine⟨_,rfl,?_⟩
  exact aQ (ah1 (by assumption))
 ·
  simp only[bs] at hc1
  refine aL (hK2 _ (aC (fun K5 hK5=>(aC (fun K6 hK6=>(aB (aE aA 5 rfl (aD (hK6 _ (aK rfl (fun hc2=>?_) (fun hc2=>?_)))))))))))
  ·
   simp only[bs] at hc2
   refine aC (fun K7 hK7=>(aB (aE aA 6 rfl (aD (hK7 _ (aI ?_))))))
   refine⟨_,rfl,?_⟩
   exact aQ (ah2 (by assumption) (by assumption))
  ·
   simp only[bs] at hc2
   refine aL (hK5 _ (aC (fun K8 hK8=>(aC (fun K9 hK9=>(aB (aE aA 5 rfl (aD (hK9 _ (aK rfl (fun hc3=>?_) (fun hc3=>?_)))))))))))
   ·
    simp only[bs] at hc3
    refine aC (fun K10 hK10=>(aB (aE aA 6 rfl (aD (hK10 _ (aI ?_))))))
    refine⟨_,rfl,?_⟩
    exact aQ (ah3 (by assumption) (by assumption) (by assumption))
   ·
    simp only[bs] at hc3
    refine aL (hK8 _ (aC (fun K11 hK11=>(aB (aE aA 6 rfl (aD (hK11 _ (aI ?_))))))))
    refine⟨_,rfl,?_⟩
    exact aQ (ah4 (by assumption) (by assumption) (by assumption))
end Go.Proofs.YtpkanhklapfajaaGreat
namespace Go.Abs
open Go
theorem aG1 {c:AV} (h:Ty (.int .i64) [c]):∃ n:Int,c=.s (.int .i64 n)∧-9223372036854775808≤n∧n≤9223372036854775807:=by
  simp only[Ty] at h
  obtain ⟨n,hx,hw⟩:=h
  simp only[List.cons.injEq,and_true] at hx
  exact⟨n,hx,aSo hw⟩
theorem ty_str {c:AV} (h:Ty .str [c]):∃ s:ByteArray,c=.s (.string s)∧s.size≤140737488351232:=by
  simp only[Ty] at h
  obtain ⟨s,hx,hw⟩:=h
  simp only[List.cons.injEq,and_true] at hx
  exact⟨s,hx,hw⟩
theorem ty_pair {cs:List AV} (h:Ty (.agg [.str,.str]) cs):∃ a b:ByteArray,cs=[.s (.string a),.s (.string b)]∧a.size≤140737488351232∧b.size≤140737488351232:=by
  simp only[Ty,TyL] at h
  obtain ⟨a,b,rfl,⟨n,rfl,hn⟩,a',b',rfl,⟨m,rfl,hm⟩,rfl⟩:=h
  exact⟨n,m,rfl,hn,hm⟩
end Go.Abs
set_option linter.unusedVariables false
set_option linter.unusedSimpArgs false
namespace Go.Abs
theorem aS8 (x y:Pr):(x.1.toList == y.1.toList&&(x.2.toList == y.2.toList&&true))=decide (x=y):=by
  rw[Bool.eq_iff_iff]
  simp only[Bool.and_eq_true,beq_iff_eq,toList_inj,and_true,decide_eq_true_eq,Prod.ext_iff]
def RevI (l:List En) (n:Nat) (t:Int) (k:Nat) (out:List En):Prop :=
  k≤l.length∧∃ hn:n<l.length,(k≤n∧out=l.take k)∨(n<k∧out=l.take n++(tL l[n] t++(l.take k).drop (n+1)))
theorem RevI.start {l:List En} {n:Nat} (t:Int) (hn:n<l.length):RevI l n t 0 []:=⟨Nat.zero_le _,hn,.inl ⟨Nat.zero_le _,rfl⟩⟩
theorem RevI.len {l:List En} {n:Nat} {t:Int} {k:Nat} {out:List En} (h:RevI l n t k out):out.length≤k:=by
  obtain ⟨hk,hn,⟨h1,rfl⟩ | ⟨h1,rfl⟩⟩:=h
  · simp; omega
  · simp only[List.length_append,List.length_take,List.length_drop,tL]
    split <;> simp <;> omega
theorem RevI.keep {l:List En} {n:Nat} {t:Int} {k:Nat} {out:List En} (h:RevI l n t k out) (hk:k<l.length) (he:k=n) (ht:l[k].2.1<t):RevI l n t (k+1) (out++[(l[k].1,(l[k].2.1,t))]):=by
  subst he
  obtain ⟨_,hn,⟨h1,rfl⟩ | ⟨h1,rfl⟩⟩:=h
  · refine⟨hk,hn,.inr ⟨by omega,?_⟩⟩
    rw[tL,if_neg (by omega),List.drop_eq_nil_of_le (by simp; omega),List.append_nil]
  · omega
theorem RevI.fin {l:List En} {p:Pr} {n:Nat} {t:Int} {k:Nat} {out:List En} (h:RevI l n t k out) (hk:l.length≤k) (h1:∀ (j:Nat) (hj:j<l.length),j<n→gK p l[j]=false) (h2:∀ hn:n<l.length,gK p l[n]=true):out=kX l p t:=by
  obtain ⟨_,hn,⟨h3,rfl⟩ | ⟨h3,rfl⟩⟩:=h
  · omega
  · rw[aB0 p t l n hn h1 (h2 hn),List.take_of_length_le hk]
theorem rev_set {l:List En} {p:Pr} {t:Int} {k:Nat} (hk:k<l.length) (h1:∀ (j:Nat) (hj:j<l.length),j<k→gK p l[j]=false) (h2:gK p l[k]=true) (ht:l[k].2.1<t):l.set k (l[k].1,(l[k].2.1,t))=kX l p t:=by
  rw[aB0 p t l k hk h1 h2,tL,if_neg (by omega),List.set_eq_take_append_cons_drop,if_pos hk]; rfl
theorem rev_del {l:List En} {p:Pr} {t:Int} {k:Nat} {v:En} (hk:k<l.length) (h1:∀ (j:Nat) (hj:j<l.length),j<k→gK p l[j]=false) (h2:gK p l[k]=true) (ht:t≤l[k].2.1):(l.set k v).take k++(l.set k v).drop (k+1)=kX l p t:=by
  rw[aB0 p t l k hk h1 h2,tL,if_pos ht,List.take_set_of_le (Nat.le_refl _),List.drop_set_of_lt (by omega)]; rfl
theorem onB_f {l:List En} {p:Pr} (h:pI (gK p) l<0):onB l p=false:=by
  rw[onB,← aDw]; simp; omega
theorem aTd {l:List En} {p:Pr} {k:Nat} (hk:k<l.length) (h:gK p l[k]=true):onB l p=true:=List.any_eq_true.2 ⟨_,List.getElem_mem hk,h⟩
theorem aeq_pr {x y:Pr}:aeqL [.str,.str] (prC x) (prC y)=some (decide (x=y),[],[]):=by
  rw[← aS8]; rfl
theorem aTh {e:En} (h:e.2.2≤e.2.1∨cI e.1.1=false∨cI e.1.2=false∨(cI e.1.1&&cI e.1.2)=false):okE e=false:=by
  rcases h with h | h | h | h
  · have:decide (e.2.1<e.2.2)=false:=by simp; omega
    rw[okE,this]; rfl
  · rw[okE,h]; simp
  · rw[okE,h]; simp
  · rw[okE,h]; simp
theorem aP1 {e:En} (h:e.2.1<e.2.2) (h1:cI e.1.1=true) (h2:cI e.1.2=true):okE e=true:=by simp [okE,h,h1,h2]
theorem uZ {a b:En}:aJs a b=true↔mD a b<0∧(a.1=b.1→a.2.2≤b.2.1):=by
  simp only[aJs,Bool.and_eq_true,decide_eq_true_eq,Bool.not_eq_true',Bool.and_eq_false_iff,decide_eq_false_iff_not]
  refine and_congr_right fun _=>?_
  by_cases e:a.1=b.1
  · simp only[e,not_true_eq_false,false_or,forall_const]; omega
  · simp [e]
theorem aP4 {a b:En} (h:¬ mD a b<0∨(a.1=b.1∧b.2.1<a.2.2)):aJs a b=false:=by
  rw[Bool.eq_false_iff]; intro h0
  obtain ⟨h1,h2⟩:=uZ.1 h0
  rcases h with h | ⟨h,h3⟩
  · omega
  · have:=h2 h; omega
theorem aS7 {a b:Pr} (h1:a.1.toList=b.1.toList) (h2:a.2.toList=b.2.toList):a=b:=Prod.ext (toList_inj.1 h1) (toList_inj.1 h2)
theorem aHf {a b:Pr} (h:¬ a.1.toList=b.1.toList):a≠b:=fun e=>h (by rw[e])
theorem aHe {a b:Pr} (h:¬ a.2.toList=b.2.toList):a≠b:=fun e=>h (by rw[e])
end Go.Abs
set_option linter.unusedVariables false
set_option linter.unusedSimpArgs false
namespace Go.Abs
open Go Go.RowKit
variable {P:Program}
theorem sK {f:Nat} {args:List AV} {x y:AV} (h:Den P f args (·=x)) (e:x=y):Den P f args (·=y):=e ▸ h
def RisR (a b:En):Prop:=mD a b<0∧(a.1=b.1→a.2.2≤b.2.1)
theorem RisR.trans {a b c:En} (hb:okE b=true) (h1:RisR a b) (h2:RisR b c):RisR a c:=by
  refine⟨ordE_tri.lt_tr h1.1 h2.1,fun e=>?_⟩
  have hab:qX a.1 b.1≤0:=by
    have:=h1.1; rw[tS] at this; unfold tY at this; split at this <;> simp only[] at*<;> omega
  have hbc:qX b.1 c.1≤0:=by
    have:=h2.1; rw[tS] at this; unfold tY at this; split at this <;> simp only[] at*<;> omega
  have hba:qX b.1 a.1≤0:=by rw[e]; exact hbc
  have h0:qX a.1 b.1=0:=by have:=pairC_tri.swap a.1 b.1; omega
  have e1:=aDg.1 h0
  have g1:=h1.2 e1
  have g2:=h2.2 (e1 ▸ e)
  have g3:b.2.1<b.2.2:=by
    simp only[okE,Bool.and_eq_true,decide_eq_true_eq] at hb; exact hb.1
  omega
theorem tK (l:List En):aE7 l=true↔(∀ x∈l,okE x=true)∧l.Pairwise RisR:=by
  rw[aE7,qV RisR (fun x y=>uZ) (fun x y z hy h1 h2=>RisR.trans hy h1 h2)]
  simp
theorem aI7 {l:List En} (q:En→Bool) (h:aE7 l=true):aE7 (l.filter q)=true:=by
  rw[tK] at *
  exact⟨fun x hx=>h.1 x (List.mem_filter.1 hx).1,h.2.filter q⟩
theorem nK (l:List En) (p:Pr):(gB l p).length≤2*l.length:=by
  have h1:=tT ((l.filter (ofB p)).map Prod.snd)
  have h2:=List.length_filter_le (ofB p) l
  rw[List.length_map] at h1
  show (dY _).length≤_
  omega
end Go.Abs
set_option linter.unusedVariables false
set_option linter.unusedSimpArgs false
namespace Go.Abs
abbrev Se:=(Int×ByteArray)×(Int×Int)
def seC (e:Se):List AV:=[.s (.int .i64 e.1.1),.s (.string e.1.2),.s (.int .i64 e.2.1),.s (.int .i64 e.2.2)]
abbrev se0:Se:=((0,⟨#[]⟩),(0,0))
abbrev st0:bC:=((0,0),(0,0))
def aDv {α:Type} (q:α→Bool) (e:α):List α→List α
  | []=>[e]
  | x::l=>if q x=true then e::x::l else x::aDv q e l
theorem aHk {α:Type} (q:α→Bool) (e:α):∀ (l:List α) (k:Nat),k≤l.length→(∀ (j:Nat) (hj:j<l.length),j<k→q l[j]=false)→(∀ (h:k<l.length),q l[k]=true)→aDv q e l=l.take k++e::l.drop k
  | [],k,hk,_,_=>by
                          have:k=0:=by simpa using hk
                          subst this; rfl
  | x::l,0,_,_,h=>by have:=h (by simp); simp only[List.getElem_cons_zero] at this; simp [aDv,this]
  | x::l,k+1,hk,h1,h2=>by
    have hx:=h1 0 (by simp) (by omega)
    simp only[List.getElem_cons_zero] at hx
    rw[aDv,if_neg (by simp [hx]),aHk q e l k (by simpa using hk) (fun j hj hjk=>by have:=h1 (j+1) (by simpa using hj) (by omega); simpa using this) (fun h=>by have:=h2 (by simpa using h); simpa using this)]
    rfl
theorem aDu {α:Type} (q:α→Bool) (e:α):∀ l:List α,(aDv q e l).length=l.length+1
  | []=>rfl
  | x::l=>by rw[aDv]; split <;> simp [aDu q e l]
theorem xW {α:Type} {q:α→Bool} {e x:α}:∀ {l:List α},x∈aDv q e l↔x=e∨x∈l
  | []=>by simp [aDv]
  | y::l=>by
    rw[aDv]; split
    · simp
    · simp only[List.mem_cons,xW (l:=l)]
      constructor
      · rintro (h | h | h) <;> simp [h]
      · rintro (h | h | h) <;> simp [h]
def isN (n:Int) (e:Se):Bool:=decide (e.1.1=n)
def aJ7 (l:List Se) (n:Int):Bool:=l.any (isN n)
def aN3:List Se→Int→Se
  | [],_=>se0
  | e::l,n=>if isN n e=true then e else aN3 l n
def iV:List Se→Int→ByteArray→Int
  | [],_,_=>101
  | e::l,n,u=>if isN n e=true then (if e.1.2=u then 0 else 102) else iV l n u
def aKx:List Se→Int→Int→Int→List Se
  | [],_,_,_=>[]
  | e::l,n,st,t=>if isN n e=true then (e.1,(st,t))::l else e::aKx l n st t
def aKt:List Se→Int→List Se
  | [],_=>[]
  | e::l,n=>if isN n e=true then l else e::aKt l n
def atK (l:List Se) (n:Int):Nat:=l.findIdx (isN n)
theorem oL (n:Int) (u:ByteArray) (st t:Int):∀ (l:List Se) (k:Nat) (hk:k<l.length),(∀ (j:Nat) (hj:j<l.length),j<k→isN n l[j]=false)→isN n l[k]=true →
    atK l n=k∧aN3 l n=l[k]∧iV l n u=(if l[k].1.2=u then 0 else 102)∧aKx l n st t=l.set k (l[k].1,(st,t))∧aKt l n=l.take k++l.drop (k+1)
  | [],k,hk,_,_=>by simp at hk
  | x::l,0,_,_,h=>by
    simp only[List.getElem_cons_zero] at h
    simp [atK,aN3,iV,aKx,aKt,h,List.findIdx_cons]
  | x::l,k+1,hk,h1,h2=>by
    have hx:=h1 0 (by simp) (by omega)
    simp only[List.getElem_cons_zero] at hx
    obtain ⟨e1,e2,e3,e4,e5⟩:=oL n u st t l k (by simpa using hk) (fun j hj hjk=>by have:=h1 (j+1) (by simpa using hj) (by omega); simpa using this) (by simpa using h2)
    have hx':¬ isN n x=true:=by simp [hx]
    refine⟨?_,?_,?_,?_,?_⟩
    · rw[atK] at *; rw[List.findIdx_cons,hx,e1]; rfl
    · rw[aN3,if_neg hx',e2]; rfl
    · rw[iV,if_neg hx',e3]; rfl
    · rw[aKx,if_neg hx',e4]; rfl
    · rw[aKt,if_neg hx',e5]; rfl
theorem aH9 (n:Int) (u:ByteArray):∀ (l:List Se),(∀ (j:Nat) (hj:j<l.length),isN n l[j]=false)→atK l n=l.length∧iV l n u=101∧aJ7 l n=false
  | [],_=>⟨rfl,rfl,rfl⟩
  | x::l,h=>by
    have hx:=h 0 (by simp)
    simp only[List.getElem_cons_zero] at hx
    obtain ⟨e1,e2,e3⟩:=aH9 n u l (fun j hj=>by have:=h (j+1) (by simpa using hj); simpa using this)
    refine⟨?_,?_,?_⟩
    · rw[atK] at *; rw[List.findIdx_cons,hx,e1]; rfl
    · rw[iV,if_neg (by simp [hx]),e2]
    · rw[aJ7] at *; rw[List.any_cons,hx,e3]; rfl
theorem aEb (l:List Se) (n:Int) (u:ByteArray):(iV l n u=101∧aJ7 l n=false∧atK l n=l.length)∨(aJ7 l n=true∧iV l n u≠101∧∃ k,∃ hk:k<l.length,isN n l[k]=true∧(∀ (j:Nat) (hj:j<l.length),j<k→isN n l[j]=false)∧atK l n=k∧iV l n u=(if l[k].1.2=u then 0 else 102)):=by
  rcases eL (isN n) l with ⟨_,h⟩ | ⟨k,hk,_,h1,h2⟩
  · obtain ⟨e1,e2,e3⟩:=aH9 n u l (fun j hj=>h _ (List.getElem_mem hj))
    exact .inl ⟨e2,e3,e1⟩
  · obtain ⟨e1,_,e3,_⟩:=oL n u 0 0 l k hk h2 h1
    exact .inr ⟨List.any_eq_true.2 ⟨_,List.getElem_mem hk,h1⟩,by rw[e3]; split <;> decide,k,hk,h1,h2,e1,e3⟩
theorem aH4 {l:List Se} {n:Int} {u:ByteArray} (h:iV l n u=0):∃ k,∃ hk:k<l.length,atK l n=k∧isN n l[k]=true∧l[k].1.2=u∧∀ (j:Nat) (hj:j<l.length),j<k→isN n l[j]=false:=by
  rcases aEb l n u with ⟨e,_⟩ | ⟨_,_,k,hk,h1,h2,h3,h4⟩
  · omega
  · refine⟨k,hk,h3,h1,?_,h2⟩
    rw[h4] at h
    split at h
    · assumption
    · omega
theorem aKp {l:List Se} {n:Int} {u:ByteArray}:iV l n u=101↔aJ7 l n=false:=by
  rcases aEb l n u with ⟨e,h,_⟩ | ⟨e,h,_⟩
  · simp [e,h]
  · simp [e,h]
def wC (l:List Se) (e:Se):Int:=if aJ7 l e.1.1=true then 100 else if 16≤l.length then 103 else 0
def mY (n:Int) (x:Se):Bool:=decide (n<x.1.1)
def aHd (l:List Se) (e:Se):List Se:=aDv (mY e.1.1) e l
def eB (e:Se) (t:Int):bC:=((e.2.2,t),(e.1.1,e.2.1))
def iR (e:Se):Bool:=cI e.1.2&&(decide (1≤e.1.1)&&decide (e.1.1≤999)&&(decide (1≤e.2.1)&&decide (e.2.1≤4))&&(decide (0≤e.2.2)&&decide (e.2.2≤1099511627775)))
def kV (a b:Se):Bool:=decide (a.1.1<b.1.1)
def jY (l:List Se):Bool:=oH iR kV none l&&decide (l.length≤16)
theorem jL (l:List Se):jY l=true↔((∀ x∈l,iR x=true)∧l.Pairwise fun a b=>a.1.1<b.1.1)∧l.length≤16:=by
  rw[jY,Bool.and_eq_true,decide_eq_true_eq,qV (fun a b:Se=>a.1.1<b.1.1) (fun x y=>by simp [kV]) (fun x y z _ h1 h2=>Int.lt_trans h1 h2)]
  simp
theorem opn_ris {l:List Se} {e:Se} (h:jY l=true) (he:jY [e]=true) (ho:wC l e=0):jY (aHd l e)=true:=by
  obtain ⟨⟨h1,h2⟩,h3⟩:=(jL l).1 h
  have h4:=((jL [e]).1 he).1.1 e (by simp)
  unfold wC at ho
  split at ho
  · omega
  · rename_i hn
    split at ho
    · omega
    · rename_i h16
      refine(jL _).2 ⟨⟨fun x hx=>?_,?_⟩,by rw[aHd,aDu]; omega⟩
      · rcases xW.1 hx with rfl | hx
        · exact h4
        · exact h1 x hx
      · have hne:∀ x∈l,x.1.1≠e.1.1:=fun x hx hh=>hn (List.any_eq_true.2 ⟨x,hx,by simp [isN,hh]⟩)
        clear h1 h h3 h16 ho hn
        revert h2 hne
        induction l with
        | nil=>intro _ _; exact List.pairwise_singleton _ _
        | cons x l ih =>
          intro h2 hne
          obtain ⟨q1,q2⟩:=List.pairwise_cons.1 h2
          have hx:=hne x (by simp)
          rw[aHd,aDv]
          split
          · rename_i hq
            simp only[mY,decide_eq_true_eq] at hq
            refine List.pairwise_cons.2 ⟨fun y hy=>?_,h2⟩
            rcases List.mem_cons.1 hy with rfl | hy
            · exact hq
            · have:=q1 y hy; omega
          · rename_i hq
            simp only[mY,decide_eq_true_eq] at hq
            refine List.pairwise_cons.2 ⟨fun y hy=>?_,ih q2 (fun y hy=>hne y (by simp [hy]))⟩
            rcases xW.1 hy with rfl | hy
            · omega
            · exact q1 y hy
def pJ (u:ByteArray) (e:Se):Bool:=decide (e.1.2=u)
def gM (l:List Se) (u:ByteArray) (t:Int):List bC:=l.flatMap fun e=>if pJ u e=true∧¬ t≤e.2.2 then [eB e t] else []
def eG (l:List Se) (u:ByteArray) (t:Int):List bC:=aAa (gM l u t)
def iQ (u:ByteArray) (t:Int) (out:List bC) (e:Se):List bC:=if pJ u e=true then gA out (eB e t) else out
theorem aFx (u:ByteArray) (t:Int):∀ (l:List Se) (out:List bC),Srt gL out→Srt gL (l.foldl (iQ u t) out)∧(l.foldl (iQ u t) out).Perm (out++gM l u t)
  | [],out,h=>⟨h,by simp [gM]⟩
  | e::l,out,h=>by
    rw[List.foldl_cons]
    have hstep:Srt gL (iQ u t out e)∧(iQ u t out e).Perm (out++(if pJ u e=true∧¬ t≤e.2.2 then [eB e t] else [])):=by
      unfold iQ
      by_cases hu:pJ u e=true
      · rw[if_pos hu]
        by_cases ht:t≤e.2.2
        · rw[gA,if_pos (show (eB e t).1.2≤(eB e t).1.1 from ht),if_neg (by simp [ht])]
          exact⟨h,by simp⟩
        · rw[gA,if_neg (show ¬ (eB e t).1.2≤(eB e t).1.1 from ht),if_pos ⟨hu,ht⟩]
          exact⟨nP h,(gI _ _).trans (List.perm_append_comm (l₁:=[eB e t]))⟩
      · rw[if_neg hu,if_neg (by simp [hu])]
        exact⟨h,by simp⟩
    obtain ⟨h1,h2⟩:=aFx u t l _ hstep.1
    refine⟨h1,h2.trans ((hstep.2.append_right _).trans (List.Perm.of_eq ?_))⟩
    simp [gM,List.append_assoc]
theorem aNf (l:List Se) (u:ByteArray) (t:Int):l.foldl (iQ u t) []=eG l u t:=by
  obtain ⟨h1,h2⟩:=aFx u t l [] List.Pairwise.nil
  exact aCq (by simpa using h2) h1
theorem yS (l:List Se) (u:ByteArray) (t:Int):(eG l u t).length≤l.length:=by
  rw[eG,yU]
  induction l with
  | nil=>simp [gM]
  | cons e l ih =>
    have:(if pJ u e=true∧¬ t≤e.2.2 then [eB e t] else []).length≤1:=by split <;> simp
    simp only[gM,List.flatMap_cons,List.length_append,List.length_cons] at *
    omega
end Go.Abs
set_option linter.unusedVariables false
set_option linter.unusedSimpArgs false
namespace Go.Abs
open Go
theorem ty_st {cs:List AV} (h:Ty (.agg [.int .i64,.int .i64,.int .i64,.int .i64]) cs):∃ s:bC,cs=stC s∧True:=by
  simp only[Ty,TyL] at h
  obtain ⟨a,b,rfl,⟨w,rfl,_⟩,a',b',rfl,⟨u,rfl,_⟩,a2,b2,rfl,⟨n,rfl,_⟩,a3,b3,rfl,⟨m,rfl,_⟩,rfl⟩:=h
  exact⟨((w,u),(n,m)),rfl,trivial⟩
theorem ty_sts {c:AV} (h:Ty (.sl 32 (.agg [.int .i64,.int .i64,.int .i64,.int .i64])) [c]):∃ l:List bC,c=.sl 4 (l.map stC)∧l.length*32≤140737488351232:=by
  simp only[Ty] at h
  obtain ⟨xs,hx,_,hl,hxs⟩:=h
  obtain ⟨l,rfl,hr⟩:=uQ stC (fun _=>True) (d:=.agg [.int .i64,.int .i64,.int .i64,.int .i64]) (fun cs h=>ty_st h) (xs:=xs) (fun x hx=>by simp only[Ty]; exact hxs x hx)
  simp only[List.cons.injEq,and_true] at hx
  exact⟨l,hx,by simpa using hl⟩
end Go.Abs
set_option linter.unusedVariables false
namespace Go.Abs
open Go
theorem ty_se {cs:List AV} (h:Ty (.agg [.int .i64,.str,.int .i64,.int .i64]) cs):∃ e:Se,cs=seC e∧TS e.1.2:=by
  simp only[Ty,TyL] at h
  obtain ⟨a,b,rfl,⟨n,rfl,_⟩,a',b',rfl,⟨u,rfl,hu⟩,a2,b2,rfl,⟨w,rfl,_⟩,a3,b3,rfl,⟨m,rfl,_⟩,rfl⟩:=h
  exact⟨((n,u),(w,m)),rfl,Nat.le_trans hu (by decide)⟩
theorem ty_ses {c:AV} (h:Ty (.sl 40 (.agg [.int .i64,.str,.int .i64,.int .i64])) [c]):∃ l:List Se,c=.sl 4 (l.map seC)∧l.length*40≤140737488351232∧∀ e∈l,TS e.1.2:=by
  simp only[Ty] at h
  obtain ⟨xs,hx,_,hl,hxs⟩:=h
  obtain ⟨l,rfl,hr⟩:=uQ seC (fun e=>TS e.1.2) (d:=.agg [.int .i64,.str,.int .i64,.int .i64]) (fun cs h=>ty_se h) (xs:=xs) (fun x hx=>by simp only[Ty]; exact hxs x hx)
  simp only[List.cons.injEq,and_true] at hx
  exact⟨l,hx,by simpa using hl,hr⟩
abbrev pW (l:List Se) (e:Se):List Se:=if wC l e=0 then aHd l e else []
abbrev pY (l:List Se) (n:Int) (u:ByteArray) (st t:Int):List Se:=if iV l n u=0 then aKx l n st t else []
abbrev pX (l:List Se) (n:Int) (u:ByteArray):List Se:=if iV l n u=0 then aKt l n else []
abbrev stR (l:List Se) (n:Int) (u:ByteArray) (t:Int):bC:=if iV l n u=0 then eB (aN3 l n) t else st0
theorem aQi (n st t:Int):∀ l:List Se,(aKx l n st t).length=l.length
  | []=>rfl
  | e::l=>by rw[aKx]; split <;> simp [aQi n st t l]
theorem aQh (n:Int):∀ l:List Se,(aKt l n).length≤l.length
  | []=>Nat.le_refl _
  | e::l=>by
    rw[aKt]; split
    · simp
    · have:=aQh n l; simp only[List.length_cons]; omega
theorem aJo (l:List Se) (e:Se):(pW l e).length≤l.length+1:=by
  unfold pW; split
  · rw[aHd,aDu]; omega
  · simp
theorem aKw (l:List Se) (n:Int) (u:ByteArray) (st t:Int):(pY l n u st t).length≤l.length:=by
  unfold pY; split
  · rw[aQi]; omega
  · simp
theorem aKs (l:List Se) (n:Int) (u:ByteArray):(pX l n u).length≤l.length:=by
  unfold pX; split
  · exact aQh n l
  · simp
theorem aTu {l:List Se} {n:Int} {u:ByteArray} {k:Nat} (hk:k<l.length) (h1:isN n l[k]=true) (h2:l[k].1.2=u) (h3:∀ (j:Nat) (hj:j<l.length),j<k→isN n l[j]=false):iV l n u=0∧aN3 l n=l[k]∧l[k].1=(n,u):=by
  obtain ⟨e1,e2,e3,_⟩:=oL n u 0 0 l k hk h3 h1
  simp only[isN,decide_eq_true_eq] at h1
  exact⟨by rw[e3,if_pos h2],e2,Prod.ext h1 h2⟩
end Go.Abs
set_option linter.unusedVariables false
set_option linter.unusedSimpArgs false
namespace Go.Proofs.YtpkanhklapfajaaGreat
open Go Go.Abs
theorem tA {g:Nat} {cap:List AV} (hent:∀ args w,(callFunc g args).run Tryz.prog w=.ok (.enter g args) w) (hcl:cleanL (fun _=>false) cap=true) (p:Se→Bool) (l:List Se) (hl:l.length≤9223372036854775807) (hp:∀ x∈l,Den Tryz.prog g (.agg (seC x)::cap) (·=.s (.bool (p x)))) :Den Tryz.prog 135 [.sl 4 (l.map seC),.fn g cap]  (·=.s (.int .i64 (pI p l))):=by
 refine aR Tryz.func135 rfl (Nat.le_of_ble_eq_true rfl) (fun w0 A hf=>(aC (fun K1 hK1=>(aB (aE aA 1 rfl (aD (hK1 _ (aC (fun K2 hK2=>(aC (fun K3 hK3=>(aB (aE aA 3 rfl (aD (hK3 _ (aM ?_))))))))))))))))
 refine bM (ι:=Nat) (fun k=>⟨19,[(0,.sl 4 (l.map seC)),(1,.fn g cap),(7,.s (.int .i64 ((l.map seC).length:Nat))),(8,.s (.int .i64 (k:Nat)))],[]⟩) (fun k=>k≤l.length∧∀ (j:Nat) (hj:j<l.length),j<k→p l[j]=false) (fun k=>l.length - k) 0 ?_ ?_ ?_
 · exact⟨by omega,by omega⟩
 · exact cN rfl
 ·
  rintro k hC
  obtain ⟨h1,h2⟩:=hC
  refine aC (fun K4 hK4=>(aB (aE aA 1 rfl (aD (hK4 _ (aC (fun K5 hK5=>(aK rfl (fun hc1=>?_) (fun hc1=>?_)))))))))
  ·
   simp only[bs] at hc1
   refine aL (hK5 _ (aC (fun K6 hK6=>(aM (aC (fun K7 hK7=>(aB (aE aA 2 rfl (aD (hK7 _ (aC (fun K8 hK8=>(aB (aE aA 3 rfl ?_))))))))))))))
   refine aG rfl (aY rfl rfl eR dM (by first | exact ixm (by omega) | assumption | exact⟨by decide,rfl⟩)) ?_
   refine aE aA 1 rfl (aJ hf rfl (aO rfl rfl hent (by rw[gS,hcl]; rfl) (hp _ (List.getElem_mem _))) ?_)
   refine aD (hK8 _ (aK rfl (fun hc2=>?_) (fun hc2=>?_)))
   ·
    refine aC (fun K9 hK9=>(aB (aE aA 2 rfl (aD (hK9 _ (aI ?_))))))
    refine⟨_,rfl,?_⟩
    refine dG ?_
    rw[pH (by omega) h2 (by assumption)]
   ·
    refine aL (hK6 _ (aB ?_))
    refine aG rfl (bK rfl rfl (by omega) (by omega)) ?_
    refine aE aA 1 rfl (aD ?_)
    exact⟨k+1,⟨by omega,fun j hj hjk=>by
      by_cases e:j=k
      · subst e; simp_all
      · exact h2 j hj (by omega)⟩,by omega,cN rfl⟩
  ·
   simp only[bs] at hc1
   refine aX (hK2 _ (aC (fun K10 hK10=>(aB (aE aA 1 rfl (aD (hK10 _ (aI ?_))))))))
   refine⟨_,rfl,?_⟩
   refine dG ?_
   rw[rG (fun j hj=>h2 j hj (by omega))]
theorem aBi {g:Nat} {cap:List AV} (hent:∀ args w,(callFunc g args).run Tryz.prog w=.ok (.enter g args) w) (hcl:cleanL (fun _=>false) cap=true) (hcv:∀ m,convL m cap=cap) (p:Se→Bool) (l:List Se) (n:Nat) (hn:n=l.length) (hl:l.length≤9223372036854775807) (hp:∀ x∈l,Den Tryz.prog g (.agg (seC x)::cap) (·=.s (.bool (p x)))) :DenM Tryz.prog 179 [.own E0 4 0 n,.fn g cap] 4 ((l.map seC)) (fun r ys=>r=.own E0 4 0 (l.filter fun x=>!p x).length∧ys=((l.filter fun x=>!p x).map seC)):=by
 subst hn
 have hq0:∀ j,((l.take j).filter fun x=>!p x).length≤j:=fun j=>iU _ l j
 have hq1:∀ j,((l.take j).filter fun x=>!p x).length≤l.length:=fun j=>hZ _ l j
 refine hJ Tryz.func179 rfl (Nat.le_of_ble_eq_true rfl) (fun w0 x0 A hf=>?_)
 refine aC (fun K1 hK1=>(aB (aG rfl (bD) (aD (hK1 _ (aC (fun K2 hK2=>(aB (aE aA 2 rfl (aJ hf rfl (sD rfl rfl (by show [AV.conv _ _,AV.fn g (convL _ cap)]=_; rw[hcv,cJ (g:=E0) rfl (by simp)]) aBd (tA hent hcl p l hl hp) rfl) ?_))))))))))
 refine aE aA 1 rfl (aD (hK2 _ (aC (fun K3 hK3=>(aC (fun K4 hK4=>(aB (aE aA 2 rfl (aD (hK4 _ (aK rfl (fun hc1=>?_) (fun hc1=>?_))))))))))))
 ·
  simp only[bs] at hc1
  refine aC (fun K5 hK5=>(aB (aE aA 2 rfl (aD (hK5 _ (aI ?_))))))
  have hno:pI p l=-1:=by simpa using hc1
  rcases eL p l with ⟨_,hn⟩ | ⟨k,hk,e,_⟩
  · exact⟨_,.own E0 4 0 l.length,(l.map seC),Le.refl _,rfl,rfl,by rw[gQ p l hn],by rw[gQ p l hn]⟩
  · exfalso; omega
 ·
  simp only[bs] at hc1
  refine aL (hK3 _ (aC (fun K6 hK6=>(aC (fun K7 hK7=>(aB ?_))))))
  rcases eL p l with ⟨e0,_⟩ | ⟨k0,hk0,ek0,hpk0,hbef⟩
  · exact absurd e0 (by simpa using hc1)
  have hst:=mH (fun x=>!p x) l k0 hk0 (fun j hj hjk=>by simp [hbef j hj hjk]) (by simp [hpk0])
  rw[ek0]
  refine aE aA 1 rfl ?_
  refine aG rfl (bK rfl rfl (by omega) (by omega)) ?_
  refine aE aA 1 rfl (aD (hK7 _ (aM (bM (ι:=Nat) (fun j=>⟨42,[(0,.own E0 4 0 l.length),(1,.fn g cap),(5,.s (.int .i64 (((l.take j).filter fun x=>!p x).length:Nat))),(6,.s (.int .i64 (j:Nat)))],[(E0,.buf 4 ((jF (fun x=>!p x) l j).map seC))]⟩) (fun j=>j≤l.length) (fun j=>l.length - j) (k0+1) ?_ ?_ ?_))))
  · exact hk0
  · rw[hst.1,hst.2]; exact gN ⟨rfl,rfl,rfl,rfl,trivial⟩
  ·
   rintro j hC
   let q:=fun x=>!p x
   have hle:((l.take j).filter q).length≤j:=hq0 j
   have hle2:((l.take j).filter fun x=>!p x).length≤j:=hq0 j
   refine aC (fun K8 hK8=>(aC (fun K9 hK9=>(aB (aE aA 4 rfl (aD (hK9 _ (aK rfl (fun hc2=>?_) (fun hc2=>?_)))))))))
   ·
    simp only[bs] at hc2
    refine aL (hK8 _ (aC (fun K10 hK10=>(aM (aC (fun K11 hK11=>(aB (aE aA 2 rfl ?_))))))))
    refine aG rfl (bX rfl rfl eR dM (by omega)) ?_
    refine aG rfl (bZ rfl aSi dM rfl (sF (c:=4) (k:=j) (enc:=seC) (by omega) (by rw[eU]; omega) rfl) (cs':=seC l[j]) (by rw[oZ (c:=4) (k:=j) (enc:=seC) (by omega) (by rw[eU]; omega) rfl,rI q l j j (by omega) hle])) ?_
    refine cA hf rfl rN rfl dM rfl rfl rfl rfl (lf rfl) (aD (hK11 _ (aC (fun K12 hK12=>(aB (aE aA 2 rfl (aJ hf rfl (aO rfl rfl hent (by rw[gS,hcl]; rfl) (hp _ (List.getElem_mem _))) ?_)))))))
    refine aE aA 1 rfl (aD (hK12 _ (aK rfl (fun hc3=>?_) (fun hc3=>?_))))
    ·
     simp only[bs] at hc3
     refine aC (fun K13 hK13=>(aB (aE aA 3 rfl ?_)))
     refine aG rfl (bX rfl rfl eR dM (by omega)) ?_
     refine bB hf rfl rfl dM rfl rfl (by simp [seC,AV.cells,AV.one,Value.oneCell',splice]) (by simp [seC,AV.cells,AV.leaf,Value.oneCell',splice]) (hY (c:=4) (k:=((l.take j).filter fun x=>!p x).length) (enc:=seC) (v:=l[j]) (by omega) (by rw[eU]; omega) rfl (Nat.le_refl _)) ?_
     refine aD (hK13 _ (aB ?_))
     rw[kZ (fun x=>!p x) l j (by omega) (by simp_all)]
     refine aE aA 1 rfl ?_
     refine aG rfl (bK rfl rfl (by omega) (by omega)) ?_
     rw[nR (fun x=>!p x) l j (by omega) (by simp_all)]
     refine aE aA 1 rfl ?_
     refine bH ?_
     refine hK10 _ (aB (aE aA 1 rfl ?_))
     refine aG rfl (bK rfl rfl (by omega) (by omega)) ?_
     refine aE aA 1 rfl (aD ?_)
     exact⟨j+1,(by omega),by omega,cN rfl⟩
    ·
     simp only[bs] at hc3
     rw[lA (fun x=>!p x) l j (by omega) (by simp_all),nS (fun x=>!p x) l j (by omega) (by simp_all)]
     refine aL (hK10 _ (aB (aE aA 1 rfl ?_)))
     refine aG rfl (bK rfl rfl (by omega) (by omega)) ?_
     refine aE aA 1 rfl (aD ?_)
     exact⟨j+1,(by omega),by omega,cN rfl⟩
   ·
    simp only[bs] at hc2
    refine aX (hK6 _ (aC (fun K14 hK14=>(aB (aE aA 2 rfl ?_)))))
    refine aG rfl (eW rfl eR dM rfl rfl (by omega) (by omega)) ?_
    refine wZ hf kT rN (by simp [Value.oneCell']) rfl rfl ?_
    refine aD (hK14 _ (aC (fun K15 hK15=>(aB (aE aA 2 rfl ?_)))))
    refine aG rfl (eW rfl eR dM rfl rfl (by omega) (by omega)) ?_
    refine aE aA 1 rfl (aD (hK15 _ (aI ?_)))
    have hjl:l.length≤j:=by omega
    have he:=pN (fun x=>!p x) l j hjl
    refine⟨_,_,_,Le.refl _,rfl,rfl,?_,?_⟩
    · rw[List.take_of_length_le hjl]; rfl
    · rw[List.take_of_length_le hjl,Nat.zero_add,Int.toNat_natCast,← List.map_take,he]
theorem iH (l:List Se) (hl:l.length*40≤140737488355328) :DenO Tryz.prog 117 [.sl 4 (l.map seC)] 4 (·=(l.map seC)):=by
 refine fN Tryz.func117 rfl (Nat.le_of_ble_eq_true rfl) (fun w0 A hf=>?_)
 refine aC (fun K1 hK1=>(aB (aG rfl (bD) (aD (hK1 _ (aC (fun K2 hK2=>(aC (fun K3 hK3=>(aB (aE aA 1 rfl ?_)))))))))))
 refine mP rfl rfl rfl eR (fun b hb1=>?_)
 refine aD (hK3 _ (aK rfl (fun hc2=>?_) (fun hc2=>?_)))
 ·
  have hl0:l=[]:=by simpa using hb1 (by assumption)
  refine aC (fun K4 hK4=>(aB (kW hf 4 rfl rfl rfl (aD (hK4 _ (aI ?_))))))
  exact⟨2,[],by decide,rfl,rfl,by rw[hl0]; rfl⟩
 ·
  refine aL (hK2 _ (aC (fun K5 hK5=>(aB (cT hf rfl rfl rfl kT rfl rfl rfl rfl (l2 rfl) ?_)))))
  refine aE aA 1 rfl (aZ hf rfl kT rfl rfl rfl (.inl rfl) rfl rfl (by first | rfl | simp [dJ,bG]) (by first | (simp only[maxLen,List.length_map,List.length_append,List.length_cons,List.length_nil]; omega) | (simp [maxLen] <;> omega)) (by first | (simp only[List.length_map,List.length_append,List.length_cons,List.length_nil]; omega) | (simp <;> omega)) ?_)
  refine aU (cM [7] rfl) (aE aA 1 rfl (aD (hK5 _ (aI ?_))))
  refine⟨5,(l.map seC),by decide,rfl,?_,rfl⟩
  show some (AV.own 5 4 0 (0+(l.map seC).length))=_
  rw[Nat.zero_add]
theorem aQn (n:Nat) (hn:n*40≤140737488355328) :DenO Tryz.prog 176 [.s (.slice none 0 0),.s (.int .i64 (n:Nat))] 4 (·=[]):=by
 refine fN Tryz.func176 rfl (Nat.le_of_ble_eq_true rfl) (fun w0 A hf=>?_)
 refine aC (fun K1 hK1=>(aB (aG rfl (bD) (aD (hK1 _ (aC (fun K2 hK2=>(aC (fun K3 hK3=>(aB (aE aA 2 rfl (aD (hK3 _ (aK rfl (fun hc1=>?_) (fun hc1=>?_)))))))))))))))
 ·
  simp only[bs] at hc1
  omega
 ·
  simp only[bs] at hc1
  refine aL (hK2 _ (aC (fun K4 hK4=>(aC (fun K5 hK5=>(aB (aE aA 2 rfl (aG rfl (lN rfl eR) (aE aA 2 rfl ?_)))))))))
  refine aG rfl (eZ rfl rfl (by omega) (by omega)) ?_
  refine aG rfl (eZ rfl rfl (by omega) (by omega)) ?_
  refine aE aA 1 rfl (aD (hK5 _ (aC (fun K6 hK6=>(aB (aE aA 2 rfl (aD (hK6 _ (aK rfl (fun hc2=>?_) (fun hc2=>?_))))))))))
  ·
   simp only[bs] at hc2
   refine aB (aE aA 2 rfl (aG rfl (lN rfl eR) ?_))
   refine aG rfl (qC rfl eR dM rfl) ?_
   refine aE aA 1 rfl (uP hf rfl rfl rfl kT Tryz.underlying3 rfl rfl (by omega) (by omega) (by simp only[maxLen]; omega) ?_)
   refine aE aA 2 rfl ?_
   refine aG rfl (eW rfl eR dM rfl rfl (by omega) (by omega)) ?_
   refine aE aA 1 rfl (aD (hK4 _ (aC (fun K7 hK7=>(aB (aE aA 1 rfl ?_))))))
   refine aG rfl (tR rfl) ?_
   refine aD (hK7 _ (aI ?_))
   exact⟨22,[],by decide,rfl,rfl,rfl⟩
  ·
   simp only[bs] at hc2
   refine aL (hK4 _ (aC (fun K8 hK8=>(aB (aE aA 1 rfl ?_)))))
   refine aGu hf 4 rfl rfl rfl rfl ?_
   refine aD (hK8 _ (aI ?_))
   exact⟨4,[],by decide,rfl,rfl,rfl⟩
theorem tB (rows:List (List Se)) (hl:rows.length≤9223372036854775807) (hb:rows.flatten.length*40≤140737488355328) :DenO Tryz.prog 152 [.sl 1 (rows.map fun r=>[AV.sl 4 (r.map seC)])] 4 (·=(rows.flatten.map seC)):=by
 refine fN Tryz.func152 rfl (Nat.le_of_ble_eq_true rfl) (fun w0 A hf=>?_)
 refine aC (fun K1 hK1=>(aB (aG rfl (bD) (aD (hK1 _ (aC (fun K2 hK2=>(aB (aE aA 1 rfl (aD (hK2 _ (aC (fun K3 hK3=>(aC (fun K4 hK4=>(aB ?_))))))))))))))))
 refine aE aA 3 rfl (aD (hK4 _ (aM (bM (ι:=Nat) (fun k=>⟨36,[(0,.sl 1 (rows.map fun r=>[AV.sl 4 (r.map seC)])),(3,.s (.int .i64 ((rows.take k).flatten.length:Nat))),(9,.sl 1 (rows.map fun r=>[AV.sl 4 (r.map seC)])),(10,.s (.int .i64 ((rows.map fun r=>[AV.sl 4 (r.map seC)]).length:Nat))),(11,.s (.int .i64 (k:Nat)))],[]⟩) (fun k=>k≤rows.length) (fun k=>rows.length - k) 0 ?_ ?_ ?_))))
 · exact Nat.zero_le _
 · exact cN rfl
 ·
  rintro k hC
  refine aC (fun K5 hK5=>(aB (aE aA 1 rfl (aD (hK5 _ (aC (fun K6 hK6=>(aK rfl (fun hc1=>?_) (fun hc1=>?_)))))))))
  ·
   simp only[bs] at hc1
   refine aL (hK6 _ (aC (fun K7 hK7=>(aM (aC (fun K8 hK8=>(aB ?_)))))))
   refine aG rfl (aY rfl rfl aGr oC (by first | exact ixm (by omega) | assumption | exact⟨by decide,rfl⟩)) ?_
   refine aE aA 2 rfl (aD (hK8 _ (aC (fun K9 hK9=>(aB ?_)))))
   have hk:k<rows.length:=by omega
   have e1:=congrArg List.length (hU rows k hk)
   rw[List.length_append] at e1
   have e2:=qE rows (k+1)
   have e3:(rows[k].map seC).length=rows[k].length:=List.length_map _
   refine aE aA 3 rfl ?_
   refine aG rfl (bK rfl rfl (by omega) (by omega)) ?_
   rw[show ((((rows.take k).flatten.length:Nat):Int)+(((rows[k].map seC).length:Nat):Int))=(((rows.take (k+1)).flatten.length:Nat):Int) from by omega]
   refine aE aA 1 rfl (aD (hK9 _ (aC (fun K10 hK10=>(aB (aE aA 2 rfl (aD (hK10 _ (aK rfl (fun hc2=>?_) (fun hc2=>?_))))))))))
   ·
    simp only[bs] at hc2
    omega
   ·
    simp only[bs] at hc2
    refine aL (hK7 _ (aB ?_))
    refine aG rfl (bK rfl rfl (by omega) (by omega)) ?_
    refine aE aA 1 rfl (aD ?_)
    exact⟨k+1,(by omega),by omega,cN rfl⟩
  ·
   simp only[bs] at hc1
   refine aX (hK3 _ (aC (fun K11 hK11=>(aB ?_))))
   rw[List.take_of_length_le (show rows.length≤k by omega)]
   refine aE aA 1 rfl (iB hf rfl rfl rfl rfl rfl aLy rfl (aQn rows.flatten.length (by omega)) ?_)
   rintro _ rfl
   refine aE aA 1 rfl (aD (hK11 _ (aC (fun K12 hK12=>(aC (fun K13 hK13=>(aB (aE aA 3 rfl (aD (hK13 _ (aM (bM (ι:=Nat) (fun j=>⟨36,[(6,.own 24 4 0 (rows.take j).flatten.length),(25,.sl 1 (rows.map fun r=>[AV.sl 4 (r.map seC)])),(26,.s (.int .i64 ((rows.map fun r=>[AV.sl 4 (r.map seC)]).length:Nat))),(27,.s (.int .i64 (j:Nat)))],[(24,.buf 4 ((rows.take j).flatten.map seC))]⟩) (fun j=>j≤rows.length) (fun j=>rows.length - j) 0 ?_ ?_ ?_))))))))))))
   · exact Nat.zero_le _
   · exact cN rfl
   ·
    rintro j hC
    refine aC (fun K14 hK14=>(aB (aE aA 1 rfl (aD (hK14 _ (aC (fun K15 hK15=>(aK rfl (fun hc3=>?_) (fun hc3=>?_)))))))))
    ·
     simp only[bs] at hc3
     refine aL (hK15 _ (aC (fun K16 hK16=>(aM (aC (fun K17 hK17=>(aB ?_)))))))
     refine aG rfl (aY rfl rfl aGr oC (by first | exact ixm (by omega) | assumption | exact⟨by decide,rfl⟩)) ?_
     refine aE aA 2 rfl (aD (hK17 _ (aB ?_)))
     have hj:j<rows.length:=by omega
     have e1:=congrArg List.length (hU rows j hj)
     rw[List.length_append] at e1
     have e2:=qE rows (j+1)
     have e3:(rows[j].map seC).length=rows[j].length:=List.length_map _
     refine aE aA 2 rfl (aZ hf rfl kT rfl rfl rfl (.inl rfl) (by simp only[List.length_map]) rfl (by first | rfl | simp [dJ,bG]) (by first | (simp only[maxLen,List.length_map,List.length_append,List.length_cons,List.length_nil]; omega) | (simp [maxLen] <;> omega)) (by first | (simp only[List.length_map,List.length_append,List.length_cons,List.length_nil]; omega) | (simp <;> omega)) ?_)
     refine aU (cM [25,26,27,33] rfl) ?_
     rw[show (rows.take j).flatten.length+(rows[j].map seC).length=(rows.take (j+1)).flatten.length from by omega,← List.map_append,← hU rows j hj]
     refine aE aA 1 rfl ?_
     refine bH ?_
     refine hK16 _ (aB ?_)
     refine aG rfl (bK rfl rfl (by omega) (by omega)) ?_
     refine aE aA 1 rfl (aD ?_)
     exact⟨j+1,(by omega),by omega,cN rfl⟩
    ·
     simp only[bs] at hc3
     refine aX (hK12 _ (aC (fun K18 hK18=>(aB (aE aA 2 rfl (aD (hK18 _ (aI ?_))))))))
     refine⟨24,(rows.flatten.map seC),by decide,?_,?_,rfl⟩
     · rw[List.take_of_length_le (show rows.length≤j by omega)]; rfl
     · rw[List.take_of_length_le (show rows.length≤j by omega)]
       show some (AV.own 24 4 0 rows.flatten.length)=_
       rw[List.length_map]
theorem vS (e:Se) (t:Int) :Den Tryz.prog 145 [.agg (seC e),.s (.int .i64 t)]  (·=.agg (stC (eB e t))):=by
 refine aR Tryz.func145 rfl (Nat.le_of_ble_eq_true rfl) (fun w0 A hf=>(aC (fun K1 hK1=>(aB (aJ hf rfl (cE rfl rfl (lf rfl)) (bV hf rfl rfl rfl eE (aD (hK1 _ (aC (fun K2 hK2=>(aB (aE aA 3 rfl (aG rfl (bO rfl fW kR (l3 rfl) rfl) (aE aA 4 rfl (aG rfl (bO rfl eE rO (l3 rfl) rfl) ?_)))))))))))))))
 refine bB hf rfl rfl bA rfl rfl (l1 rfl) (l4 rfl) rfl (aD (hK2 _ (aI ?_)))
 refine⟨_,rfl,?_⟩
 rfl
theorem aE8 (e:Se) (t:Int) :Den Tryz.prog 105 [.agg (seC e),.s (.int .i64 t)]  (·=.agg (stC (eB e t))):=by
 refine aR Tryz.func105 rfl (Nat.le_of_ble_eq_true rfl) (fun w0 A hf=>(aC (fun K1 hK1=>(aB (aJ hf rfl (cE rfl rfl (lf rfl)) (bV hf rfl rfl rfl nU (aD (hK1 _ (aC (fun K2 hK2=>(aB (aE aA 7 rfl (aG rfl (bO rfl nU zW (l3 rfl) rfl) (bB hf rfl rfl cS rfl rfl (l1 rfl) (l4 rfl) rfl (aD ?_)))))))))))))))
 refine hK2 _ (aI ?_)
 refine⟨_,rfl,?_⟩
 rfl
theorem aQ7 (x e:Se) :Den Tryz.prog 151 [.agg (seC x),.adr (seC e)]  (·=.s (.bool (mY e.1.1 x))):=by
 refine aR Tryz.func151 rfl (Nat.le_of_ble_eq_true rfl) (fun w0 A hf=>(aC (fun K1 hK1=>(aB (aJ hf rfl (cE rfl rfl (lf rfl)) (aE aA 1 rfl (aD (hK1 _ (aC (fun K2 hK2=>(aB (aE aA 6 rfl (aD (hK2 _ (aI ?_)))))))))))))))
 refine⟨_,rfl,?_⟩
 rfl
theorem aBk (e:Se) (u:ByteArray) :Den Tryz.prog 180 [.agg (seC e),.adr [.s (.string u)]]  (·=.s (.bool (pJ u e))):=by
 refine aR Tryz.func180 rfl (Nat.le_of_ble_eq_true rfl) (fun w0 A hf=>(aC (fun K1 hK1=>(aB (aJ hf rfl (cE rfl rfl (lf rfl)) (aE aA 1 rfl (aD (hK1 _ (aC (fun K2 hK2=>(aB (aE aA 5 rfl (aD (hK2 _ (aI ?_)))))))))))))))
 refine⟨_,rfl,?_⟩
 refine aQ ?_
 unfold pJ
 rw[Bool.eq_iff_iff]
 simp_all[toList_inj]
theorem aEg (l:List Se) (n:Int) (u:ByteArray) (hl:l.length≤9223372036854775807) :Den Tryz.prog 150 [.sl 4 (l.map seC),.s (.int .i64 n),.s (.string u)]  (·=.tup [.s (.int .i64 (atK l n:Nat)),.s (.int .i64 (iV l n u))]):=by
 refine aR Tryz.func150 rfl (Nat.le_of_ble_eq_true rfl) (fun w0 A hf=>(aC (fun K1 hK1=>(aB (aE aA 2 rfl (aD (hK1 _ (aT9 (aC (fun K2 hK2=>(aUb (hK2 _ (aC (fun K3 hK3=>(aC (fun K4 hK4=>(aB ?_)))))))))))))))))
 refine aE aA 3 rfl (aD (hK4 _ (aM (bM (ι:=Nat) (fun k=>⟨32,[(0,.sl 4 (l.map seC)),(1,.s (.int .i64 n)),(2,.s (.string u)),(10,.sl 4 (l.map seC)),(11,.s (.int .i64 ((l.map seC).length:Nat))),(12,.s (.int .i64 (k:Nat)))],[]⟩) (fun k=>k≤l.length∧∀ (j:Nat) (hj:j<l.length),j<k→isN n l[j]=false) (fun k=>l.length - k) 0 ?_ ?_ ?_))))
 · exact⟨Nat.zero_le _,by omega⟩
 · exact cN rfl
 ·
  rintro k hC
  obtain ⟨h1,h2⟩:=hC
  refine aC (fun K5 hK5=>(aB (aE aA 1 rfl (aD (hK5 _ (aC (fun K6 hK6=>(aK rfl (fun hc1=>?_) (fun hc1=>?_)))))))))
  ·
   simp only[bs] at hc1
   refine aL (hK6 _ (aC (fun K7 hK7=>(aM (aC (fun K8 hK8=>(aB (aE aA 1 rfl ?_))))))))
   refine aG rfl (aY rfl rfl eR dM (by first | exact ixm (by omega) | assumption | exact⟨by decide,rfl⟩)) ?_
   refine aE aA 1 rfl (bV hf rfl rfl rfl rN (aE aA 1 rfl (bB hf rfl rfl dM rfl rfl (l1 rfl) (l4 rfl) rfl (aU (aB3 (nee 9) (sl':=[(0,_),(1,_),(2,_),(8,_),(9,_),(10,_),(11,_),(12,_)]) (m':=[]) ⟨⟨_,rfl,rfl⟩,⟨_,rfl,rfl⟩,⟨_,rfl,rfl⟩,⟨_,rfl,rfl⟩,⟨_,rfl,rfl⟩,⟨_,rfl,rfl⟩,⟨_,rfl,rfl⟩,⟨_,rfl,rfl⟩,trivial⟩ rfl) (aD (hK8 _ (aC (fun K9 hK9=>(aM (aC (fun K10 hK10=>(aB (aE aA 5 rfl (aD ?_))))))))))))))
   refine hK10 _ (aK rfl (fun hc2=>?_) (fun hc2=>?_))
   ·
    simp only[bs] at hc2
    refine aX (hK7 _ (aB ?_))
    refine aG rfl (bK rfl rfl (by omega) (by omega)) ?_
    refine aE aA 1 rfl (aD ?_)
    exact⟨k+1,⟨by omega,fun j hj hjk=>by
     by_cases e:j=k
     · subst e; simp_all[isN]
     · exact h2 j hj (by omega)⟩,by omega,cN rfl⟩
   ·
    simp only[bs] at hc2
    obtain ⟨e1,_,e3,_⟩:=oL n u 0 0 l k (by omega) h2 (by simp_all[isN])
    refine aC (fun K11 hK11=>(aB (aE aA 5 rfl (aD (hK11 _ (aK rfl (fun hc3=>?_) (fun hc3=>?_)))))))
    ·
     simp only[bs] at hc3
     refine aC (fun K12 hK12=>(aB (aE aA 3 rfl (aD (hK12 _ (aI ?_))))))
     refine⟨_,rfl,?_⟩
     rw[e1,e3,if_neg (by simp_all[toList_inj])]; rfl
    ·
     simp only[bs] at hc3
     refine aL (hK9 _ (aC (fun K13 hK13=>(aB (aE aA 3 rfl (aD (hK13 _ (aI ?_))))))))
     refine⟨_,rfl,?_⟩
     rw[e1,e3,if_pos (by simp_all[toList_inj])]; rfl
  ·
   simp only[bs] at hc1
   refine aX (hK3 _ (aC (fun K14 hK14=>(aB (aE aA 4 rfl (aD (hK14 _ (aI ?_))))))))
   refine⟨_,rfl,?_⟩
   obtain ⟨e1,e2,_⟩:=aH9 n u l (fun j hj=>h2 j hj (by omega))
   rw[e1,e2,List.length_map]; rfl
end Go.Proofs.YtpkanhklapfajaaGreat
set_option linter.unusedVariables false
set_option linter.unusedSimpArgs false
namespace Go.Proofs.YtpkanhklapfajaaGreat
open Go Go.Abs
theorem aTr (s:Sp) (t:Int) :Den Tryz.prog 103 [.agg (spC s),.adr [.s (.int .i64 t)]]  (·=.s (.bool (decide (s.1≤t)&&decide (t<s.2)))):=by
 refine aR Tryz.func103 rfl (Nat.le_of_ble_eq_true rfl) (fun w0 A hf=>(aC (fun K1 hK1=>(aB (aJ hf rfl (cE rfl rfl (lf rfl)) (aE aA 1 rfl (aD (hK1 _ (aC (fun K2 hK2=>(aB (aE aA 2 rfl (aJ hf rfl (aO rfl rfl aEw rfl (aQa _ _)) (aE aA 1 rfl (aD ?_)))))))))))))))
 refine hK2 _ (aI ?_)
 refine⟨_,rfl,?_⟩
 rfl
theorem aNy (l:List Sp) (t:Int) (hl:l.length≤9223372036854775807) :Den Tryz.prog 52 [.sl 2 (l.map spC),.s (.int .i64 t)]  (·=.s (.bool (dR l t))):=by
 refine aR Tryz.func52 rfl (Nat.le_of_ble_eq_true rfl) (fun w0 A hf=>(aC (fun K1 hK1=>(aB (aJ hf rfl (cE rfl rfl (lf rfl)) (aE aA 1 rfl (aD (hK1 _ (aC (fun K2 hK2=>(aB (aE aA 1 rfl (aG rfl (iI rfl) (aJ hf rfl (aO rfl rfl aM3 rfl (zQ aM2 rfl (fun s=>decide (s.1≤t)&&decide (t<s.2)) l hl (fun x _=>aTr x t))) (aE aA 1 rfl ?_)))))))))))))))
 refine aD (hK2 _ (aI ?_))
 refine⟨_,rfl,?_⟩
 rfl
theorem aTk (a b:List Sp) (ha:a.length≤9223372036854775807) (hb0:b.length≤9223372036854775807) (hab:a.length*b.length*16≤140737488355328) :Den Tryz.prog 98 [.sl 2 (a.map spC),.sl 2 (b.map spC)]  (·=.sl 2 (sU a b |>.map spC)):=by
 refine aR Tryz.func98 rfl (Nat.le_of_ble_eq_true rfl) (fun w0 A hf=>(aC (fun K1 hK1=>(aB (aG rfl (bD) (aD (hK1 _ (aC (fun K2 hK2=>(aB (kW hf 2 rfl rfl rfl (aD (hK2 _ (aC (fun K3 hK3=>(aC (fun K4 hK4=>?_)))))))))))))))))
 refine aB (aE aA 3 rfl (aD (hK4 _ (aM (bM (ι:=Nat×List Sp) (fun(⟨k,out⟩:Nat×List Sp)=>⟨32,[(1,.sl 2 (b.map spC)),(5,.own 5 2 0 out.length),(10,.sl 2 (a.map spC)),(11,.s (.int .i64 ((a.map spC).length:Nat))),(12,.s (.int .i64 (k:Nat)))],[(5,.buf 2 (out.map spC))]⟩) (fun(⟨k,out⟩:Nat×List Sp)=>k≤a.length∧out=wD (a.take k) b∧out.length=k*b.length) (fun(⟨k,out⟩:Nat×List Sp)=>a.length - k) (0,[]) ?_ ?_ ?_)))))
 · exact⟨Nat.zero_le _,rfl,by simp⟩
 · exact cN rfl
 ·
  rintro ⟨k,out⟩ hC
  obtain ⟨h1,h2,h3⟩:=hC
  refine aC (fun K5 hK5=>(aB (aE aA 1 rfl (aD (hK5 _ (aC (fun K6 hK6=>(aK rfl (fun hc1=>?_) (fun hc1=>?_)))))))))
  ·
   simp only[bs] at hc1
   refine aL (hK6 _ (aC (fun K7 hK7=>(aM (aC (fun K8 hK8=>(aB ?_)))))))
   refine aG rfl (aY rfl rfl iZ dP (by first | exact ixm (by omega) | assumption | exact⟨by decide,rfl⟩)) ?_
   refine aE aA 1 rfl (cA hf rfl fW rfl dP rfl rfl rfl rfl (lf rfl) (aD (hK8 _ (aC (fun K9 hK9=>(aB (aE aA 3 rfl (aD (hK9 _ (aM (bM (ι:=Nat×List Sp) (fun(⟨j,o⟩:Nat×List Sp)=>⟨32,[(1,.sl 2 (b.map spC)),(5,.own 5 2 0 o.length),(7,.adr (spC a[k])),(10,.sl 2 (a.map spC)),(11,.s (.int .i64 ((a.map spC).length:Nat))),(12,.s (.int .i64 (k:Nat))),(16,.sl 2 (b.map spC)),(17,.s (.int .i64 ((b.map spC).length:Nat))),(18,.s (.int .i64 (j:Nat)))],[(5,.buf 2 (o.map spC))]⟩) (fun(⟨j,o⟩:Nat×List Sp)=>j≤b.length∧o=out++(b.take j).map (gZ a[k])∧o.length=k*b.length+j) (fun(⟨j,o⟩:Nat×List Sp)=>b.length - j) (0,out) ?_ ?_ ?_)))))))))))
   · exact⟨Nat.zero_le _,by simp,by omega⟩
   · exact cN rfl
   ·
    rintro ⟨j,o⟩ hC
    obtain ⟨h4,h5,h6⟩:=hC
    refine aC (fun K10 hK10=>(aB (aE aA 1 rfl (aD (hK10 _ (aC (fun K11 hK11=>(aK rfl (fun hc2=>?_) (fun hc2=>?_)))))))))
    ·
     simp only[bs] at hc2
     refine aL (hK11 _ (aC (fun K12 hK12=>(aM (aC (fun K13 hK13=>(aB ?_)))))))
     refine aG rfl (aY rfl rfl iZ dP (by first | exact ixm (by omega) | assumption | exact⟨by decide,rfl⟩)) ?_
     refine aE aA 1 rfl (cA hf rfl fW rfl dP rfl rfl rfl rfl (lf rfl) (aD (hK13 _ (aB (aE aA 3 rfl (aJ hf rfl (aO rfl rfl wR rfl (zD _ _)) ?_))))))
     have hm:=Nat.mul_le_mul_right b.length (show k+1≤a.length by omega)
     rw[Nat.add_mul,Nat.one_mul] at hm
     refine aJ hf rfl (aP iA rfl rfl rfl rfl (l2 rfl)) (aZ hf rfl iA rfl rfl rfl (.inl rfl) (by rw[List.length_map]) rfl (by first | rfl | simp [dJ,bG]) (by first | (simp only[maxLen,List.length_map,List.length_append,List.length_cons,List.length_nil]; omega) | (simp [maxLen] <;> omega)) (by first | (simp only[List.length_map,List.length_append,List.length_cons,List.length_nil]; omega) | (simp <;> omega)) ?_)
     refine aU (cM [1,7,10,11,12,16,17,18,27] rfl) (aE aA 1 rfl ?_)
     refine bH ?_
     refine hK12 _ (aB ?_)
     refine aG rfl (bK rfl rfl (by omega) (by omega)) ?_
     refine aE aA 1 rfl (aD ?_)
     refine⟨(j+1,o++[gZ a[k] b[j]]),⟨by omega,by rw[h5,nI b (gZ a[k]) j (by omega),List.append_assoc],by rw[List.length_append,h6]; simp only[List.length_cons,List.length_nil]; omega⟩,by simp only; omega,?_⟩
     exact cF ⟨rfl,(by rw[List.length_append]; rfl),rfl,rfl,rfl,rfl,rfl,rfl,rfl,trivial⟩ (by rw[List.map_append]; rfl)
    ·
     simp only[bs] at hc2
     refine aX (hK7 _ (aB ?_))
     refine aG rfl (bK rfl rfl (by omega) (by omega)) ?_
     refine aE aA 1 rfl (aD ?_)
     exact⟨(k+1,o),⟨by omega,by rw[h5,h2,List.take_of_length_le (show b.length≤j by omega),aNt a b k (by omega)],by rw[h6,Nat.add_mul,show j=b.length from by omega]; omega⟩,by simp only; omega,cN rfl⟩
  ·
   simp only[bs] at hc1
   refine aX (hK3 _ (aC (fun K14 hK14=>(aB (aE aA 1 rfl ?_)))))
   have hk:k=a.length:=by omega
   refine aU (mT (sl':=[(30,.sl 2 (out.map spC))]) ⟨⟨_,rfl,lG (g:=5) rfl (by rw[List.length_map])⟩,trivial⟩) ?_
   refine aJ hf rfl (aO rfl rfl wS rfl ((aDm out (by rw[h3,hk]; exact hab)).mono (fun r h=>h.trans (by rw[h2,List.take_of_length_le (by omega),aNs])))) ?_
   refine aE aA 1 rfl (aD (hK14 _ (aI ?_)))
   refine⟨_,rfl,?_⟩
   rfl
end Go.Proofs.YtpkanhklapfajaaGreat
set_option linter.unusedVariables false
set_option linter.unusedSimpArgs false
namespace Go.Proofs.YtpkanhklapfajaaGreat
open Go Go.Abs
theorem sC (l:List Sp) (t:Int) (hl:l.length≤9223372036854775807) :Den Tryz.prog 54 [.sl 2 (l.map spC),.s (.int .i64 t)]  (·=.s (.bool (dR l t))):=by
 refine aR Tryz.func54 rfl (Nat.le_of_ble_eq_true rfl) (fun w0 A hf=>(aC (fun K1 hK1=>(aB (aE aA 1 rfl (aD (hK1 _ (aC (fun K2 hK2=>(aC (fun K3 hK3=>(aB (aE aA 1 rfl (aD (hK3 _ (aM ?_))))))))))))))))
 refine bM (ι:=Nat) (fun k=>⟨28,[(0,.sl 2 (l.map spC)),(1,.s (.int .i64 t)),(5,.s (.int .i64 (k:Nat)))],[]⟩) (fun k=>k≤l.length∧dR l t=dR (l.drop k) t) (fun k=>l.length - k) 0 ?_ ?_ ?_
 · exact⟨Nat.zero_le _,rfl⟩
 · exact cN rfl
 ·
  rintro k hC
  obtain ⟨h1,h2⟩:=hC
  refine aC (fun K4 hK4=>(aC (fun K5 hK5=>(aB (aE aA 4 rfl (aD (hK5 _ (aK rfl (fun hc1=>?_) (fun hc1=>?_)))))))))
  ·
   simp only[bs] at hc1
   refine aL (hK4 _ (aC (fun K6 hK6=>(aM (aC (fun K7 hK7=>(aB (aE aA 2 rfl ?_))))))))
   refine aG rfl (aY rfl rfl mM mN (by first | exact ixm (by omega) | assumption | exact⟨by decide,rfl⟩)) ?_
   refine aE aA 5 rfl (aW rfl rfl rfl (fun hg2=>?_) (fun hg2=>?_))
   ·
    simp only[bs] at hg2
    refine aG rfl (fB rfl) (aE aA 2 rfl (bE rfl rfl rfl ?_))
    refine aG rfl (aY rfl rfl mM mN (by first | exact ixm (by omega) | assumption | exact⟨by decide,rfl⟩)) ?_
    refine aE aA 4 rfl (aD (hK7 _ (aK rfl (fun hc3=>?_) (fun hc3=>?_))))
    ·
     simp only[bs] at hc3
     refine aC (fun K8 hK8=>(aB (aE aA 1 rfl (aD (hK8 _ (aI ?_))))))
     refine⟨_,rfl,?_⟩
     refine aQ ?_
     rw[h2,List.drop_eq_getElem_cons (show k<l.length by omega),iT]
     simp; omega
    ·
     simp only[bs] at hc3
     refine aL (hK6 _ (aB (aE aA 1 rfl ?_)))
     refine aG rfl (bK rfl rfl (by omega) (by omega)) ?_
     refine aE aA 1 rfl (aD ?_)
     exact⟨k+1,⟨by omega,by rw[h2,List.drop_eq_getElem_cons (show k<l.length by omega),iT,Bool.or_eq_right_iff_imp]; simp; omega⟩,by omega,cN rfl⟩
   ·
    simp only[bs] at hg2
    refine aE aA 7 rfl (aD (hK7 _ (bT rfl (aL (hK6 _ (aB (aE aA 1 rfl ?_)))))))
    refine aG rfl (bK rfl rfl (by omega) (by omega)) ?_
    refine aE aA 1 rfl (aD ?_)
    exact⟨k+1,⟨by omega,by rw[h2,List.drop_eq_getElem_cons (show k<l.length by omega),iT,Bool.or_eq_right_iff_imp]; simp; omega⟩,by omega,cN rfl⟩
  ·
   simp only[bs] at hc1
   refine aX (hK2 _ (aC (fun K9 hK9=>(aB (aE aA 1 rfl (aD (hK9 _ (aI ?_))))))))
   refine⟨_,rfl,?_⟩
   refine aQ ?_
   rw[h2,List.drop_eq_nil_of_le (by omega)]; rfl
theorem aPx (l:List Int) (n:Int) (hl:l.length≤1000000000000) :Den Tryz.prog 172 [.sl 1 (l.map aHi),.s (.int .i64 n)]  (·=.sl 1 (jO l n |>.map aHi)):=by
 refine aR Tryz.func172 rfl (Nat.le_of_ble_eq_true rfl) (fun w0 A hf=>(aC (fun K1 hK1=>(aB (aG rfl (bD) (aD (hK1 _ (aC (fun K2 hK2=>(aB (kW hf 1 rfl rfl rfl (aD (hK2 _ (aC (fun K3 hK3=>(aB ?_))))))))))))))))
 refine aE aA 1 rfl (aD (hK3 _ (aC (fun K4 hK4=>(aC (fun K5 hK5=>(aB (aE aA 1 rfl (aD (hK5 _ (aM (bM (ι:=Nat×List Int×Bool) (fun(⟨k,out,done⟩:Nat×List Int×Bool)=>⟨48,[(0,.sl 1 (l.map aHi)),(1,.s (.int .i64 n)),(5,.own 5 1 0 out.length),(6,.s (.bool done)),(7,.s (.int .i64 (k:Nat)))],[(5,.buf 1 (out.map aHi))]⟩) (fun(⟨k,out,done⟩:Nat×List Int×Bool)=>k≤l.length∧aBv l n k out done) (fun(⟨k,out,done⟩:Nat×List Int×Bool)=>l.length - k) (0,[],false) ?_ ?_ ?_))))))))))))
 · exact⟨Nat.zero_le _,aQ1 l n⟩
 · exact cN rfl
 ·
  rintro ⟨k,out,done⟩ hC
  obtain ⟨h1,hI⟩:=hC
  have hle:=put_le hI
  refine aC (fun K6 hK6=>(aC (fun K7 hK7=>(aB (aE aA 4 rfl (aD (hK7 _ (aK rfl (fun hc1=>?_) (fun hc1=>?_)))))))))
  ·
   simp only[bs] at hc1
   refine aL (hK6 _ (aC (fun K8 hK8=>(aM (aC (fun K9 hK9=>(aC (fun K10 hK10=>(aB (aE aA 2 rfl ?_))))))))))
   refine aG rfl (aY rfl rfl gJ cD (by first | exact ixm (by omega) | assumption | exact⟨by decide,rfl⟩)) ?_
   refine aE aA 3 rfl (aD (hK10 _ (aK rfl (fun hc2=>?_) (fun hc2=>?_))))
   ·
    simp only[bs] at hc2
    refine aB (aE aA 1 rfl (aD (hK9 _ (aC (fun K11 hK11=>(aC (fun K12 hK12=>(aB (aE aA 10 rfl (aD (hK12 _ (bT rfl (aL (hK11 _ ?_))))))))))))))
    refine aB (aE aA 3 rfl ?_)
    refine aG rfl (aY rfl rfl gJ cD (by first | exact ixm (by omega) | assumption | exact⟨by decide,rfl⟩)) ?_
    refine aE aA 1 rfl (aJ hf rfl (aP fD rfl rfl rfl rfl (l2 rfl)) (aZ hf rfl fD rfl rfl rfl (.inl rfl) (by simp only[List.length_map,List.length_append,List.length_cons,List.length_nil]) rfl (by first | rfl | simp [dJ,bG]) (by first | (simp only[maxLen,List.length_map,List.length_append,List.length_cons,List.length_nil]; omega) | (simp [maxLen] <;> omega)) (by first | (simp only[List.length_map,List.length_append,List.length_cons,List.length_nil]; omega) | (simp <;> omega)) ?_))
    refine aU (cM [0,1,6,7,40] rfl) (aE aA 1 rfl ?_)
    refine bH ?_
    refine hK8 _ (aB (aE aA 1 rfl ?_))
    refine aG rfl (bK rfl rfl (by omega) (by omega)) ?_
    refine aE aA 1 rfl (aD ?_)
    exact⟨(k+1,out++[l[k]],true),⟨by omega,put_eq hI (by omega) (by assumption)⟩,by simp only; omega,cF ⟨rfl,rfl,(by simp only[List.length_append]; rfl),rfl,rfl,trivial⟩ (by simp only[List.map_append]; rfl)⟩
   ·
    simp only[bs] at hc2
    refine aL (hK9 _ (aC (fun K13 hK13=>(aC (fun K14 hK14=>(aB (aE aA 3 rfl (aW rfl rfl rfl (fun hg4=>?_) (fun hg4=>?_)))))))))
    ·
     simp only[bs] at hg4
     refine aG rfl (fB rfl) (aE aA 2 rfl (bE rfl rfl rfl ?_))
     refine aG rfl (aY rfl rfl gJ cD (by first | exact ixm (by omega) | assumption | exact⟨by decide,rfl⟩)) ?_
     refine aE aA 3 rfl (aD (hK14 _ (aK rfl (fun hc5=>?_) (fun hc5=>?_))))
     ·
      simp only[bs] at hc5
      refine aC (fun K15 hK15=>(aB (aE aA 2 rfl (aJ hf rfl (aP fD rfl rfl rfl rfl (l2 rfl)) (aZ hf rfl fD rfl rfl rfl (.inl rfl) (by simp only[List.length_map,List.length_append,List.length_cons,List.length_nil]) rfl (by first | rfl | simp [dJ,bG]) (by first | (simp only[maxLen,List.length_map,List.length_append,List.length_cons,List.length_nil]; omega) | (simp [maxLen] <;> omega)) (by first | (simp only[List.length_map,List.length_append,List.length_cons,List.length_nil]; omega) | (simp <;> omega)) ?_)))))
      refine aU (cM [0,1,7,33] rfl) (aE aA 1 rfl (aD (hK15 _ (aB (aE aA 1 rfl (aD (hK13 _ (aB (aE aA 3 rfl ?_)))))))))
      refine aG rfl (aY rfl rfl gJ cD (by first | exact ixm (by omega) | assumption | exact⟨by decide,rfl⟩)) ?_
      refine aE aA 1 rfl (aJ hf rfl (aP fD rfl rfl rfl rfl (l2 rfl)) (aZ hf rfl fD rfl rfl rfl (.inl rfl) (by simp only[List.length_map,List.length_append,List.length_cons,List.length_nil]) rfl (by first | rfl | simp [dJ,bG]) (by first | (simp only[maxLen,List.length_map,List.length_append,List.length_cons,List.length_nil]; omega) | (simp [maxLen] <;> omega)) (by first | (simp only[List.length_map,List.length_append,List.length_cons,List.length_nil]; omega) | (simp <;> omega)) ?_))
      refine aU (cM [0,1,6,7,40] rfl) (aE aA 1 rfl ?_)
      refine bH ?_
      refine hK8 _ (aB (aE aA 1 rfl ?_))
      refine aG rfl (bK rfl rfl (by omega) (by omega)) ?_
      refine aE aA 1 rfl (aD ?_)
      exact⟨(k+1,out++[n]++[l[k]],true),⟨by omega,put_ins (by assumption) hI (by omega) (by omega)⟩,by simp only; omega,cF ⟨rfl,rfl,(by simp only[List.length_append]; rfl),rfl,rfl,trivial⟩ (by simp only[List.map_append]; rfl)⟩
     ·
      simp only[bs] at hc5
      refine aL (hK13 _ (aB (aE aA 3 rfl ?_)))
      refine aG rfl (aY rfl rfl gJ cD (by first | exact ixm (by omega) | assumption | exact⟨by decide,rfl⟩)) ?_
      refine aE aA 1 rfl (aJ hf rfl (aP fD rfl rfl rfl rfl (l2 rfl)) (aZ hf rfl fD rfl rfl rfl (.inl rfl) (by simp only[List.length_map,List.length_append,List.length_cons,List.length_nil]) rfl (by first | rfl | simp [dJ,bG]) (by first | (simp only[maxLen,List.length_map,List.length_append,List.length_cons,List.length_nil]; omega) | (simp [maxLen] <;> omega)) (by first | (simp only[List.length_map,List.length_append,List.length_cons,List.length_nil]; omega) | (simp <;> omega)) ?_))
      refine aU (cM [0,1,6,7,40] rfl) (aE aA 1 rfl ?_)
      refine bH ?_
      refine hK8 _ (aB (aE aA 1 rfl ?_))
      refine aG rfl (bK rfl rfl (by omega) (by omega)) ?_
      refine aE aA 1 rfl (aD ?_)
      exact⟨(k+1,out++[l[k]],done),⟨by omega,put_go (by assumption) hI (by omega) (by omega) (by omega)⟩,by simp only; omega,cF ⟨rfl,rfl,(by simp only[List.length_append]; rfl),rfl,rfl,trivial⟩ (by simp only[List.map_append]; rfl)⟩
    ·
     simp only[bs] at hg4
     refine aE aA 6 rfl (aD (hK14 _ (bT rfl (aL (hK13 _ (aB (aE aA 3 rfl ?_)))))))
     refine aG rfl (aY rfl rfl gJ cD (by first | exact ixm (by omega) | assumption | exact⟨by decide,rfl⟩)) ?_
     refine aE aA 1 rfl (aJ hf rfl (aP fD rfl rfl rfl rfl (l2 rfl)) (aZ hf rfl fD rfl rfl rfl (.inl rfl) (by simp only[List.length_map,List.length_append,List.length_cons,List.length_nil]) rfl (by first | rfl | simp [dJ,bG]) (by first | (simp only[maxLen,List.length_map,List.length_append,List.length_cons,List.length_nil]; omega) | (simp [maxLen] <;> omega)) (by first | (simp only[List.length_map,List.length_append,List.length_cons,List.length_nil]; omega) | (simp <;> omega)) ?_))
     refine aU (cM [0,1,6,7,40] rfl) (aE aA 1 rfl ?_)
     refine bH ?_
     refine hK8 _ (aB (aE aA 1 rfl ?_))
     refine aG rfl (bK rfl rfl (by omega) (by omega)) ?_
     refine aE aA 1 rfl (aD ?_)
     exact⟨(k+1,out++[l[k]],done),⟨by omega,aS3 (by assumption) hI (by omega)⟩,by simp only; omega,cF ⟨rfl,rfl,(by simp only[List.length_append]; rfl),rfl,rfl,trivial⟩ (by simp only[List.map_append]; rfl)⟩
  ·
   simp only[bs] at hc1
   refine aX (hK4 _ (aC (fun K16 hK16=>(aC (fun K17 hK17=>(aB (aE aA 2 rfl (aD (hK17 _ (aK rfl (fun hc7=>?_) (fun hc7=>?_)))))))))))
   ·
    simp only[bs] at hc7
    refine aB (aE aA 2 rfl (aJ hf rfl (aP fD rfl rfl rfl rfl (l2 rfl)) (aZ hf rfl fD rfl rfl rfl (.inl rfl) (by simp only[List.length_map,List.length_append,List.length_cons,List.length_nil]) rfl (by first | rfl | simp [dJ,bG]) (by first | (simp only[maxLen,List.length_map,List.length_append,List.length_cons,List.length_nil]; omega) | (simp [maxLen] <;> omega)) (by first | (simp only[List.length_map,List.length_append,List.length_cons,List.length_nil]; omega) | (simp <;> omega)) ?_)))
    refine aU (cM [46] rfl) (aE aA 1 rfl (aD (hK16 _ (aC (fun K18 hK18=>(aB (aE aA 2 rfl (aD (hK18 _ (aI ?_))))))))))
    refine⟨_,rfl,?_⟩
    (refine(cJ (g:=5) rfl (by simp only[List.length_append,List.length_map,List.length_cons,List.length_nil])).trans ?_; rw[aPw hI (by omega),if_neg (by simp_all),List.map_append]; rfl)
   ·
    simp only[bs] at hc7
    refine aL (hK16 _ (aC (fun K19 hK19=>(aB (aE aA 2 rfl (aD (hK19 _ (aI ?_))))))))
    refine⟨_,rfl,?_⟩
    (refine(cJ (g:=5) rfl (by simp only[List.length_map])).trans ?_; rw[aPw hI (by omega),if_pos (by assumption),List.append_nil])
theorem aKh (l:List Sp) (hl:l.length≤100000000000) :Den Tryz.prog 132 [.sl 2 (l.map spC)]  (·=.sl 1 (fM l |>.map aHi)):=by
 refine aR Tryz.func132 rfl (Nat.le_of_ble_eq_true rfl) (fun w0 A hf=>(aC (fun K1 hK1=>(aB (aG rfl (bD) (aD (hK1 _ (aC (fun K2 hK2=>(aB (aG rfl (qY (k:=1)) (aD (hK2 _ (aC (fun K3 hK3=>(aC (fun K4 hK4=>?_)))))))))))))))))
 refine aB (aE aA 1 rfl (aD (hK4 _ (aM (bM (ι:=Nat×List Int) (fun(⟨k,out⟩:Nat×List Int)=>⟨25,[(0,.sl 2 (l.map spC)),(3,.sl 1 (out.map aHi)),(4,.s (.int .i64 (k:Nat)))],[]⟩) (fun(⟨k,out⟩:Nat×List Int)=>k≤l.length∧out=(l.take k).foldl aQd []∧out.length≤2*k) (fun(⟨k,out⟩:Nat×List Int)=>l.length - k) (0,[]) ?_ ?_ ?_)))))
 · exact⟨Nat.zero_le _,rfl,Nat.zero_le _⟩
 · exact cN rfl
 ·
  rintro ⟨k,out⟩ hC
  obtain ⟨h1,h2,h3⟩:=hC
  refine aC (fun K5 hK5=>(aC (fun K6 hK6=>(aB (aE aA 4 rfl (aD (hK6 _ (aK rfl (fun hc1=>?_) (fun hc1=>?_)))))))))
  ·
   simp only[bs] at hc1
   refine aL (hK5 _ (aC (fun K7 hK7=>(aM (cU hf bF (by kernel_rfl) rfl (aT aA 3 rfl ?_))))))
   refine bI [(12,_),(13,_)] rfl rfl ⟨⟨rfl,rfl⟩,⟨rfl,rfl⟩,trivial⟩ rfl (aY rfl rfl mM mN (by first | exact ixm (by omega) | assumption | exact⟨by decide,rfl⟩)) ?_
   refine aT aA 2 rfl (bL [(11,_),(16,_)] rfl rfl ⟨⟨rfl,rfl⟩,⟨rfl,rfl⟩,trivial⟩ rfl (aO rfl rfl aA7 rfl (aPx _ _ (by omega))) (aT aA 2 rfl ?_))
   refine bI [(18,_),(19,_)] rfl rfl ⟨⟨rfl,rfl⟩,⟨rfl,rfl⟩,trivial⟩ rfl (aY rfl rfl mM mN (by first | exact ixm (by omega) | assumption | exact⟨by decide,rfl⟩)) ?_
   refine aT aA 2 rfl ?_
   have hp1:=tP out l[k].1
   refine bL [(17,_),(22,_)] rfl rfl ⟨⟨rfl,rfl⟩,⟨rfl,rfl⟩,trivial⟩ rfl (aO rfl rfl aA7 rfl (aPx _ _ (by omega))) (aT aA 1 rfl (cY [0,3,4] rfl rfl rfl (hK7 _ (aB (aE aA 1 rfl ?_)))))
   refine aG rfl (bK rfl rfl (by omega) (by omega)) ?_
   refine aE aA 1 rfl (aD ?_)
   exact⟨(k+1,jO (jO out l[k].1) l[k].2),⟨by omega,by rw[dU l aQd [] k (by omega),← h2]; rfl,by have:=tP (jO out l[k].1) l[k].2; have:=tP out l[k].1; omega⟩,by simp only; omega,cN rfl⟩
  ·
   simp only[bs] at hc1
   refine aX (hK3 _ (aC (fun K8 hK8=>(aB (aE aA 2 rfl (aD (hK8 _ (aI ?_))))))))
   refine⟨_,rfl,?_⟩
   show AV.sl 1 (out.map aHi)=_
   rw[h2,List.take_of_length_le (by omega)]; rfl
theorem aJ9 (out:List Sp) (s:Sp) (n:Nat) (hn:n=out.length) (hl:out.length≤1000000000000) :DenR Tryz.prog 133 [.own E0 2 0 n,.agg (spC s)] 2 ((out.map spC)) (·=(dH out s).map spC):=by
 refine aN9 Tryz.func133 rfl (Nat.le_of_ble_eq_true rfl) (args':=[.own G0 2 0 n,.agg (spC s)]) rfl (fun w0 x0 A hf=>?_)
 refine aC (fun K1 hK1=>(aB (aJ hf rfl (cE rfl rfl (lf rfl)) (aG rfl (bD) (aD (hK1 _ (aC (fun K2 hK2=>(aB (aE aA 3 rfl (aD (hK2 _ (aC (fun K3 hK3=>(aC (fun K4 hK4=>?_))))))))))))))))
 refine cU hf bF (by kernel_rfl) rfl (aT aA 3 rfl (fZ 10 true rfl (fun hg1=>?_) (fun hg1=>?_)))
 ·
  simp only[bs] at hg1
  refine aT aA 2 rfl ?_
  refine bI [(12,_)] rfl rfl ⟨⟨rfl,rfl⟩,trivial⟩ rfl (eZ rfl rfl (by omega) (by omega)) ?_
  refine bI [(11,_),(13,_)] rfl rfl ⟨⟨rfl,rfl⟩,⟨rfl,rfl⟩,trivial⟩ rfl (bX rfl rfl mM mN (by omega)) ?_
  refine aT aA 1 rfl (bI [(15,_)] rfl rfl ⟨⟨rfl,rfl⟩,trivial⟩ rfl (gY rfl jI rfl (c:=.s (.int .i64 (out[out.length - 1]'(by omega)).2)) (iD (c:=2) (k:=out.length - 1) (enc:=spC) (by omega) (by omega) 1)) (aT aA 4 rfl (cY [0,3,5,20] rfl rfl rfl (hK4 _ (aK rfl (fun hc2=>?_) (fun hc2=>?_))))))
  ·
   simp only[bs] at hc2
   refine aC (fun K5 hK5=>(fJ bF ?_))
   refine bQ (listed':=#[false,true,false,false,false,false,false,false,false,false,false,false,false,false,false,false,false,false]) 1 rfl (by kernel_rfl) (by kernel_rfl) (by kernel_rfl) rfl (fun _ _ h=>h) (dQ rfl) ?_
   refine bQ (listed':=#[false,true,true,false,false,false,false,false,false,false,false,false,false,false,false,false,false,false]) 2 rfl (by kernel_rfl) (by kernel_rfl) (by kernel_rfl) rfl (fun _ _ h=>h) (dQ rfl) ?_
   refine bQ (listed':=#[false,true,true,true,false,false,false,false,false,false,false,false,false,false,false,false,false,false]) 3 rfl (by kernel_rfl) (by kernel_rfl) (by kernel_rfl) rfl (fun _ _ h=>h) (aFt rfl rfl (by omega) (by omega)) ?_
   refine bQ (listed':=#[false,true,true,true,true,false,false,false,false,false,false,false,false,false,false,false,false,false]) 4 rfl (by kernel_rfl) (by kernel_rfl) (by kernel_rfl) rfl (fun _ _ h=>h) (aIk rfl mM mN rfl (kH rfl (by omega)) (by omega) (by omega)) ?_
   refine bQ (listed':=#[false,true,true,true,true,false,true,false,false,false,false,false,false,false,false,false,false,false]) 6 rfl (by kernel_rfl) (by kernel_rfl) (by kernel_rfl) rfl (fun _ _ h=>h) (dQ rfl) ?_
   refine bQ (listed':=#[false,true,true,true,true,false,true,true,false,false,false,false,false,false,false,false,false,false]) 7 rfl (by kernel_rfl) (by kernel_rfl) (by kernel_rfl) rfl (fun _ _ h=>h) (dQ rfl) ?_
   refine bQ (listed':=#[false,true,true,true,true,false,true,true,true,false,false,false,false,false,false,false,false,false]) 8 rfl (by kernel_rfl) (by kernel_rfl) (by kernel_rfl) rfl (fun _ _ h=>h) (aFt rfl rfl (by omega) (by omega)) ?_
   refine bQ (listed':=#[false,true,true,true,true,false,true,true,true,true,false,false,false,false,false,false,false,false]) 9 rfl (by kernel_rfl) (by kernel_rfl) (by kernel_rfl) rfl (fun _ _ h=>h) (kM rfl rfl mM mN (by omega)) ?_
   refine bQ (listed':=#[false,true,true,true,true,false,true,true,true,true,true,false,false,false,false,false,false,false]) 10 rfl (by kernel_rfl) (by kernel_rfl) (by kernel_rfl) rfl (fun _ _ h=>h) (qP rfl aLe cD rfl) ?_
   refine bQ (listed':=#[false,true,true,true,true,false,true,true,true,true,true,false,true,false,false,false,false,false]) 12 rfl (by kernel_rfl) (by kernel_rfl) (by kernel_rfl) rfl (fun _ _ h=>h) (kN rfl aLd cD rfl) ?_
   refine mL (cM [25,31,33] rfl) (aH 0 [11,13] (by kernel_rfl) ⟨?_,?_,?_,trivial⟩)
   ·
    refine⟨_,rfl,rfl,(ao rfl (cT hf rfl rfl rfl aS rfl rfl rfl rfl (l2 rfl) ?_))⟩
    refine aF (aH 5 [11,13] (by kernel_rfl) ⟨?_,?_,?_,trivial⟩)
    ·
     refine⟨_,rfl,rfl,(ao rfl (aZ hf rfl aS rfl rfl rfl (.inl rfl) (by first | rfl | (simp only[List.length_map,List.length_nil]; omega) | simp) rfl (cV (l:=out) (j:=out.length - 1) rfl (by omega) (by omega) (by omega)) (by first | (simp only[maxLen,List.length_map,List.length_append,List.length_cons,List.length_nil]; omega) | (simp [maxLen] <;> omega)) (by first | (simp only[List.length_map,List.length_append,List.length_cons,List.length_nil]; omega) | (simp <;> omega)) ?_))⟩
     refine aU (cM [26,31,33] rfl) (aF (aH 11 [13] (by kernel_rfl) ⟨?_,?_,trivial⟩))
     ·
      refine⟨_,rfl,rfl,(ao rfl (aG rfl (gY rfl jI rfl (c:=.s (.int .i64 (out[out.length - 1]'(by omega)).1)) (iD (c:=2) (k:=out.length - 1) (enc:=spC) (by omega) (by omega) 0)) (aF (aH 13 [] (by kernel_rfl) ⟨?_,trivial⟩))))⟩
      ·
       refine⟨_,rfl,rfl,(ao rfl (aE aA 1 rfl (aF (aH 14 [] (by kernel_rfl) ⟨?_,trivial⟩))))⟩
       ·
        refine⟨_,rfl,rfl,(ao rfl (aG rfl (bO rfl eA dF (l3 rfl) rfl) (aF (aH 15 [] (by kernel_rfl) ⟨?_,trivial⟩))))⟩
        ·
         refine⟨_,rfl,rfl,(ao rfl (aJ hf rfl (aP aS rfl rfl rfl rfl (l2 rfl)) (aF (aH 16 [] (by kernel_rfl) ⟨?_,trivial⟩))))⟩
         ·
          refine⟨_,rfl,rfl,(ao rfl (aZ hf rfl aS rfl rfl rfl (.inl rfl) (by first | rfl | (simp only[List.length_map,List.length_nil]; omega) | simp) rfl (by first | rfl | simp [dJ,bG]) (by first | (simp only[maxLen,List.length_map,List.length_append,List.length_cons,List.length_nil]; omega) | (simp [maxLen] <;> omega)) (by first | (simp only[List.length_map,List.length_append,List.length_cons,List.length_nil]; omega) | (simp <;> omega)) ?_))⟩
          refine aU (cM [37] rfl) (aF (aH 17 [] (by kernel_rfl) ⟨?_,trivial⟩))
          ·
           refine⟨_,rfl,rfl,(ao rfl (aE aA 1 rfl (aF (bS (by kernel_rfl) ?_))))⟩
           refine hK5 _ (aI ?_)
           refine⟨21,(dH out s).map spC,by decide,?_,?_,rfl⟩
           · rw[cK (by omega) (by omega),List.map_append]; rfl
           · rw[cK (by omega) (by omega),List.map_append,List.length_append]
             show some (AV.own 21 2 0 (0+((out.take (out.length - 1)).map spC).length+1))=_
             rw[Nat.zero_add]; rfl
     ·
      refine⟨_,rfl,rfl,(ao rfl (aE aA 1 rfl (aF (aH 11 [] (by kernel_rfl) ⟨?_,trivial⟩))))⟩
      ·
       refine⟨_,rfl,rfl,(ao rfl (aG rfl (gY rfl jI rfl (c:=.s (.int .i64 (out[out.length - 1]'(by omega)).1)) (iD (c:=2) (k:=out.length - 1) (enc:=spC) (by omega) (by omega) 0)) (aF (aH 14 [] (by kernel_rfl) ⟨?_,trivial⟩))))⟩
       ·
        refine⟨_,rfl,rfl,(ao rfl (aG rfl (bO rfl eA dF (l3 rfl) rfl) (aF (aH 15 [] (by kernel_rfl) ⟨?_,trivial⟩))))⟩
        ·
         refine⟨_,rfl,rfl,(ao rfl (aJ hf rfl (aP aS rfl rfl rfl rfl (l2 rfl)) (aF (aH 16 [] (by kernel_rfl) ⟨?_,trivial⟩))))⟩
         ·
          refine⟨_,rfl,rfl,(ao rfl (aZ hf rfl aS rfl rfl rfl (.inl rfl) (by first | rfl | (simp only[List.length_map,List.length_nil]; omega) | simp) rfl (by first | rfl | simp [dJ,bG]) (by first | (simp only[maxLen,List.length_map,List.length_append,List.length_cons,List.length_nil]; omega) | (simp [maxLen] <;> omega)) (by first | (simp only[List.length_map,List.length_append,List.length_cons,List.length_nil]; omega) | (simp <;> omega)) ?_))⟩
          refine aU (cM [37] rfl) (aF (aH 17 [] (by kernel_rfl) ⟨?_,trivial⟩))
          ·
           refine⟨_,rfl,rfl,(ao rfl (aE aA 1 rfl (aF (bS (by kernel_rfl) ?_))))⟩
           refine hK5 _ (aI ?_)
           refine⟨21,(dH out s).map spC,by decide,?_,?_,rfl⟩
           · rw[cK (by omega) (by omega),List.map_append]; rfl
           · rw[cK (by omega) (by omega),List.map_append,List.length_append]
             show some (AV.own 21 2 0 (0+((out.take (out.length - 1)).map spC).length+1))=_
             rw[Nat.zero_add]; rfl
    ·
     refine⟨_,rfl,rfl,(ao rfl (aG rfl (gY rfl jI rfl (c:=.s (.int .i64 (out[out.length - 1]'(by omega)).1)) (iD (c:=2) (k:=out.length - 1) (enc:=spC) (by omega) (by omega) 0)) (aF (aH 5 [13] (by kernel_rfl) ⟨?_,?_,trivial⟩))))⟩
     ·
      refine⟨_,rfl,rfl,(ao rfl (aZ hf rfl aS rfl rfl rfl (.inl rfl) (by first | rfl | (simp only[List.length_map,List.length_nil]; omega) | simp) rfl (cV (l:=out) (j:=out.length - 1) rfl (by omega) (by omega) (by omega)) (by first | (simp only[maxLen,List.length_map,List.length_append,List.length_cons,List.length_nil]; omega) | (simp [maxLen] <;> omega)) (by first | (simp only[List.length_map,List.length_append,List.length_cons,List.length_nil]; omega) | (simp <;> omega)) ?_))⟩
      refine aU (cM [26,32,33] rfl) (aF (aH 13 [] (by kernel_rfl) ⟨?_,trivial⟩))
      ·
       refine⟨_,rfl,rfl,(ao rfl (aE aA 1 rfl (aF (aH 14 [] (by kernel_rfl) ⟨?_,trivial⟩))))⟩
       ·
        refine⟨_,rfl,rfl,(ao rfl (aG rfl (bO rfl eA dF (l3 rfl) rfl) (aF (aH 15 [] (by kernel_rfl) ⟨?_,trivial⟩))))⟩
        ·
         refine⟨_,rfl,rfl,(ao rfl (aJ hf rfl (aP aS rfl rfl rfl rfl (l2 rfl)) (aF (aH 16 [] (by kernel_rfl) ⟨?_,trivial⟩))))⟩
         ·
          refine⟨_,rfl,rfl,(ao rfl (aZ hf rfl aS rfl rfl rfl (.inl rfl) (by first | rfl | (simp only[List.length_map,List.length_nil]; omega) | simp) rfl (by first | rfl | simp [dJ,bG]) (by first | (simp only[maxLen,List.length_map,List.length_append,List.length_cons,List.length_nil]; omega) | (simp [maxLen] <;> omega)) (by first | (simp only[List.length_map,List.length_append,List.length_cons,List.length_nil]; omega) | (simp <;> omega)) ?_))⟩
          refine aU (cM [37] rfl) (aF (aH 17 [] (by kernel_rfl) ⟨?_,trivial⟩))
          ·
           refine⟨_,rfl,rfl,(ao rfl (aE aA 1 rfl (aF (bS (by kernel_rfl) ?_))))⟩
           refine hK5 _ (aI ?_)
           refine⟨21,(dH out s).map spC,by decide,?_,?_,rfl⟩
           · rw[cK (by omega) (by omega),List.map_append]; rfl
           · rw[cK (by omega) (by omega),List.map_append,List.length_append]
             show some (AV.own 21 2 0 (0+((out.take (out.length - 1)).map spC).length+1))=_
             rw[Nat.zero_add]; rfl
     ·
      refine⟨_,rfl,rfl,(ao rfl (aE aA 1 rfl (aF (aH 5 [14] (by kernel_rfl) ⟨?_,?_,trivial⟩))))⟩
      ·
       refine⟨_,rfl,rfl,(ao rfl (aZ hf rfl aS rfl rfl rfl (.inl rfl) (by first | rfl | (simp only[List.length_map,List.length_nil]; omega) | simp) rfl (cV (l:=out) (j:=out.length - 1) rfl (by omega) (by omega) (by omega)) (by first | (simp only[maxLen,List.length_map,List.length_append,List.length_cons,List.length_nil]; omega) | (simp [maxLen] <;> omega)) (by first | (simp only[List.length_map,List.length_append,List.length_cons,List.length_nil]; omega) | (simp <;> omega)) ?_))⟩
       refine aU (cM [26,32,34] rfl) (aF (aH 14 [] (by kernel_rfl) ⟨?_,trivial⟩))
       ·
        refine⟨_,rfl,rfl,(ao rfl (aG rfl (bO rfl eA dF (l3 rfl) rfl) (aF (aH 15 [] (by kernel_rfl) ⟨?_,trivial⟩))))⟩
        ·
         refine⟨_,rfl,rfl,(ao rfl (aJ hf rfl (aP aS rfl rfl rfl rfl (l2 rfl)) (aF (aH 16 [] (by kernel_rfl) ⟨?_,trivial⟩))))⟩
         ·
          refine⟨_,rfl,rfl,(ao rfl (aZ hf rfl aS rfl rfl rfl (.inl rfl) (by first | rfl | (simp only[List.length_map,List.length_nil]; omega) | simp) rfl (by first | rfl | simp [dJ,bG]) (by first | (simp only[maxLen,List.length_map,List.length_append,List.length_cons,List.length_nil]; omega) | (simp [maxLen] <;> omega)) (by first | (simp only[List.length_map,List.length_append,List.length_cons,List.length_nil]; omega) | (simp <;> omega)) ?_))⟩
          refine aU (cM [37] rfl) (aF (aH 17 [] (by kernel_rfl) ⟨?_,trivial⟩))
          ·
           refine⟨_,rfl,rfl,(ao rfl (aE aA 1 rfl (aF (bS (by kernel_rfl) ?_))))⟩
           refine hK5 _ (aI ?_)
           refine⟨21,(dH out s).map spC,by decide,?_,?_,rfl⟩
           · rw[cK (by omega) (by omega),List.map_append]; rfl
           · rw[cK (by omega) (by omega),List.map_append,List.length_append]
             show some (AV.own 21 2 0 (0+((out.take (out.length - 1)).map spC).length+1))=_
             rw[Nat.zero_add]; rfl
      ·
       refine⟨_,rfl,rfl,(ao rfl (aG rfl (bO rfl eA dF (l3 rfl) rfl) (aF (aH 5 [15] (by kernel_rfl) ⟨?_,?_,trivial⟩))))⟩
       ·
        refine⟨_,rfl,rfl,(ao rfl (aZ hf rfl aS rfl rfl rfl (.inl rfl) (by first | rfl | (simp only[List.length_map,List.length_nil]; omega) | simp) rfl (cV (l:=out) (j:=out.length - 1) rfl (by omega) (by omega) (by omega)) (by first | (simp only[maxLen,List.length_map,List.length_append,List.length_cons,List.length_nil]; omega) | (simp [maxLen] <;> omega)) (by first | (simp only[List.length_map,List.length_append,List.length_cons,List.length_nil]; omega) | (simp <;> omega)) ?_))⟩
        refine aU (cM [26,35] rfl) (aF (aH 15 [] (by kernel_rfl) ⟨?_,trivial⟩))
        ·
         refine⟨_,rfl,rfl,(ao rfl (aJ hf rfl (aP aS rfl rfl rfl rfl (l2 rfl)) (aF (aH 16 [] (by kernel_rfl) ⟨?_,trivial⟩))))⟩
         ·
          refine⟨_,rfl,rfl,(ao rfl (aZ hf rfl aS rfl rfl rfl (.inl rfl) (by first | rfl | (simp only[List.length_map,List.length_nil]; omega) | simp) rfl (by first | rfl | simp [dJ,bG]) (by first | (simp only[maxLen,List.length_map,List.length_append,List.length_cons,List.length_nil]; omega) | (simp [maxLen] <;> omega)) (by first | (simp only[List.length_map,List.length_append,List.length_cons,List.length_nil]; omega) | (simp <;> omega)) ?_))⟩
          refine aU (cM [37] rfl) (aF (aH 17 [] (by kernel_rfl) ⟨?_,trivial⟩))
          ·
           refine⟨_,rfl,rfl,(ao rfl (aE aA 1 rfl (aF (bS (by kernel_rfl) ?_))))⟩
           refine hK5 _ (aI ?_)
           refine⟨21,(dH out s).map spC,by decide,?_,?_,rfl⟩
           · rw[cK (by omega) (by omega),List.map_append]; rfl
           · rw[cK (by omega) (by omega),List.map_append,List.length_append]
             show some (AV.own 21 2 0 (0+((out.take (out.length - 1)).map spC).length+1))=_
             rw[Nat.zero_add]; rfl
       ·
        refine⟨_,rfl,rfl,(ao rfl (aJ hf rfl (aP aS rfl rfl rfl rfl (l2 rfl)) (aF (aH 5 [] (by kernel_rfl) ⟨?_,trivial⟩))))⟩
        ·
         refine⟨_,rfl,rfl,(ao rfl (aZ hf rfl aS rfl rfl rfl (.inl rfl) (by first | rfl | (simp only[List.length_map,List.length_nil]; omega) | simp) rfl (cV (l:=out) (j:=out.length - 1) rfl (by omega) (by omega) (by omega)) (by first | (simp only[maxLen,List.length_map,List.length_append,List.length_cons,List.length_nil]; omega) | (simp [maxLen] <;> omega)) (by first | (simp only[List.length_map,List.length_append,List.length_cons,List.length_nil]; omega) | (simp <;> omega)) ?_))⟩
         refine aU (cM [26,36] rfl) (aF (aH 16 [] (by kernel_rfl) ⟨?_,trivial⟩))
         ·
          refine⟨_,rfl,rfl,(ao rfl (aZ hf rfl aS rfl rfl rfl (.inl rfl) (by first | rfl | (simp only[List.length_map,List.length_nil]; omega) | simp) rfl (by first | rfl | simp [dJ,bG]) (by first | (simp only[maxLen,List.length_map,List.length_append,List.length_cons,List.length_nil]; omega) | (simp [maxLen] <;> omega)) (by first | (simp only[List.length_map,List.length_append,List.length_cons,List.length_nil]; omega) | (simp <;> omega)) ?_))⟩
          refine aU (cM [37] rfl) (aF (aH 17 [] (by kernel_rfl) ⟨?_,trivial⟩))
          ·
           refine⟨_,rfl,rfl,(ao rfl (aE aA 1 rfl (aF (bS (by kernel_rfl) ?_))))⟩
           refine hK5 _ (aI ?_)
           refine⟨21,(dH out s).map spC,by decide,?_,?_,rfl⟩
           · rw[cK (by omega) (by omega),List.map_append]; rfl
           · rw[cK (by omega) (by omega),List.map_append,List.length_append]
             show some (AV.own 21 2 0 (0+((out.take (out.length - 1)).map spC).length+1))=_
             rw[Nat.zero_add]; rfl
    ·
     refine⟨_,rfl,rfl,(ao rfl (aE aA 1 rfl (aF (aH 5 [11] (by kernel_rfl) ⟨?_,?_,trivial⟩))))⟩
     ·
      refine⟨_,rfl,rfl,(ao rfl (aZ hf rfl aS rfl rfl rfl (.inl rfl) (by first | rfl | (simp only[List.length_map,List.length_nil]; omega) | simp) rfl (cV (l:=out) (j:=out.length - 1) rfl (by omega) (by omega) (by omega)) (by first | (simp only[maxLen,List.length_map,List.length_append,List.length_cons,List.length_nil]; omega) | (simp [maxLen] <;> omega)) (by first | (simp only[List.length_map,List.length_append,List.length_cons,List.length_nil]; omega) | (simp <;> omega)) ?_))⟩
      refine aU (cM [26,31,34] rfl) (aF (aH 11 [] (by kernel_rfl) ⟨?_,trivial⟩))
      ·
       refine⟨_,rfl,rfl,(ao rfl (aG rfl (gY rfl jI rfl (c:=.s (.int .i64 (out[out.length - 1]'(by omega)).1)) (iD (c:=2) (k:=out.length - 1) (enc:=spC) (by omega) (by omega) 0)) (aF (aH 14 [] (by kernel_rfl) ⟨?_,trivial⟩))))⟩
       ·
        refine⟨_,rfl,rfl,(ao rfl (aG rfl (bO rfl eA dF (l3 rfl) rfl) (aF (aH 15 [] (by kernel_rfl) ⟨?_,trivial⟩))))⟩
        ·
         refine⟨_,rfl,rfl,(ao rfl (aJ hf rfl (aP aS rfl rfl rfl rfl (l2 rfl)) (aF (aH 16 [] (by kernel_rfl) ⟨?_,trivial⟩))))⟩
         ·
          refine⟨_,rfl,rfl,(ao rfl (aZ hf rfl aS rfl rfl rfl (.inl rfl) (by first | rfl | (simp only[List.length_map,List.length_nil]; omega) | simp) rfl (by first | rfl | simp [dJ,bG]) (by first | (simp only[maxLen,List.length_map,List.length_append,List.length_cons,List.length_nil]; omega) | (simp [maxLen] <;> omega)) (by first | (simp only[List.length_map,List.length_append,List.length_cons,List.length_nil]; omega) | (simp <;> omega)) ?_))⟩
          refine aU (cM [37] rfl) (aF (aH 17 [] (by kernel_rfl) ⟨?_,trivial⟩))
          ·
           refine⟨_,rfl,rfl,(ao rfl (aE aA 1 rfl (aF (bS (by kernel_rfl) ?_))))⟩
           refine hK5 _ (aI ?_)
           refine⟨21,(dH out s).map spC,by decide,?_,?_,rfl⟩
           · rw[cK (by omega) (by omega),List.map_append]; rfl
           · rw[cK (by omega) (by omega),List.map_append,List.length_append]
             show some (AV.own 21 2 0 (0+((out.take (out.length - 1)).map spC).length+1))=_
             rw[Nat.zero_add]; rfl
     ·
      refine⟨_,rfl,rfl,(ao rfl (aG rfl (gY rfl jI rfl (c:=.s (.int .i64 (out[out.length - 1]'(by omega)).1)) (iD (c:=2) (k:=out.length - 1) (enc:=spC) (by omega) (by omega) 0)) (aF (aH 5 [14] (by kernel_rfl) ⟨?_,?_,trivial⟩))))⟩
      ·
       refine⟨_,rfl,rfl,(ao rfl (aZ hf rfl aS rfl rfl rfl (.inl rfl) (by first | rfl | (simp only[List.length_map,List.length_nil]; omega) | simp) rfl (cV (l:=out) (j:=out.length - 1) rfl (by omega) (by omega) (by omega)) (by first | (simp only[maxLen,List.length_map,List.length_append,List.length_cons,List.length_nil]; omega) | (simp [maxLen] <;> omega)) (by first | (simp only[List.length_map,List.length_append,List.length_cons,List.length_nil]; omega) | (simp <;> omega)) ?_))⟩
       refine aU (cM [26,32,34] rfl) (aF (aH 14 [] (by kernel_rfl) ⟨?_,trivial⟩))
       ·
        refine⟨_,rfl,rfl,(ao rfl (aG rfl (bO rfl eA dF (l3 rfl) rfl) (aF (aH 15 [] (by kernel_rfl) ⟨?_,trivial⟩))))⟩
        ·
         refine⟨_,rfl,rfl,(ao rfl (aJ hf rfl (aP aS rfl rfl rfl rfl (l2 rfl)) (aF (aH 16 [] (by kernel_rfl) ⟨?_,trivial⟩))))⟩
         ·
          refine⟨_,rfl,rfl,(ao rfl (aZ hf rfl aS rfl rfl rfl (.inl rfl) (by first | rfl | (simp only[List.length_map,List.length_nil]; omega) | simp) rfl (by first | rfl | simp [dJ,bG]) (by first | (simp only[maxLen,List.length_map,List.length_append,List.length_cons,List.length_nil]; omega) | (simp [maxLen] <;> omega)) (by first | (simp only[List.length_map,List.length_append,List.length_cons,List.length_nil]; omega) | (simp <;> omega)) ?_))⟩
          refine aU (cM [37] rfl) (aF (aH 17 [] (by kernel_rfl) ⟨?_,trivial⟩))
          ·
           refine⟨_,rfl,rfl,(ao rfl (aE aA 1 rfl (aF (bS (by kernel_rfl) ?_))))⟩
           refine hK5 _ (aI ?_)
           refine⟨21,(dH out s).map spC,by decide,?_,?_,rfl⟩
           · rw[cK (by omega) (by omega),List.map_append]; rfl
           · rw[cK (by omega) (by omega),List.map_append,List.length_append]
             show some (AV.own 21 2 0 (0+((out.take (out.length - 1)).map spC).length+1))=_
             rw[Nat.zero_add]; rfl
      ·
       refine⟨_,rfl,rfl,(ao rfl (aG rfl (bO rfl eA dF (l3 rfl) rfl) (aF (aH 5 [15] (by kernel_rfl) ⟨?_,?_,trivial⟩))))⟩
       ·
        refine⟨_,rfl,rfl,(ao rfl (aZ hf rfl aS rfl rfl rfl (.inl rfl) (by first | rfl | (simp only[List.length_map,List.length_nil]; omega) | simp) rfl (cV (l:=out) (j:=out.length - 1) rfl (by omega) (by omega) (by omega)) (by first | (simp only[maxLen,List.length_map,List.length_append,List.length_cons,List.length_nil]; omega) | (simp [maxLen] <;> omega)) (by first | (simp only[List.length_map,List.length_append,List.length_cons,List.length_nil]; omega) | (simp <;> omega)) ?_))⟩
        refine aU (cM [26,35] rfl) (aF (aH 15 [] (by kernel_rfl) ⟨?_,trivial⟩))
        ·
         refine⟨_,rfl,rfl,(ao rfl (aJ hf rfl (aP aS rfl rfl rfl rfl (l2 rfl)) (aF (aH 16 [] (by kernel_rfl) ⟨?_,trivial⟩))))⟩
         ·
          refine⟨_,rfl,rfl,(ao rfl (aZ hf rfl aS rfl rfl rfl (.inl rfl) (by first | rfl | (simp only[List.length_map,List.length_nil]; omega) | simp) rfl (by first | rfl | simp [dJ,bG]) (by first | (simp only[maxLen,List.length_map,List.length_append,List.length_cons,List.length_nil]; omega) | (simp [maxLen] <;> omega)) (by first | (simp only[List.length_map,List.length_append,List.length_cons,List.length_nil]; omega) | (simp <;> omega)) ?_))⟩
          refine aU (cM [37] rfl) (aF (aH 17 [] (by kernel_rfl) ⟨?_,trivial⟩))
          ·
           refine⟨_,rfl,rfl,(ao rfl (aE aA 1 rfl (aF (bS (by kernel_rfl) ?_))))⟩
           refine hK5 _ (aI ?_)
           refine⟨21,(dH out s).map spC,by decide,?_,?_,rfl⟩
           · rw[cK (by omega) (by omega),List.map_append]; rfl
           · rw[cK (by omega) (by omega),List.map_append,List.length_append]
             show some (AV.own 21 2 0 (0+((out.take (out.length - 1)).map spC).length+1))=_
             rw[Nat.zero_add]; rfl
       ·
        refine⟨_,rfl,rfl,(ao rfl (aJ hf rfl (aP aS rfl rfl rfl rfl (l2 rfl)) (aF (aH 5 [] (by kernel_rfl) ⟨?_,trivial⟩))))⟩
        ·
         refine⟨_,rfl,rfl,(ao rfl (aZ hf rfl aS rfl rfl rfl (.inl rfl) (by first | rfl | (simp only[List.length_map,List.length_nil]; omega) | simp) rfl (cV (l:=out) (j:=out.length - 1) rfl (by omega) (by omega) (by omega)) (by first | (simp only[maxLen,List.length_map,List.length_append,List.length_cons,List.length_nil]; omega) | (simp [maxLen] <;> omega)) (by first | (simp only[List.length_map,List.length_append,List.length_cons,List.length_nil]; omega) | (simp <;> omega)) ?_))⟩
         refine aU (cM [26,36] rfl) (aF (aH 16 [] (by kernel_rfl) ⟨?_,trivial⟩))
         ·
          refine⟨_,rfl,rfl,(ao rfl (aZ hf rfl aS rfl rfl rfl (.inl rfl) (by first | rfl | (simp only[List.length_map,List.length_nil]; omega) | simp) rfl (by first | rfl | simp [dJ,bG]) (by first | (simp only[maxLen,List.length_map,List.length_append,List.length_cons,List.length_nil]; omega) | (simp [maxLen] <;> omega)) (by first | (simp only[List.length_map,List.length_append,List.length_cons,List.length_nil]; omega) | (simp <;> omega)) ?_))⟩
          refine aU (cM [37] rfl) (aF (aH 17 [] (by kernel_rfl) ⟨?_,trivial⟩))
          ·
           refine⟨_,rfl,rfl,(ao rfl (aE aA 1 rfl (aF (bS (by kernel_rfl) ?_))))⟩
           refine hK5 _ (aI ?_)
           refine⟨21,(dH out s).map spC,by decide,?_,?_,rfl⟩
           · rw[cK (by omega) (by omega),List.map_append]; rfl
           · rw[cK (by omega) (by omega),List.map_append,List.length_append]
             show some (AV.own 21 2 0 (0+((out.take (out.length - 1)).map spC).length+1))=_
             rw[Nat.zero_add]; rfl
   ·
    refine⟨_,rfl,rfl,(ao rfl (aG rfl (gY rfl jI rfl (c:=.s (.int .i64 (out[out.length - 1]'(by omega)).1)) (iD (c:=2) (k:=out.length - 1) (enc:=spC) (by omega) (by omega) 0)) (aF (aH 0 [13] (by kernel_rfl) ⟨?_,?_,trivial⟩))))⟩
    ·
     refine⟨_,rfl,rfl,(ao rfl (cT hf rfl rfl rfl aS rfl rfl rfl rfl (l2 rfl) ?_))⟩
     refine aF (aH 5 [13] (by kernel_rfl) ⟨?_,?_,trivial⟩)
     ·
      refine⟨_,rfl,rfl,(ao rfl (aZ hf rfl aS rfl rfl rfl (.inl rfl) (by first | rfl | (simp only[List.length_map,List.length_nil]; omega) | simp) rfl (cV (l:=out) (j:=out.length - 1) rfl (by omega) (by omega) (by omega)) (by first | (simp only[maxLen,List.length_map,List.length_append,List.length_cons,List.length_nil]; omega) | (simp [maxLen] <;> omega)) (by first | (simp only[List.length_map,List.length_append,List.length_cons,List.length_nil]; omega) | (simp <;> omega)) ?_))⟩
      refine aU (cM [26,32,33] rfl) (aF (aH 13 [] (by kernel_rfl) ⟨?_,trivial⟩))
      ·
       refine⟨_,rfl,rfl,(ao rfl (aE aA 1 rfl (aF (aH 14 [] (by kernel_rfl) ⟨?_,trivial⟩))))⟩
       ·
        refine⟨_,rfl,rfl,(ao rfl (aG rfl (bO rfl eA dF (l3 rfl) rfl) (aF (aH 15 [] (by kernel_rfl) ⟨?_,trivial⟩))))⟩
        ·
         refine⟨_,rfl,rfl,(ao rfl (aJ hf rfl (aP aS rfl rfl rfl rfl (l2 rfl)) (aF (aH 16 [] (by kernel_rfl) ⟨?_,trivial⟩))))⟩
         ·
          refine⟨_,rfl,rfl,(ao rfl (aZ hf rfl aS rfl rfl rfl (.inl rfl) (by first | rfl | (simp only[List.length_map,List.length_nil]; omega) | simp) rfl (by first | rfl | simp [dJ,bG]) (by first | (simp only[maxLen,List.length_map,List.length_append,List.length_cons,List.length_nil]; omega) | (simp [maxLen] <;> omega)) (by first | (simp only[List.length_map,List.length_append,List.length_cons,List.length_nil]; omega) | (simp <;> omega)) ?_))⟩
          refine aU (cM [37] rfl) (aF (aH 17 [] (by kernel_rfl) ⟨?_,trivial⟩))
          ·
           refine⟨_,rfl,rfl,(ao rfl (aE aA 1 rfl (aF (bS (by kernel_rfl) ?_))))⟩
           refine hK5 _ (aI ?_)
           refine⟨21,(dH out s).map spC,by decide,?_,?_,rfl⟩
           · rw[cK (by omega) (by omega),List.map_append]; rfl
           · rw[cK (by omega) (by omega),List.map_append,List.length_append]
             show some (AV.own 21 2 0 (0+((out.take (out.length - 1)).map spC).length+1))=_
             rw[Nat.zero_add]; rfl
     ·
      refine⟨_,rfl,rfl,(ao rfl (aE aA 1 rfl (aF (aH 5 [14] (by kernel_rfl) ⟨?_,?_,trivial⟩))))⟩
      ·
       refine⟨_,rfl,rfl,(ao rfl (aZ hf rfl aS rfl rfl rfl (.inl rfl) (by first | rfl | (simp only[List.length_map,List.length_nil]; omega) | simp) rfl (cV (l:=out) (j:=out.length - 1) rfl (by omega) (by omega) (by omega)) (by first | (simp only[maxLen,List.length_map,List.length_append,List.length_cons,List.length_nil]; omega) | (simp [maxLen] <;> omega)) (by first | (simp only[List.length_map,List.length_append,List.length_cons,List.length_nil]; omega) | (simp <;> omega)) ?_))⟩
       refine aU (cM [26,32,34] rfl) (aF (aH 14 [] (by kernel_rfl) ⟨?_,trivial⟩))
       ·
        refine⟨_,rfl,rfl,(ao rfl (aG rfl (bO rfl eA dF (l3 rfl) rfl) (aF (aH 15 [] (by kernel_rfl) ⟨?_,trivial⟩))))⟩
        ·
         refine⟨_,rfl,rfl,(ao rfl (aJ hf rfl (aP aS rfl rfl rfl rfl (l2 rfl)) (aF (aH 16 [] (by kernel_rfl) ⟨?_,trivial⟩))))⟩
         ·
          refine⟨_,rfl,rfl,(ao rfl (aZ hf rfl aS rfl rfl rfl (.inl rfl) (by first | rfl | (simp only[List.length_map,List.length_nil]; omega) | simp) rfl (by first | rfl | simp [dJ,bG]) (by first | (simp only[maxLen,List.length_map,List.length_append,List.length_cons,List.length_nil]; omega) | (simp [maxLen] <;> omega)) (by first | (simp only[List.length_map,List.length_append,List.length_cons,List.length_nil]; omega) | (simp <;> omega)) ?_))⟩
          refine aU (cM [37] rfl) (aF (aH 17 [] (by kernel_rfl) ⟨?_,trivial⟩))
          ·
           refine⟨_,rfl,rfl,(ao rfl (aE aA 1 rfl (aF (bS (by kernel_rfl) ?_))))⟩
           refine hK5 _ (aI ?_)
           refine⟨21,(dH out s).map spC,by decide,?_,?_,rfl⟩
           · rw[cK (by omega) (by omega),List.map_append]; rfl
           · rw[cK (by omega) (by omega),List.map_append,List.length_append]
             show some (AV.own 21 2 0 (0+((out.take (out.length - 1)).map spC).length+1))=_
             rw[Nat.zero_add]; rfl
      ·
       refine⟨_,rfl,rfl,(ao rfl (aG rfl (bO rfl eA dF (l3 rfl) rfl) (aF (aH 5 [15] (by kernel_rfl) ⟨?_,?_,trivial⟩))))⟩
       ·
        refine⟨_,rfl,rfl,(ao rfl (aZ hf rfl aS rfl rfl rfl (.inl rfl) (by first | rfl | (simp only[List.length_map,List.length_nil]; omega) | simp) rfl (cV (l:=out) (j:=out.length - 1) rfl (by omega) (by omega) (by omega)) (by first | (simp only[maxLen,List.length_map,List.length_append,List.length_cons,List.length_nil]; omega) | (simp [maxLen] <;> omega)) (by first | (simp only[List.length_map,List.length_append,List.length_cons,List.length_nil]; omega) | (simp <;> omega)) ?_))⟩
        refine aU (cM [26,35] rfl) (aF (aH 15 [] (by kernel_rfl) ⟨?_,trivial⟩))
        ·
         refine⟨_,rfl,rfl,(ao rfl (aJ hf rfl (aP aS rfl rfl rfl rfl (l2 rfl)) (aF (aH 16 [] (by kernel_rfl) ⟨?_,trivial⟩))))⟩
         ·
          refine⟨_,rfl,rfl,(ao rfl (aZ hf rfl aS rfl rfl rfl (.inl rfl) (by first | rfl | (simp only[List.length_map,List.length_nil]; omega) | simp) rfl (by first | rfl | simp [dJ,bG]) (by first | (simp only[maxLen,List.length_map,List.length_append,List.length_cons,List.length_nil]; omega) | (simp [maxLen] <;> omega)) (by first | (simp only[List.length_map,List.length_append,List.length_cons,List.length_nil]; omega) | (simp <;> omega)) ?_))⟩
          refine aU (cM [37] rfl) (aF (aH 17 [] (by kernel_rfl) ⟨?_,trivial⟩))
          ·
           refine⟨_,rfl,rfl,(ao rfl (aE aA 1 rfl (aF (bS (by kernel_rfl) ?_))))⟩
           refine hK5 _ (aI ?_)
           refine⟨21,(dH out s).map spC,by decide,?_,?_,rfl⟩
           · rw[cK (by omega) (by omega),List.map_append]; rfl
           · rw[cK (by omega) (by omega),List.map_append,List.length_append]
             show some (AV.own 21 2 0 (0+((out.take (out.length - 1)).map spC).length+1))=_
             rw[Nat.zero_add]; rfl
       ·
        refine⟨_,rfl,rfl,(ao rfl (aJ hf rfl (aP aS rfl rfl rfl rfl (l2 rfl)) (aF (aH 5 [] (by kernel_rfl) ⟨?_,trivial⟩))))⟩
        ·
         refine⟨_,rfl,rfl,(ao rfl (aZ hf rfl aS rfl rfl rfl (.inl rfl) (by first | rfl | (simp only[List.length_map,List.length_nil]; omega) | simp) rfl (cV (l:=out) (j:=out.length - 1) rfl (by omega) (by omega) (by omega)) (by first | (simp only[maxLen,List.length_map,List.length_append,List.length_cons,List.length_nil]; omega) | (simp [maxLen] <;> omega)) (by first | (simp only[List.length_map,List.length_append,List.length_cons,List.length_nil]; omega) | (simp <;> omega)) ?_))⟩
         refine aU (cM [26,36] rfl) (aF (aH 16 [] (by kernel_rfl) ⟨?_,trivial⟩))
         ·
          refine⟨_,rfl,rfl,(ao rfl (aZ hf rfl aS rfl rfl rfl (.inl rfl) (by first | rfl | (simp only[List.length_map,List.length_nil]; omega) | simp) rfl (by first | rfl | simp [dJ,bG]) (by first | (simp only[maxLen,List.length_map,List.length_append,List.length_cons,List.length_nil]; omega) | (simp [maxLen] <;> omega)) (by first | (simp only[List.length_map,List.length_append,List.length_cons,List.length_nil]; omega) | (simp <;> omega)) ?_))⟩
          refine aU (cM [37] rfl) (aF (aH 17 [] (by kernel_rfl) ⟨?_,trivial⟩))
          ·
           refine⟨_,rfl,rfl,(ao rfl (aE aA 1 rfl (aF (bS (by kernel_rfl) ?_))))⟩
           refine hK5 _ (aI ?_)
           refine⟨21,(dH out s).map spC,by decide,?_,?_,rfl⟩
           · rw[cK (by omega) (by omega),List.map_append]; rfl
           · rw[cK (by omega) (by omega),List.map_append,List.length_append]
             show some (AV.own 21 2 0 (0+((out.take (out.length - 1)).map spC).length+1))=_
             rw[Nat.zero_add]; rfl
    ·
     refine⟨_,rfl,rfl,(ao rfl (aE aA 1 rfl (aF (aH 0 [14] (by kernel_rfl) ⟨?_,?_,trivial⟩))))⟩
     ·
      refine⟨_,rfl,rfl,(ao rfl (cT hf rfl rfl rfl aS rfl rfl rfl rfl (l2 rfl) ?_))⟩
      refine aF (aH 5 [14] (by kernel_rfl) ⟨?_,?_,trivial⟩)
      ·
       refine⟨_,rfl,rfl,(ao rfl (aZ hf rfl aS rfl rfl rfl (.inl rfl) (by first | rfl | (simp only[List.length_map,List.length_nil]; omega) | simp) rfl (cV (l:=out) (j:=out.length - 1) rfl (by omega) (by omega) (by omega)) (by first | (simp only[maxLen,List.length_map,List.length_append,List.length_cons,List.length_nil]; omega) | (simp [maxLen] <;> omega)) (by first | (simp only[List.length_map,List.length_append,List.length_cons,List.length_nil]; omega) | (simp <;> omega)) ?_))⟩
       refine aU (cM [26,32,34] rfl) (aF (aH 14 [] (by kernel_rfl) ⟨?_,trivial⟩))
       ·
        refine⟨_,rfl,rfl,(ao rfl (aG rfl (bO rfl eA dF (l3 rfl) rfl) (aF (aH 15 [] (by kernel_rfl) ⟨?_,trivial⟩))))⟩
        ·
         refine⟨_,rfl,rfl,(ao rfl (aJ hf rfl (aP aS rfl rfl rfl rfl (l2 rfl)) (aF (aH 16 [] (by kernel_rfl) ⟨?_,trivial⟩))))⟩
         ·
          refine⟨_,rfl,rfl,(ao rfl (aZ hf rfl aS rfl rfl rfl (.inl rfl) (by first | rfl | (simp only[List.length_map,List.length_nil]; omega) | simp) rfl (by first | rfl | simp [dJ,bG]) (by first | (simp only[maxLen,List.length_map,List.length_append,List.length_cons,List.length_nil]; omega) | (simp [maxLen] <;> omega)) (by first | (simp only[List.length_map,List.length_append,List.length_cons,List.length_nil]; omega) | (simp <;> omega)) ?_))⟩
          refine aU (cM [37] rfl) (aF (aH 17 [] (by kernel_rfl) ⟨?_,trivial⟩))
          ·
           refine⟨_,rfl,rfl,(ao rfl (aE aA 1 rfl (aF (bS (by kernel_rfl) ?_))))⟩
           refine hK5 _ (aI ?_)
           refine⟨21,(dH out s).map spC,by decide,?_,?_,rfl⟩
           · rw[cK (by omega) (by omega),List.map_append]; rfl
           · rw[cK (by omega) (by omega),List.map_append,List.length_append]
             show some (AV.own 21 2 0 (0+((out.take (out.length - 1)).map spC).length+1))=_
             rw[Nat.zero_add]; rfl
      ·
       refine⟨_,rfl,rfl,(ao rfl (aG rfl (bO rfl eA dF (l3 rfl) rfl) (aF (aH 5 [15] (by kernel_rfl) ⟨?_,?_,trivial⟩))))⟩
       ·
        refine⟨_,rfl,rfl,(ao rfl (aZ hf rfl aS rfl rfl rfl (.inl rfl) (by first | rfl | (simp only[List.length_map,List.length_nil]; omega) | simp) rfl (cV (l:=out) (j:=out.length - 1) rfl (by omega) (by omega) (by omega)) (by first | (simp only[maxLen,List.length_map,List.length_append,List.length_cons,List.length_nil]; omega) | (simp [maxLen] <;> omega)) (by first | (simp only[List.length_map,List.length_append,List.length_cons,List.length_nil]; omega) | (simp <;> omega)) ?_))⟩
        refine aU (cM [26,35] rfl) (aF (aH 15 [] (by kernel_rfl) ⟨?_,trivial⟩))
        ·
         refine⟨_,rfl,rfl,(ao rfl (aJ hf rfl (aP aS rfl rfl rfl rfl (l2 rfl)) (aF (aH 16 [] (by kernel_rfl) ⟨?_,trivial⟩))))⟩
         ·
          refine⟨_,rfl,rfl,(ao rfl (aZ hf rfl aS rfl rfl rfl (.inl rfl) (by first | rfl | (simp only[List.length_map,List.length_nil]; omega) | simp) rfl (by first | rfl | simp [dJ,bG]) (by first | (simp only[maxLen,List.length_map,List.length_append,List.length_cons,List.length_nil]; omega) | (simp [maxLen] <;> omega)) (by first | (simp only[List.length_map,List.length_append,List.length_cons,List.length_nil]; omega) | (simp <;> omega)) ?_))⟩
          refine aU (cM [37] rfl) (aF (aH 17 [] (by kernel_rfl) ⟨?_,trivial⟩))
          ·
           refine⟨_,rfl,rfl,(ao rfl (aE aA 1 rfl (aF (bS (by kernel_rfl) ?_))))⟩
           refine hK5 _ (aI ?_)
           refine⟨21,(dH out s).map spC,by decide,?_,?_,rfl⟩
           · rw[cK (by omega) (by omega),List.map_append]; rfl
           · rw[cK (by omega) (by omega),List.map_append,List.length_append]
             show some (AV.own 21 2 0 (0+((out.take (out.length - 1)).map spC).length+1))=_
             rw[Nat.zero_add]; rfl
       ·
        refine⟨_,rfl,rfl,(ao rfl (aJ hf rfl (aP aS rfl rfl rfl rfl (l2 rfl)) (aF (aH 5 [] (by kernel_rfl) ⟨?_,trivial⟩))))⟩
        ·
         refine⟨_,rfl,rfl,(ao rfl (aZ hf rfl aS rfl rfl rfl (.inl rfl) (by first | rfl | (simp only[List.length_map,List.length_nil]; omega) | simp) rfl (cV (l:=out) (j:=out.length - 1) rfl (by omega) (by omega) (by omega)) (by first | (simp only[maxLen,List.length_map,List.length_append,List.length_cons,List.length_nil]; omega) | (simp [maxLen] <;> omega)) (by first | (simp only[List.length_map,List.length_append,List.length_cons,List.length_nil]; omega) | (simp <;> omega)) ?_))⟩
         refine aU (cM [26,36] rfl) (aF (aH 16 [] (by kernel_rfl) ⟨?_,trivial⟩))
         ·
          refine⟨_,rfl,rfl,(ao rfl (aZ hf rfl aS rfl rfl rfl (.inl rfl) (by first | rfl | (simp only[List.length_map,List.length_nil]; omega) | simp) rfl (by first | rfl | simp [dJ,bG]) (by first | (simp only[maxLen,List.length_map,List.length_append,List.length_cons,List.length_nil]; omega) | (simp [maxLen] <;> omega)) (by first | (simp only[List.length_map,List.length_append,List.length_cons,List.length_nil]; omega) | (simp <;> omega)) ?_))⟩
          refine aU (cM [37] rfl) (aF (aH 17 [] (by kernel_rfl) ⟨?_,trivial⟩))
          ·
           refine⟨_,rfl,rfl,(ao rfl (aE aA 1 rfl (aF (bS (by kernel_rfl) ?_))))⟩
           refine hK5 _ (aI ?_)
           refine⟨21,(dH out s).map spC,by decide,?_,?_,rfl⟩
           · rw[cK (by omega) (by omega),List.map_append]; rfl
           · rw[cK (by omega) (by omega),List.map_append,List.length_append]
             show some (AV.own 21 2 0 (0+((out.take (out.length - 1)).map spC).length+1))=_
             rw[Nat.zero_add]; rfl
     ·
      refine⟨_,rfl,rfl,(ao rfl (aG rfl (bO rfl eA dF (l3 rfl) rfl) (aF (aH 0 [15] (by kernel_rfl) ⟨?_,?_,trivial⟩))))⟩
      ·
       refine⟨_,rfl,rfl,(ao rfl (cT hf rfl rfl rfl aS rfl rfl rfl rfl (l2 rfl) ?_))⟩
       refine aF (aH 5 [15] (by kernel_rfl) ⟨?_,?_,trivial⟩)
       ·
        refine⟨_,rfl,rfl,(ao rfl (aZ hf rfl aS rfl rfl rfl (.inl rfl) (by first | rfl | (simp only[List.length_map,List.length_nil]; omega) | simp) rfl (cV (l:=out) (j:=out.length - 1) rfl (by omega) (by omega) (by omega)) (by first | (simp only[maxLen,List.length_map,List.length_append,List.length_cons,List.length_nil]; omega) | (simp [maxLen] <;> omega)) (by first | (simp only[List.length_map,List.length_append,List.length_cons,List.length_nil]; omega) | (simp <;> omega)) ?_))⟩
        refine aU (cM [26,35] rfl) (aF (aH 15 [] (by kernel_rfl) ⟨?_,trivial⟩))
        ·
         refine⟨_,rfl,rfl,(ao rfl (aJ hf rfl (aP aS rfl rfl rfl rfl (l2 rfl)) (aF (aH 16 [] (by kernel_rfl) ⟨?_,trivial⟩))))⟩
         ·
          refine⟨_,rfl,rfl,(ao rfl (aZ hf rfl aS rfl rfl rfl (.inl rfl) (by first | rfl | (simp only[List.length_map,List.length_nil]; omega) | simp) rfl (by first | rfl | simp [dJ,bG]) (by first | (simp only[maxLen,List.length_map,List.length_append,List.length_cons,List.length_nil]; omega) | (simp [maxLen] <;> omega)) (by first | (simp only[List.length_map,List.length_append,List.length_cons,List.length_nil]; omega) | (simp <;> omega)) ?_))⟩
          refine aU (cM [37] rfl) (aF (aH 17 [] (by kernel_rfl) ⟨?_,trivial⟩))
          ·
           refine⟨_,rfl,rfl,(ao rfl (aE aA 1 rfl (aF (bS (by kernel_rfl) ?_))))⟩
           refine hK5 _ (aI ?_)
           refine⟨21,(dH out s).map spC,by decide,?_,?_,rfl⟩
           · rw[cK (by omega) (by omega),List.map_append]; rfl
           · rw[cK (by omega) (by omega),List.map_append,List.length_append]
             show some (AV.own 21 2 0 (0+((out.take (out.length - 1)).map spC).length+1))=_
             rw[Nat.zero_add]; rfl
       ·
        refine⟨_,rfl,rfl,(ao rfl (aJ hf rfl (aP aS rfl rfl rfl rfl (l2 rfl)) (aF (aH 5 [] (by kernel_rfl) ⟨?_,trivial⟩))))⟩
        ·
         refine⟨_,rfl,rfl,(ao rfl (aZ hf rfl aS rfl rfl rfl (.inl rfl) (by first | rfl | (simp only[List.length_map,List.length_nil]; omega) | simp) rfl (cV (l:=out) (j:=out.length - 1) rfl (by omega) (by omega) (by omega)) (by first | (simp only[maxLen,List.length_map,List.length_append,List.length_cons,List.length_nil]; omega) | (simp [maxLen] <;> omega)) (by first | (simp only[List.length_map,List.length_append,List.length_cons,List.length_nil]; omega) | (simp <;> omega)) ?_))⟩
         refine aU (cM [26,36] rfl) (aF (aH 16 [] (by kernel_rfl) ⟨?_,trivial⟩))
         ·
          refine⟨_,rfl,rfl,(ao rfl (aZ hf rfl aS rfl rfl rfl (.inl rfl) (by first | rfl | (simp only[List.length_map,List.length_nil]; omega) | simp) rfl (by first | rfl | simp [dJ,bG]) (by first | (simp only[maxLen,List.length_map,List.length_append,List.length_cons,List.length_nil]; omega) | (simp [maxLen] <;> omega)) (by first | (simp only[List.length_map,List.length_append,List.length_cons,List.length_nil]; omega) | (simp <;> omega)) ?_))⟩
          refine aU (cM [37] rfl) (aF (aH 17 [] (by kernel_rfl) ⟨?_,trivial⟩))
          ·
           refine⟨_,rfl,rfl,(ao rfl (aE aA 1 rfl (aF (bS (by kernel_rfl) ?_))))⟩
           refine hK5 _ (aI ?_)
           refine⟨21,(dH out s).map spC,by decide,?_,?_,rfl⟩
           · rw[cK (by omega) (by omega),List.map_append]; rfl
           · rw[cK (by omega) (by omega),List.map_append,List.length_append]
             show some (AV.own 21 2 0 (0+((out.take (out.length - 1)).map spC).length+1))=_
             rw[Nat.zero_add]; rfl
      ·
       refine⟨_,rfl,rfl,(ao rfl (aJ hf rfl (aP aS rfl rfl rfl rfl (l2 rfl)) (aF (aH 0 [] (by kernel_rfl) ⟨?_,trivial⟩))))⟩
       ·
        refine⟨_,rfl,rfl,(ao rfl (cT hf rfl rfl rfl aS rfl rfl rfl rfl (l2 rfl) ?_))⟩
        refine aF (aH 5 [] (by kernel_rfl) ⟨?_,trivial⟩)
        ·
         refine⟨_,rfl,rfl,(ao rfl (aZ hf rfl aS rfl rfl rfl (.inl rfl) (by first | rfl | (simp only[List.length_map,List.length_nil]; omega) | simp) rfl (cV (l:=out) (j:=out.length - 1) rfl (by omega) (by omega) (by omega)) (by first | (simp only[maxLen,List.length_map,List.length_append,List.length_cons,List.length_nil]; omega) | (simp [maxLen] <;> omega)) (by first | (simp only[List.length_map,List.length_append,List.length_cons,List.length_nil]; omega) | (simp <;> omega)) ?_))⟩
         refine aU (cM [26,36] rfl) (aF (aH 16 [] (by kernel_rfl) ⟨?_,trivial⟩))
         ·
          refine⟨_,rfl,rfl,(ao rfl (aZ hf rfl aS rfl rfl rfl (.inl rfl) (by first | rfl | (simp only[List.length_map,List.length_nil]; omega) | simp) rfl (by first | rfl | simp [dJ,bG]) (by first | (simp only[maxLen,List.length_map,List.length_append,List.length_cons,List.length_nil]; omega) | (simp [maxLen] <;> omega)) (by first | (simp only[List.length_map,List.length_append,List.length_cons,List.length_nil]; omega) | (simp <;> omega)) ?_))⟩
          refine aU (cM [37] rfl) (aF (aH 17 [] (by kernel_rfl) ⟨?_,trivial⟩))
          ·
           refine⟨_,rfl,rfl,(ao rfl (aE aA 1 rfl (aF (bS (by kernel_rfl) ?_))))⟩
           refine hK5 _ (aI ?_)
           refine⟨21,(dH out s).map spC,by decide,?_,?_,rfl⟩
           · rw[cK (by omega) (by omega),List.map_append]; rfl
           · rw[cK (by omega) (by omega),List.map_append,List.length_append]
             show some (AV.own 21 2 0 (0+((out.take (out.length - 1)).map spC).length+1))=_
             rw[Nat.zero_add]; rfl
   ·
    refine⟨_,rfl,rfl,(ao rfl (aE aA 1 rfl (aF (aH 0 [11] (by kernel_rfl) ⟨?_,?_,trivial⟩))))⟩
    ·
     refine⟨_,rfl,rfl,(ao rfl (cT hf rfl rfl rfl aS rfl rfl rfl rfl (l2 rfl) ?_))⟩
     refine aF (aH 5 [11] (by kernel_rfl) ⟨?_,?_,trivial⟩)
     ·
      refine⟨_,rfl,rfl,(ao rfl (aZ hf rfl aS rfl rfl rfl (.inl rfl) (by first | rfl | (simp only[List.length_map,List.length_nil]; omega) | simp) rfl (cV (l:=out) (j:=out.length - 1) rfl (by omega) (by omega) (by omega)) (by first | (simp only[maxLen,List.length_map,List.length_append,List.length_cons,List.length_nil]; omega) | (simp [maxLen] <;> omega)) (by first | (simp only[List.length_map,List.length_append,List.length_cons,List.length_nil]; omega) | (simp <;> omega)) ?_))⟩
      refine aU (cM [26,31,34] rfl) (aF (aH 11 [] (by kernel_rfl) ⟨?_,trivial⟩))
      ·
       refine⟨_,rfl,rfl,(ao rfl (aG rfl (gY rfl jI rfl (c:=.s (.int .i64 (out[out.length - 1]'(by omega)).1)) (iD (c:=2) (k:=out.length - 1) (enc:=spC) (by omega) (by omega) 0)) (aF (aH 14 [] (by kernel_rfl) ⟨?_,trivial⟩))))⟩
       ·
        refine⟨_,rfl,rfl,(ao rfl (aG rfl (bO rfl eA dF (l3 rfl) rfl) (aF (aH 15 [] (by kernel_rfl) ⟨?_,trivial⟩))))⟩
        ·
         refine⟨_,rfl,rfl,(ao rfl (aJ hf rfl (aP aS rfl rfl rfl rfl (l2 rfl)) (aF (aH 16 [] (by kernel_rfl) ⟨?_,trivial⟩))))⟩
         ·
          refine⟨_,rfl,rfl,(ao rfl (aZ hf rfl aS rfl rfl rfl (.inl rfl) (by first | rfl | (simp only[List.length_map,List.length_nil]; omega) | simp) rfl (by first | rfl | simp [dJ,bG]) (by first | (simp only[maxLen,List.length_map,List.length_append,List.length_cons,List.length_nil]; omega) | (simp [maxLen] <;> omega)) (by first | (simp only[List.length_map,List.length_append,List.length_cons,List.length_nil]; omega) | (simp <;> omega)) ?_))⟩
          refine aU (cM [37] rfl) (aF (aH 17 [] (by kernel_rfl) ⟨?_,trivial⟩))
          ·
           refine⟨_,rfl,rfl,(ao rfl (aE aA 1 rfl (aF (bS (by kernel_rfl) ?_))))⟩
           refine hK5 _ (aI ?_)
           refine⟨21,(dH out s).map spC,by decide,?_,?_,rfl⟩
           · rw[cK (by omega) (by omega),List.map_append]; rfl
           · rw[cK (by omega) (by omega),List.map_append,List.length_append]
             show some (AV.own 21 2 0 (0+((out.take (out.length - 1)).map spC).length+1))=_
             rw[Nat.zero_add]; rfl
     ·
      refine⟨_,rfl,rfl,(ao rfl (aG rfl (gY rfl jI rfl (c:=.s (.int .i64 (out[out.length - 1]'(by omega)).1)) (iD (c:=2) (k:=out.length - 1) (enc:=spC) (by omega) (by omega) 0)) (aF (aH 5 [14] (by kernel_rfl) ⟨?_,?_,trivial⟩))))⟩
      ·
       refine⟨_,rfl,rfl,(ao rfl (aZ hf rfl aS rfl rfl rfl (.inl rfl) (by first | rfl | (simp only[List.length_map,List.length_nil]; omega) | simp) rfl (cV (l:=out) (j:=out.length - 1) rfl (by omega) (by omega) (by omega)) (by first | (simp only[maxLen,List.length_map,List.length_append,List.length_cons,List.length_nil]; omega) | (simp [maxLen] <;> omega)) (by first | (simp only[List.length_map,List.length_append,List.length_cons,List.length_nil]; omega) | (simp <;> omega)) ?_))⟩
       refine aU (cM [26,32,34] rfl) (aF (aH 14 [] (by kernel_rfl) ⟨?_,trivial⟩))
       ·
        refine⟨_,rfl,rfl,(ao rfl (aG rfl (bO rfl eA dF (l3 rfl) rfl) (aF (aH 15 [] (by kernel_rfl) ⟨?_,trivial⟩))))⟩
        ·
         refine⟨_,rfl,rfl,(ao rfl (aJ hf rfl (aP aS rfl rfl rfl rfl (l2 rfl)) (aF (aH 16 [] (by kernel_rfl) ⟨?_,trivial⟩))))⟩
         ·
          refine⟨_,rfl,rfl,(ao rfl (aZ hf rfl aS rfl rfl rfl (.inl rfl) (by first | rfl | (simp only[List.length_map,List.length_nil]; omega) | simp) rfl (by first | rfl | simp [dJ,bG]) (by first | (simp only[maxLen,List.length_map,List.length_append,List.length_cons,List.length_nil]; omega) | (simp [maxLen] <;> omega)) (by first | (simp only[List.length_map,List.length_append,List.length_cons,List.length_nil]; omega) | (simp <;> omega)) ?_))⟩
          refine aU (cM [37] rfl) (aF (aH 17 [] (by kernel_rfl) ⟨?_,trivial⟩))
          ·
           refine⟨_,rfl,rfl,(ao rfl (aE aA 1 rfl (aF (bS (by kernel_rfl) ?_))))⟩
           refine hK5 _ (aI ?_)
           refine⟨21,(dH out s).map spC,by decide,?_,?_,rfl⟩
           · rw[cK (by omega) (by omega),List.map_append]; rfl
           · rw[cK (by omega) (by omega),List.map_append,List.length_append]
             show some (AV.own 21 2 0 (0+((out.take (out.length - 1)).map spC).length+1))=_
             rw[Nat.zero_add]; rfl
      ·
       refine⟨_,rfl,rfl,(ao rfl (aG rfl (bO rfl eA dF (l3 rfl) rfl) (aF (aH 5 [15] (by kernel_rfl) ⟨?_,?_,trivial⟩))))⟩
       ·
        refine⟨_,rfl,rfl,(ao rfl (aZ hf rfl aS rfl rfl rfl (.inl rfl) (by first | rfl | (simp only[List.length_map,List.length_nil]; omega) | simp) rfl (cV (l:=out) (j:=out.length - 1) rfl (by omega) (by omega) (by omega)) (by first | (simp only[maxLen,List.length_map,List.length_append,List.length_cons,List.length_nil]; omega) | (simp [maxLen] <;> omega)) (by first | (simp only[List.length_map,List.length_append,List.length_cons,List.length_nil]; omega) | (simp <;> omega)) ?_))⟩
        refine aU (cM [26,35] rfl) (aF (aH 15 [] (by kernel_rfl) ⟨?_,trivial⟩))
        ·
         refine⟨_,rfl,rfl,(ao rfl (aJ hf rfl (aP aS rfl rfl rfl rfl (l2 rfl)) (aF (aH 16 [] (by kernel_rfl) ⟨?_,trivial⟩))))⟩
         ·
          refine⟨_,rfl,rfl,(ao rfl (aZ hf rfl aS rfl rfl rfl (.inl rfl) (by first | rfl | (simp only[List.length_map,List.length_nil]; omega) | simp) rfl (by first | rfl | simp [dJ,bG]) (by first | (simp only[maxLen,List.length_map,List.length_append,List.length_cons,List.length_nil]; omega) | (simp [maxLen] <;> omega)) (by first | (simp only[List.length_map,List.length_append,List.length_cons,List.length_nil]; omega) | (simp <;> omega)) ?_))⟩
          refine aU (cM [37] rfl) (aF (aH 17 [] (by kernel_rfl) ⟨?_,trivial⟩))
          ·
           refine⟨_,rfl,rfl,(ao rfl (aE aA 1 rfl (aF (bS (by kernel_rfl) ?_))))⟩
           refine hK5 _ (aI ?_)
           refine⟨21,(dH out s).map spC,by decide,?_,?_,rfl⟩
           · rw[cK (by omega) (by omega),List.map_append]; rfl
           · rw[cK (by omega) (by omega),List.map_append,List.length_append]
             show some (AV.own 21 2 0 (0+((out.take (out.length - 1)).map spC).length+1))=_
             rw[Nat.zero_add]; rfl
       ·
        refine⟨_,rfl,rfl,(ao rfl (aJ hf rfl (aP aS rfl rfl rfl rfl (l2 rfl)) (aF (aH 5 [] (by kernel_rfl) ⟨?_,trivial⟩))))⟩
        ·
         refine⟨_,rfl,rfl,(ao rfl (aZ hf rfl aS rfl rfl rfl (.inl rfl) (by first | rfl | (simp only[List.length_map,List.length_nil]; omega) | simp) rfl (cV (l:=out) (j:=out.length - 1) rfl (by omega) (by omega) (by omega)) (by first | (simp only[maxLen,List.length_map,List.length_append,List.length_cons,List.length_nil]; omega) | (simp [maxLen] <;> omega)) (by first | (simp only[List.length_map,List.length_append,List.length_cons,List.length_nil]; omega) | (simp <;> omega)) ?_))⟩
         refine aU (cM [26,36] rfl) (aF (aH 16 [] (by kernel_rfl) ⟨?_,trivial⟩))
         ·
          refine⟨_,rfl,rfl,(ao rfl (aZ hf rfl aS rfl rfl rfl (.inl rfl) (by first | rfl | (simp only[List.length_map,List.length_nil]; omega) | simp) rfl (by first | rfl | simp [dJ,bG]) (by first | (simp only[maxLen,List.length_map,List.length_append,List.length_cons,List.length_nil]; omega) | (simp [maxLen] <;> omega)) (by first | (simp only[List.length_map,List.length_append,List.length_cons,List.length_nil]; omega) | (simp <;> omega)) ?_))⟩
          refine aU (cM [37] rfl) (aF (aH 17 [] (by kernel_rfl) ⟨?_,trivial⟩))
          ·
           refine⟨_,rfl,rfl,(ao rfl (aE aA 1 rfl (aF (bS (by kernel_rfl) ?_))))⟩
           refine hK5 _ (aI ?_)
           refine⟨21,(dH out s).map spC,by decide,?_,?_,rfl⟩
           · rw[cK (by omega) (by omega),List.map_append]; rfl
           · rw[cK (by omega) (by omega),List.map_append,List.length_append]
             show some (AV.own 21 2 0 (0+((out.take (out.length - 1)).map spC).length+1))=_
             rw[Nat.zero_add]; rfl
    ·
     refine⟨_,rfl,rfl,(ao rfl (aG rfl (gY rfl jI rfl (c:=.s (.int .i64 (out[out.length - 1]'(by omega)).1)) (iD (c:=2) (k:=out.length - 1) (enc:=spC) (by omega) (by omega) 0)) (aF (aH 0 [14] (by kernel_rfl) ⟨?_,?_,trivial⟩))))⟩
     ·
      refine⟨_,rfl,rfl,(ao rfl (cT hf rfl rfl rfl aS rfl rfl rfl rfl (l2 rfl) ?_))⟩
      refine aF (aH 5 [14] (by kernel_rfl) ⟨?_,?_,trivial⟩)
      ·
       refine⟨_,rfl,rfl,(ao rfl (aZ hf rfl aS rfl rfl rfl (.inl rfl) (by first | rfl | (simp only[List.length_map,List.length_nil]; omega) | simp) rfl (cV (l:=out) (j:=out.length - 1) rfl (by omega) (by omega) (by omega)) (by first | (simp only[maxLen,List.length_map,List.length_append,List.length_cons,List.length_nil]; omega) | (simp [maxLen] <;> omega)) (by first | (simp only[List.length_map,List.length_append,List.length_cons,List.length_nil]; omega) | (simp <;> omega)) ?_))⟩
       refine aU (cM [26,32,34] rfl) (aF (aH 14 [] (by kernel_rfl) ⟨?_,trivial⟩))
       ·
        refine⟨_,rfl,rfl,(ao rfl (aG rfl (bO rfl eA dF (l3 rfl) rfl) (aF (aH 15 [] (by kernel_rfl) ⟨?_,trivial⟩))))⟩
        ·
         refine⟨_,rfl,rfl,(ao rfl (aJ hf rfl (aP aS rfl rfl rfl rfl (l2 rfl)) (aF (aH 16 [] (by kernel_rfl) ⟨?_,trivial⟩))))⟩
         ·
          refine⟨_,rfl,rfl,(ao rfl (aZ hf rfl aS rfl rfl rfl (.inl rfl) (by first | rfl | (simp only[List.length_map,List.length_nil]; omega) | simp) rfl (by first | rfl | simp [dJ,bG]) (by first | (simp only[maxLen,List.length_map,List.length_append,List.length_cons,List.length_nil]; omega) | (simp [maxLen] <;> omega)) (by first | (simp only[List.length_map,List.length_append,List.length_cons,List.length_nil]; omega) | (simp <;> omega)) ?_))⟩
          refine aU (cM [37] rfl) (aF (aH 17 [] (by kernel_rfl) ⟨?_,trivial⟩))
          ·
           refine⟨_,rfl,rfl,(ao rfl (aE aA 1 rfl (aF (bS (by kernel_rfl) ?_))))⟩
           refine hK5 _ (aI ?_)
           refine⟨21,(dH out s).map spC,by decide,?_,?_,rfl⟩
           · rw[cK (by omega) (by omega),List.map_append]; rfl
           · rw[cK (by omega) (by omega),List.map_append,List.length_append]
             show some (AV.own 21 2 0 (0+((out.take (out.length - 1)).map spC).length+1))=_
             rw[Nat.zero_add]; rfl
      ·
       refine⟨_,rfl,rfl,(ao rfl (aG rfl (bO rfl eA dF (l3 rfl) rfl) (aF (aH 5 [15] (by kernel_rfl) ⟨?_,?_,trivial⟩))))⟩
       ·
        refine⟨_,rfl,rfl,(ao rfl (aZ hf rfl aS rfl rfl rfl (.inl rfl) (by first | rfl | (simp only[List.length_map,List.length_nil]; omega) | simp) rfl (cV (l:=out) (j:=out.length - 1) rfl (by omega) (by omega) (by omega)) (by first | (simp only[maxLen,List.length_map,List.length_append,List.length_cons,List.length_nil]; omega) | (simp [maxLen] <;> omega)) (by first | (simp only[List.length_map,List.length_append,List.length_cons,List.length_nil]; omega) | (simp <;> omega)) ?_))⟩
        refine aU (cM [26,35] rfl) (aF (aH 15 [] (by kernel_rfl) ⟨?_,trivial⟩))
        ·
         refine⟨_,rfl,rfl,(ao rfl (aJ hf rfl (aP aS rfl rfl rfl rfl (l2 rfl)) (aF (aH 16 [] (by kernel_rfl) ⟨?_,trivial⟩))))⟩
         ·
          refine⟨_,rfl,rfl,(ao rfl (aZ hf rfl aS rfl rfl rfl (.inl rfl) (by first | rfl | (simp only[List.length_map,List.length_nil]; omega) | simp) rfl (by first | rfl | simp [dJ,bG]) (by first | (simp only[maxLen,List.length_map,List.length_append,List.length_cons,List.length_nil]; omega) | (simp [maxLen] <;> omega)) (by first | (simp only[List.length_map,List.length_append,List.length_cons,List.length_nil]; omega) | (simp <;> omega)) ?_))⟩
          refine aU (cM [37] rfl) (aF (aH 17 [] (by kernel_rfl) ⟨?_,trivial⟩))
          ·
           refine⟨_,rfl,rfl,(ao rfl (aE aA 1 rfl (aF (bS (by kernel_rfl) ?_))))⟩
           refine hK5 _ (aI ?_)
           refine⟨21,(dH out s).map spC,by decide,?_,?_,rfl⟩
           · rw[cK (by omega) (by omega),List.map_append]; rfl
           · rw[cK (by omega) (by omega),List.map_append,List.length_append]
             show some (AV.own 21 2 0 (0+((out.take (out.length - 1)).map spC).length+1))=_
             rw[Nat.zero_add]; rfl
       ·
        refine⟨_,rfl,rfl,(ao rfl (aJ hf rfl (aP aS rfl rfl rfl rfl (l2 rfl)) (aF (aH 5 [] (by kernel_rfl) ⟨?_,trivial⟩))))⟩
        ·
         refine⟨_,rfl,rfl,(ao rfl (aZ hf rfl aS rfl rfl rfl (.inl rfl) (by first | rfl | (simp only[List.length_map,List.length_nil]; omega) | simp) rfl (cV (l:=out) (j:=out.length - 1) rfl (by omega) (by omega) (by omega)) (by first | (simp only[maxLen,List.length_map,List.length_append,List.length_cons,List.length_nil]; omega) | (simp [maxLen] <;> omega)) (by first | (simp only[List.length_map,List.length_append,List.length_cons,List.length_nil]; omega) | (simp <;> omega)) ?_))⟩
         refine aU (cM [26,36] rfl) (aF (aH 16 [] (by kernel_rfl) ⟨?_,trivial⟩))
         ·
          refine⟨_,rfl,rfl,(ao rfl (aZ hf rfl aS rfl rfl rfl (.inl rfl) (by first | rfl | (simp only[List.length_map,List.length_nil]; omega) | simp) rfl (by first | rfl | simp [dJ,bG]) (by first | (simp only[maxLen,List.length_map,List.length_append,List.length_cons,List.length_nil]; omega) | (simp [maxLen] <;> omega)) (by first | (simp only[List.length_map,List.length_append,List.length_cons,List.length_nil]; omega) | (simp <;> omega)) ?_))⟩
          refine aU (cM [37] rfl) (aF (aH 17 [] (by kernel_rfl) ⟨?_,trivial⟩))
          ·
           refine⟨_,rfl,rfl,(ao rfl (aE aA 1 rfl (aF (bS (by kernel_rfl) ?_))))⟩
           refine hK5 _ (aI ?_)
           refine⟨21,(dH out s).map spC,by decide,?_,?_,rfl⟩
           · rw[cK (by omega) (by omega),List.map_append]; rfl
           · rw[cK (by omega) (by omega),List.map_append,List.length_append]
             show some (AV.own 21 2 0 (0+((out.take (out.length - 1)).map spC).length+1))=_
             rw[Nat.zero_add]; rfl
     ·
      refine⟨_,rfl,rfl,(ao rfl (aG rfl (bO rfl eA dF (l3 rfl) rfl) (aF (aH 0 [15] (by kernel_rfl) ⟨?_,?_,trivial⟩))))⟩
      ·
       refine⟨_,rfl,rfl,(ao rfl (cT hf rfl rfl rfl aS rfl rfl rfl rfl (l2 rfl) ?_))⟩
       refine aF (aH 5 [15] (by kernel_rfl) ⟨?_,?_,trivial⟩)
       ·
        refine⟨_,rfl,rfl,(ao rfl (aZ hf rfl aS rfl rfl rfl (.inl rfl) (by first | rfl | (simp only[List.length_map,List.length_nil]; omega) | simp) rfl (cV (l:=out) (j:=out.length - 1) rfl (by omega) (by omega) (by omega)) (by first | (simp only[maxLen,List.length_map,List.length_append,List.length_cons,List.length_nil]; omega) | (simp [maxLen] <;> omega)) (by first | (simp only[List.length_map,List.length_append,List.length_cons,List.length_nil]; omega) | (simp <;> omega)) ?_))⟩
        refine aU (cM [26,35] rfl) (aF (aH 15 [] (by kernel_rfl) ⟨?_,trivial⟩))
        ·
         refine⟨_,rfl,rfl,(ao rfl (aJ hf rfl (aP aS rfl rfl rfl rfl (l2 rfl)) (aF (aH 16 [] (by kernel_rfl) ⟨?_,trivial⟩))))⟩
         ·
          refine⟨_,rfl,rfl,(ao rfl (aZ hf rfl aS rfl rfl rfl (.inl rfl) (by first | rfl | (simp only[List.length_map,List.length_nil]; omega) | simp) rfl (by first | rfl | simp [dJ,bG]) (by first | (simp only[maxLen,List.length_map,List.length_append,List.length_cons,List.length_nil]; omega) | (simp [maxLen] <;> omega)) (by first | (simp only[List.length_map,List.length_append,List.length_cons,List.length_nil]; omega) | (simp <;> omega)) ?_))⟩
          refine aU (cM [37] rfl) (aF (aH 17 [] (by kernel_rfl) ⟨?_,trivial⟩))
          ·
           refine⟨_,rfl,rfl,(ao rfl (aE aA 1 rfl (aF (bS (by kernel_rfl) ?_))))⟩
           refine hK5 _ (aI ?_)
           refine⟨21,(dH out s).map spC,by decide,?_,?_,rfl⟩
           · rw[cK (by omega) (by omega),List.map_append]; rfl
           · rw[cK (by omega) (by omega),List.map_append,List.length_append]
             show some (AV.own 21 2 0 (0+((out.take (out.length - 1)).map spC).length+1))=_
             rw[Nat.zero_add]; rfl
       ·
        refine⟨_,rfl,rfl,(ao rfl (aJ hf rfl (aP aS rfl rfl rfl rfl (l2 rfl)) (aF (aH 5 [] (by kernel_rfl) ⟨?_,trivial⟩))))⟩
        ·
         refine⟨_,rfl,rfl,(ao rfl (aZ hf rfl aS rfl rfl rfl (.inl rfl) (by first | rfl | (simp only[List.length_map,List.length_nil]; omega) | simp) rfl (cV (l:=out) (j:=out.length - 1) rfl (by omega) (by omega) (by omega)) (by first | (simp only[maxLen,List.length_map,List.length_append,List.length_cons,List.length_nil]; omega) | (simp [maxLen] <;> omega)) (by first | (simp only[List.length_map,List.length_append,List.length_cons,List.length_nil]; omega) | (simp <;> omega)) ?_))⟩
         refine aU (cM [26,36] rfl) (aF (aH 16 [] (by kernel_rfl) ⟨?_,trivial⟩))
         ·
          refine⟨_,rfl,rfl,(ao rfl (aZ hf rfl aS rfl rfl rfl (.inl rfl) (by first | rfl | (simp only[List.length_map,List.length_nil]; omega) | simp) rfl (by first | rfl | simp [dJ,bG]) (by first | (simp only[maxLen,List.length_map,List.length_append,List.length_cons,List.length_nil]; omega) | (simp [maxLen] <;> omega)) (by first | (simp only[List.length_map,List.length_append,List.length_cons,List.length_nil]; omega) | (simp <;> omega)) ?_))⟩
          refine aU (cM [37] rfl) (aF (aH 17 [] (by kernel_rfl) ⟨?_,trivial⟩))
          ·
           refine⟨_,rfl,rfl,(ao rfl (aE aA 1 rfl (aF (bS (by kernel_rfl) ?_))))⟩
           refine hK5 _ (aI ?_)
           refine⟨21,(dH out s).map spC,by decide,?_,?_,rfl⟩
           · rw[cK (by omega) (by omega),List.map_append]; rfl
           · rw[cK (by omega) (by omega),List.map_append,List.length_append]
             show some (AV.own 21 2 0 (0+((out.take (out.length - 1)).map spC).length+1))=_
             rw[Nat.zero_add]; rfl
      ·
       refine⟨_,rfl,rfl,(ao rfl (aJ hf rfl (aP aS rfl rfl rfl rfl (l2 rfl)) (aF (aH 0 [] (by kernel_rfl) ⟨?_,trivial⟩))))⟩
       ·
        refine⟨_,rfl,rfl,(ao rfl (cT hf rfl rfl rfl aS rfl rfl rfl rfl (l2 rfl) ?_))⟩
        refine aF (aH 5 [] (by kernel_rfl) ⟨?_,trivial⟩)
        ·
         refine⟨_,rfl,rfl,(ao rfl (aZ hf rfl aS rfl rfl rfl (.inl rfl) (by first | rfl | (simp only[List.length_map,List.length_nil]; omega) | simp) rfl (cV (l:=out) (j:=out.length - 1) rfl (by omega) (by omega) (by omega)) (by first | (simp only[maxLen,List.length_map,List.length_append,List.length_cons,List.length_nil]; omega) | (simp [maxLen] <;> omega)) (by first | (simp only[List.length_map,List.length_append,List.length_cons,List.length_nil]; omega) | (simp <;> omega)) ?_))⟩
         refine aU (cM [26,36] rfl) (aF (aH 16 [] (by kernel_rfl) ⟨?_,trivial⟩))
         ·
          refine⟨_,rfl,rfl,(ao rfl (aZ hf rfl aS rfl rfl rfl (.inl rfl) (by first | rfl | (simp only[List.length_map,List.length_nil]; omega) | simp) rfl (by first | rfl | simp [dJ,bG]) (by first | (simp only[maxLen,List.length_map,List.length_append,List.length_cons,List.length_nil]; omega) | (simp [maxLen] <;> omega)) (by first | (simp only[List.length_map,List.length_append,List.length_cons,List.length_nil]; omega) | (simp <;> omega)) ?_))⟩
          refine aU (cM [37] rfl) (aF (aH 17 [] (by kernel_rfl) ⟨?_,trivial⟩))
          ·
           refine⟨_,rfl,rfl,(ao rfl (aE aA 1 rfl (aF (bS (by kernel_rfl) ?_))))⟩
           refine hK5 _ (aI ?_)
           refine⟨21,(dH out s).map spC,by decide,?_,?_,rfl⟩
           · rw[cK (by omega) (by omega),List.map_append]; rfl
           · rw[cK (by omega) (by omega),List.map_append,List.length_append]
             show some (AV.own 21 2 0 (0+((out.take (out.length - 1)).map spC).length+1))=_
             rw[Nat.zero_add]; rfl
  ·
   simp only[bs] at hc2
   refine aL (hK3 _ (aC (fun K6 hK6=>(aB (aE aA 2 rfl (aJ hf rfl (aP aS rfl rfl rfl rfl (l2 rfl)) (aZ hf rfl aS rfl rfl rfl (.inl rfl) (by first | rfl | (simp only[List.length_map,List.length_nil]; omega) | simp) rfl (by first | rfl | simp [dJ,bG]) (by first | (simp only[maxLen,List.length_map,List.length_append,List.length_cons,List.length_nil]; omega) | (simp [maxLen] <;> omega)) (by first | (simp only[List.length_map,List.length_append,List.length_cons,List.length_nil]; omega) | (simp <;> omega)) ?_)))))))
   refine aU (cM [41] rfl) (aE aA 1 rfl (aD (hK6 _ (aI ?_))))
   refine⟨G0,(dH out s).map spC,by decide,?_,?_,rfl⟩
   · first | (rw[aN0 (by omega) (by omega),List.map_append]; rfl) | (obtain rfl:out=[]:=List.eq_nil_of_length_eq_zero (by omega); rfl)
   · show some (AV.own G0 2 0 (n+1))=_
     (rw[aN0 (by omega) (by omega),hn,List.length_map,List.length_append]; rfl)
 ·
  simp only[bs] at hg1
  refine aT aA 10 rfl (cY [0,3,5,20] rfl rfl rfl (hK4 _ (bT rfl (aL (hK3 _ (aC (fun K7 hK7=>(aB (aE aA 2 rfl (aJ hf rfl (aP aS rfl rfl rfl rfl (l2 rfl)) (aZ hf rfl aS rfl rfl rfl (.inl rfl) (by first | rfl | (simp only[List.length_map,List.length_nil]; omega) | simp) rfl (by first | rfl | simp [dJ,bG]) (by first | (simp only[maxLen,List.length_map,List.length_append,List.length_cons,List.length_nil]; omega) | (simp [maxLen] <;> omega)) (by first | (simp only[List.length_map,List.length_append,List.length_cons,List.length_nil]; omega) | (simp <;> omega)) ?_)))))))))))
  refine aU (cM [41] rfl) (aE aA 1 rfl (aD (hK7 _ (aI ?_))))
  refine⟨G0,(dH out s).map spC,by decide,?_,?_,rfl⟩
  · first | (rw[aN0 (by omega) (by omega),List.map_append]; rfl) | (obtain rfl:out=[]:=List.eq_nil_of_length_eq_zero (by omega); rfl)
  · show some (AV.own G0 2 0 (n+1))=_
    (obtain rfl:out=[]:=List.eq_nil_of_length_eq_zero (by omega); rw[hn]; rfl)
end Go.Proofs.YtpkanhklapfajaaGreat
set_option linter.unusedVariables false
set_option linter.unusedSimpArgs false
namespace Go.Proofs.YtpkanhklapfajaaGreat
open Go Go.Abs
theorem aAd (l:List Sp) (hl:l.length≤100000000000) :Den Tryz.prog 100 [.sl 2 (l.map spC)]  (·=.sl 2 (dY l |>.map spC)):=by
 have hel:=yD l
 refine aR Tryz.func100 rfl (Nat.le_of_ble_eq_true rfl) (fun w0 A hf=>(aC (fun K1 hK1=>(aB (aG rfl (bD) (aD (hK1 _ (aC (fun K2 hK2=>(aB (aE aA 1 rfl (aJ hf rfl (aO rfl rfl aBf rfl (aKh _ (by omega))) (aE aA 1 rfl (aD (hK2 _ ?_)))))))))))))))
 refine aC (fun K3 hK3=>(aB (kW hf 2 rfl rfl rfl (aD (hK3 _ (aC (fun K4 hK4=>(aC (fun K5 hK5=>(aB (aE aA 1 rfl (aD (hK5 _ (aM (bM (ι:=Nat×List Sp) (fun(⟨k,out⟩:Nat×List Sp)=>⟨34,[(0,.sl 2 (l.map spC)),(3,.sl 1 ((fM l).map aHi)),(4,.own 4 2 0 out.length),(5,.s (.int .i64 (k:Nat)))],[(4,.buf 2 (out.map spC))]⟩) (fun(⟨k,out⟩:Nat×List Sp)=>fK (dR l) [] (fM l)=fK (dR l) out (((fM l)).drop k)∧out.length≤k∧k≤(fM l).length) (fun(⟨k,out⟩:Nat×List Sp)=>(fM l).length - k) (0,[]) ?_ ?_ ?_)))))))))))))))
 · exact⟨rfl,Nat.le_refl _,Nat.zero_le _⟩
 · exact cN rfl
 ·
  rintro ⟨k,out⟩ hC
  obtain ⟨hI,h1,h2⟩:=hC
  have hgl:=fun s=>aDz out s
  refine aC (fun K6 hK6=>(aC (fun K7 hK7=>(aB (aE aA 1 rfl ?_)))))
  refine aG rfl (bK rfl rfl (by omega) (by omega)) ?_
  refine aE aA 3 rfl (aD (hK7 _ (aK rfl (fun hc1=>?_) (fun hc1=>?_))))
  ·
   simp only[bs] at hc1
   refine aL (hK6 _ (aC (fun K8 hK8=>(aM (aC (fun K9 hK9=>(aB (aE aA 3 rfl ?_))))))))
   refine aG rfl (aY rfl rfl gJ cD (by first | exact ixm (by omega) | assumption | exact⟨by decide,rfl⟩)) ?_
   refine aE aA 1 rfl (aJ hf rfl (aO rfl rfl sP rfl (sC _ _ (by omega))) (aD (hK9 _ (aK rfl (fun hc2=>?_) (fun hc2=>?_)))))
   ·
    refine fO hf (L:=#[true,true,true,true,true,true,true,true,true,true,true,false,false]) 11 2 bF (by kernel_rfl) rfl (by kernel_rfl) rfl ?_
    refine aT aA 3 rfl ?_
    refine bI [(22,_),(23,_)] rfl rfl ⟨⟨rfl,rfl⟩,⟨rfl,rfl⟩,trivial⟩ rfl (aY rfl rfl gJ cD (by first | exact ixm (by omega) | assumption | exact⟨by decide,rfl⟩)) ?_
    refine aT aA 3 rfl ?_
    refine bI [(27,_)] rfl rfl ⟨⟨rfl,rfl⟩,trivial⟩ rfl (bK rfl rfl (by omega) (by omega)) ?_
    refine bI [(26,_),(28,_)] rfl rfl ⟨⟨rfl,rfl⟩,⟨rfl,rfl⟩,trivial⟩ rfl (aY rfl rfl gJ cD (iN (k:=k+1) (by omega) (by omega))) (aT aA 1 rfl (bI [(25,_),(30,_)] rfl rfl ⟨⟨rfl,rfl⟩,⟨rfl,rfl⟩,trivial⟩ rfl (bO rfl eA dF (l3 rfl) rfl) (pE [0,3,4,5,21,31] rfl rfl rfl ?_)))
    refine aH 11 [] (by kernel_rfl) ⟨?_,trivial⟩
    ·
     refine⟨_,rfl,rfl,(ao rfl (aPk hf 4 rfl rfl rfl rfl rfl rfl aBe (aJ9 out ((fM l)[k],(fM l)[k+1]) _ rfl (by omega)) ?_))⟩
     rintro _ rfl
     refine aU (cM [0,3,4,5,32] rfl) (aF (aH 12 [] (by kernel_rfl) ⟨?_,trivial⟩))
     ·
      refine⟨_,rfl,rfl,(ao rfl (aE aA 1 rfl (aF (bS (by kernel_rfl) ?_))))⟩
      refine hK8 _ (aB (aE aA 1 rfl ?_))
      refine aG rfl (bK rfl rfl (by omega) (by omega)) ?_
      refine aE aA 1 rfl (aD ?_)
      exact⟨(k+1,dH out ((fM l)[k],(fM l)[k+1])),⟨by rw[hI,mC _ _ _ _ (by omega),if_pos (by simp_all)],by have:=hgl ((fM l)[k],(fM l)[k+1]); omega,by omega⟩,by simp only; omega,cF ⟨rfl,rfl,(by first | rfl | (show some (AV.own 4 2 0 ((dH _ _).map spC).length)=_; rw[List.length_map])),rfl,trivial⟩ rfl⟩
   ·
    refine aL (hK8 _ (aB (aE aA 1 rfl ?_)))
    refine aG rfl (bK rfl rfl (by omega) (by omega)) ?_
    refine aE aA 1 rfl (aD ?_)
    exact⟨(k+1,out),⟨by rw[hI,mC _ _ _ _ (by omega),if_neg (by simp_all)],by omega,by omega⟩,by simp only; omega,cF ⟨rfl,rfl,(by first | rfl | (show some (AV.own 4 2 0 ((dH _ _).map spC).length)=_; rw[List.length_map])),rfl,trivial⟩ rfl⟩
  ·
   simp only[bs] at hc1
   refine aX (hK4 _ (aC (fun K10 hK10=>(aB (aE aA 2 rfl (aD (hK10 _ (aI ?_))))))))
   refine⟨_,rfl,?_⟩
   refine(cJ (g:=4) rfl (by rw[List.length_map])).trans ?_
   rw[show dY l=fK (dR l) [] (fM l) from rfl,hI,aAk _ _ _ _ (by omega)]
theorem aAe (a b:List Sp) (ha:a.length≤10000000000) (hb0:b.length≤10000000000) :Den Tryz.prog 70 [.sl 2 (a.map spC),.sl 2 (b.map spC)]  (·=.sl 2 (sU a b |>.map spC)):=by
 have hel:=yD (a++b)
 rw[List.length_append] at hel
 refine aR Tryz.func70 rfl (Nat.le_of_ble_eq_true rfl) (fun w0 A hf=>(aC (fun K1 hK1=>(aB (aG rfl (bD) (aD (hK1 _ (aC (fun K2 hK2=>(aB (cT hf rfl rfl rfl aS rfl rfl rfl rfl (l2 rfl) ?_)))))))))))
 refine aE aA 1 rfl (aZ hf rfl aS rfl rfl rfl (.inl rfl) (by first | rfl | simp only[List.length_append,List.length_map,List.length_nil,Nat.zero_add]) rfl (by first | rfl | simp [dJ,bG]) (by first | (simp only[maxLen,List.length_map,List.length_append,List.length_cons,List.length_nil]; omega) | (simp [maxLen] <;> omega)) (by first | (simp only[List.length_map,List.length_append,List.length_cons,List.length_nil]; omega) | (simp <;> omega)) ?_)
 refine aU (cM [0,1,10] rfl) (aE aA 1 rfl (aZ hf rfl aS rfl rfl rfl (.inl rfl) (by first | rfl | simp only[List.length_append,List.length_map,List.length_nil,Nat.zero_add]) rfl (by first | rfl | simp [dJ,bG]) (by first | (simp only[maxLen,List.length_map,List.length_append,List.length_cons,List.length_nil]; omega) | (simp [maxLen] <;> omega)) (by first | (simp only[List.length_map,List.length_append,List.length_cons,List.length_nil]; omega) | (simp <;> omega)) ?_))
 refine aU (cM [0,1,12] rfl) ?_
 have hab2:(a++b).length=a.length+b.length:=List.length_append
 refine aU (mT (sl':=[(12,.sl 2 ((a++b).map spC)),(0,_),(1,_)]) ⟨⟨_,rfl,(lG (g:=8) rfl (by simp only[List.length_append,List.length_map,List.length_nil])).trans (by rw[List.map_append]; rfl)⟩,⟨_,rfl,rfl⟩,⟨_,rfl,rfl⟩,trivial⟩) ?_
 refine aJ hf rfl (aO rfl rfl aBf rfl (aKh _ (by omega))) (aE aA 1 rfl (aD (hK2 _ (aC (fun K3 hK3=>(aB (kW hf 2 rfl rfl rfl (aD (hK3 _ (aC (fun K4 hK4=>(aC (fun K5 hK5=>(aB (aE aA 1 rfl ?_)))))))))))))))
 refine aD (hK5 _ (aM (bM (ι:=Nat×List Sp) (fun(⟨k,out⟩:Nat×List Sp)=>⟨48,[(0,.sl 2 (a.map spC)),(1,.sl 2 (b.map spC)),(5,.sl 1 ((fM (a++b)).map aHi)),(6,.own 6 2 0 out.length),(7,.s (.int .i64 (k:Nat)))],[(6,.buf 2 (out.map spC))]⟩) (fun(⟨k,out⟩:Nat×List Sp)=>fK (fun t=>dR a t&&dR b t) [] (fM (a++b))=fK (fun t=>dR a t&&dR b t) out (((fM (a++b))).drop k)∧out.length≤k∧k≤(fM (a++b)).length) (fun(⟨k,out⟩:Nat×List Sp)=>(fM (a++b)).length - k) (0,[]) ?_ ?_ ?_)))
 · exact⟨rfl,Nat.le_refl _,Nat.zero_le _⟩
 · exact cN rfl
 ·
  rintro ⟨k,out⟩ hC
  obtain ⟨hI,h1,h2⟩:=hC
  have hgl:=fun s=>aDz out s
  refine aC (fun K6 hK6=>(aC (fun K7 hK7=>(aB (aE aA 1 rfl ?_)))))
  refine aG rfl (bK rfl rfl (by omega) (by omega)) ?_
  refine aE aA 3 rfl (aD (hK7 _ (aK rfl (fun hc1=>?_) (fun hc1=>?_))))
  ·
   simp only[bs] at hc1
   refine aL (hK6 _ (aC (fun K8 hK8=>(aM (aC (fun K9 hK9=>(aB (aE aA 3 rfl ?_))))))))
   refine aG rfl (aY rfl rfl gJ cD (by first | exact ixm (by omega) | assumption | exact⟨by decide,rfl⟩)) ?_
   refine aE aA 1 rfl (aJ hf rfl (aO rfl rfl sP rfl (sC _ _ (by omega))) (aE aA 1 rfl (aW rfl rfl rfl (fun hg2=>?_) (fun hg2=>?_))))
   ·
    refine aG rfl (fB rfl) (aE aA 2 rfl (bE rfl rfl rfl ?_))
    refine aG rfl (aY rfl rfl gJ cD (by first | exact ixm (by omega) | assumption | exact⟨by decide,rfl⟩)) ?_
    refine aE aA 1 rfl (bE rfl rfl rfl (aJ hf rfl (aO rfl rfl sP rfl (sC _ _ (by omega))) (aE aA 1 rfl (aD (hK9 _ (aK rfl (fun hc3=>?_) (fun hc3=>?_)))))))
    ·
     refine fO hf (L:=#[true,true,true,true,true,true,true,true,true,true,true,false,false]) 11 2 bF (by kernel_rfl) rfl (by kernel_rfl) rfl ?_
     refine aT aA 3 rfl ?_
     refine bI [(36,_),(37,_)] rfl rfl ⟨⟨rfl,rfl⟩,⟨rfl,rfl⟩,trivial⟩ rfl (aY rfl rfl gJ cD (by first | exact ixm (by omega) | assumption | exact⟨by decide,rfl⟩)) ?_
     refine aT aA 3 rfl ?_
     refine bI [(41,_)] rfl rfl ⟨⟨rfl,rfl⟩,trivial⟩ rfl (bK rfl rfl (by omega) (by omega)) ?_
     refine bI [(40,_),(42,_)] rfl rfl ⟨⟨rfl,rfl⟩,⟨rfl,rfl⟩,trivial⟩ rfl (aY rfl rfl gJ cD (iN (k:=k+1) (by omega) (by omega))) (aT aA 1 rfl (bI [(39,_),(44,_)] rfl rfl ⟨⟨rfl,rfl⟩,⟨rfl,rfl⟩,trivial⟩ rfl (bO rfl eA dF (l3 rfl) rfl) (pE [0,1,5,6,7,35,45] rfl rfl rfl ?_)))
     refine aH 11 [] (by kernel_rfl) ⟨?_,trivial⟩
     ·
      refine⟨_,rfl,rfl,(ao rfl (aPk hf 6 rfl rfl rfl rfl rfl rfl aBe (aJ9 out ((fM (a++b))[k],(fM (a++b))[k+1]) _ rfl (by omega)) ?_))⟩
      rintro _ rfl
      refine aU (cM [0,1,5,6,7,46] rfl) (aF (aH 12 [] (by kernel_rfl) ⟨?_,trivial⟩))
      ·
       refine⟨_,rfl,rfl,(ao rfl (aE aA 1 rfl (aF (bS (by kernel_rfl) ?_))))⟩
       refine hK8 _ (aB (aE aA 1 rfl ?_))
       refine aG rfl (bK rfl rfl (by omega) (by omega)) ?_
       refine aE aA 1 rfl (aD ?_)
       exact⟨(k+1,dH out ((fM (a++b))[k],(fM (a++b))[k+1])),⟨by rw[hI,mC _ _ _ _ (by omega),if_pos (by simp_all)],by have:=hgl ((fM (a++b))[k],(fM (a++b))[k+1]); omega,by omega⟩,by simp only; omega,cF ⟨rfl,rfl,rfl,(by first | rfl | (show some (AV.own 6 2 0 ((dH _ _).map spC).length)=_; rw[List.length_map])),rfl,trivial⟩ rfl⟩
    ·
     refine aL (hK8 _ (aB (aE aA 1 rfl ?_)))
     refine aG rfl (bK rfl rfl (by omega) (by omega)) ?_
     refine aE aA 1 rfl (aD ?_)
     exact⟨(k+1,out),⟨by rw[hI,mC _ _ _ _ (by omega),if_neg (by simp_all)],by omega,by omega⟩,by simp only; omega,cF ⟨rfl,rfl,rfl,(by first | rfl | (show some (AV.own 6 2 0 ((dH _ _).map spC).length)=_; rw[List.length_map])),rfl,trivial⟩ rfl⟩
   ·
    simp only[bs] at hg2
    refine aE aA 6 rfl (aD (hK9 _ (bT rfl (aL (hK8 _ (aB (aE aA 1 rfl ?_)))))))
    refine aG rfl (bK rfl rfl (by omega) (by omega)) ?_
    refine aE aA 1 rfl (aD ?_)
    exact⟨(k+1,out),⟨by rw[hI,mC _ _ _ _ (by omega),if_neg (by simp_all)],by omega,by omega⟩,by simp only; omega,cF ⟨rfl,rfl,rfl,(by first | rfl | (show some (AV.own 6 2 0 ((dH _ _).map spC).length)=_; rw[List.length_map])),rfl,trivial⟩ rfl⟩
  ·
   simp only[bs] at hc1
   refine aX (hK4 _ (aC (fun K10 hK10=>(aB (aE aA 2 rfl (aD (hK10 _ (aI ?_))))))))
   refine⟨_,rfl,?_⟩
   refine(cJ (g:=6) rfl (by rw[List.length_map])).trans ?_
   rw[show sU a b=fK (fun t=>dR a t&&dR b t) [] (fM (a++b)) from rfl,hI,aAk _ _ _ _ (by omega)]
end Go.Proofs.YtpkanhklapfajaaGreat
set_option linter.unusedVariables false
set_option linter.unusedSimpArgs false
namespace Go.Proofs.YtpkanhklapfajaaGreat.Nm
open Go Go.Abs
theorem pairRight_den (a b:ByteArray) (h1:TS a) (h2:TS b) :Den Tryz.prog 95 [.agg [.s (.string a),.s (.string b)]]  (·=.s (.bool (cI a&&cI b))):=by
 refine aR Tryz.func95 rfl (Nat.le_of_ble_eq_true rfl) (fun w0 A hf=>(aC (fun K1 hK1=>(aB (aJ hf rfl (cE rfl rfl (lf rfl)) (aE aA 1 rfl (aD (hK1 _ (aC (fun K2 hK2=>(aB (aE aA 4 rfl (aJ hf rfl (aP jJ rfl rfl rfl rfl (l2 rfl)) (aJ hf rfl (aO rfl rfl iG rfl (all_den [a,b] ⟨by simp,by simp [h1,h2]⟩)) ?_))))))))))))))
 refine aE aA 1 rfl (aD (hK2 _ (aI ?_)))
 refine⟨_,rfl,?_⟩
 refine aQ ?_
 simp
theorem pairCmp_den (a b c d:ByteArray) :Den Tryz.prog 174 [.agg [.s (.string a),.s (.string b)],.agg [.s (.string c),.s (.string d)]]  (·=.s (.int .i64 (uY a b c d))):=by
 refine aR Tryz.func174 rfl (Nat.le_of_ble_eq_true rfl) (fun w0 A hf=>(aC (fun K1 hK1=>(aB (aJ hf rfl (cE rfl rfl (lf rfl)) (aJ hf rfl (cE rfl rfl (lf rfl)) (aE aA 1 rfl (aD (hK1 _ (aC (fun K2 hK2=>(cU hf bF (by kernel_rfl) rfl (aT aA 4 rfl (bL [(6,_),(8,_)] rfl rfl ⟨⟨rfl,rfl⟩,⟨rfl,rfl⟩,trivial⟩ rfl (aO rfl rfl qJ rfl (cmp_den _ _)) (aT aA 4 rfl ?_)))))))))))))))
 refine bL [(11,_),(13,_)] rfl rfl ⟨⟨rfl,rfl⟩,⟨rfl,rfl⟩,trivial⟩ rfl (aO rfl rfl qJ rfl (cmp_den _ _)) (bL [(9,_),(14,_)] rfl rfl ⟨⟨rfl,rfl⟩,⟨rfl,rfl⟩,trivial⟩ rfl (aP fD rfl rfl rfl rfl (l2 rfl)) (bL [(15,_)] rfl rfl ⟨⟨rfl,rfl⟩,trivial⟩ rfl (aO rfl rfl uM rfl (or_den [_,_] (by simp))) ?_))
 refine aT aA 1 rfl (cY [4] rfl rfl rfl (hK2 _ (aI ?_)))
 refine⟨_,rfl,?_⟩
 rfl
theorem pairHas_den (a b s:ByteArray) :Den Tryz.prog 182 [.agg [.s (.string a),.s (.string b)],.s (.string s)]  (·=.s (.bool (xN a b s))):=by
 refine aR Tryz.func182 rfl (Nat.le_of_ble_eq_true rfl) (fun w0 A hf=>(aC (fun K1 hK1=>(aB (aJ hf rfl (cE rfl rfl (lf rfl)) (aE aA 1 rfl (aD (hK1 _ (aC (fun K2 hK2=>(aB (aE aA 5 rfl (aW rfl rfl rfl (fun hg1=>?_) (fun hg1=>?_))))))))))))))
 ·
  simp only[bs,iP,gE,List.length_cons,List.length_nil] at hg1
  refine aG rfl (bW rfl aLh cO rfl) ?_
  refine aE aA 5 rfl (aD (hK2 _ (aI ?_)))
  refine⟨_,rfl,?_⟩
  refine aQ ?_
  unfold xN
  rw[Bool.eq_iff_iff]
  simp only[Bool.or_eq_true,decide_eq_true_eq,← toList_inj,beq_iff_eq,true_iff]
  simp_all
 ·
  simp only[bs,iP,gE,List.length_cons,List.length_nil] at hg1
  refine aE aA 5 rfl (aD (hK2 _ (aI ?_)))
  refine⟨_,rfl,?_⟩
  refine aQ ?_
  unfold xN
  rw[Bool.eq_iff_iff]
  simp only[Bool.or_eq_true,decide_eq_true_eq,← toList_inj,beq_iff_eq,true_iff]
  simp_all
end Go.Proofs.YtpkanhklapfajaaGreat.Nm
