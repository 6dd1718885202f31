import Derived.WalkKit
import Derived.WalkSpells
import Derived.WalkLawsBesides
import Derived.Deep.LoopGhost
import Derived.ChangeKeysEq
import Derived.Still
import Derived.Lib.AppendZeros
import Derived.Laws.StructEq
import Derived.OpenShut
import Derived.Scope
import Derived.Shelf.SlSortCmp.Kit1
import Derived.Shelf.SlSortCmp.InsertionK
import Derived.Lib.SlicesCompact
import Derived.ProofKit
import Derived.ChangeSame
import Derived.Carry
import Derived.SliceStrings
import Derived.ChangeMaps5
import Derived.Deep.Slices
import Derived.Test.YtijnkglkchhomaaGreatRows
import Derived.Shelf.Abstract
import Derived.Deep.RegionLaw
import Derived.Lib.Walk
import Derived.Lib.Overlaps
import Derived.Lib.AppendZerosOnto
import Derived.Laws.CopyRow
import Derived.Shelf.SlSortCmp.WholeK
import Derived.Shelf.SlSortCmp.Whole1
import Derived.Shelf.SlSortCmp.NoneTotal
import Derived.Test.YtijnkglkchhomaaGreatK1
import Derived.Test.YtijnkglkchhomaaGreatK2
set_option maxRecDepth 20000
set_option maxHeartbeats 16000000
set_option linter.unusedVariables false
set_option linter.unusedSimpArgs false
namespace Go.Abs
variable {α:Type} {enc:α→List AV} {c:α→α→Int}
-- cells of a slice,told by what stands there
theorem eD {l:List α} {k i z:Nat} {x:α} (hi:i=z) (h:l[z]?=some x) (hc:(enc x).length=k):((AM.buf k (l.map enc)).at k i 0).take k=enc x:=by
  obtain ⟨hz,rfl⟩:=List.getElem?_eq_some_iff.1 h
  exact sK hi hz hc
theorem eU {l:List α} {k i z:Nat} {x:α} (hi:i=z) (h:l[z]?=some x) (hc:(enc x).length=k):Nat.ble k ((AM.buf k (l.map enc)).at k i 0).length=true:=by
  obtain ⟨hz,rfl⟩:=List.getElem?_eq_some_iff.1 h
  exact vW hi hz hc
theorem fE {l:List α} {k i z:Nat} {v:α} {rs:List AV} (hi:i=z) (h:z<l.length) (hr:rs=enc v) (hv:(enc v).length=k) (hl:(enc l[z]).length=k):(AM.buf k (l.map enc)).store k i 0 rs=some (.buf k ((l.set z v).map enc)):=by
  subst hr
  exact iK hi h (by simp [splice,hv,hl]) (by omega)
def Srt (c:α→α→Int) (l:List α):Prop:=l.Pairwise fun x y=>c x y≤0
theorem at0 {p q:List α} {x:α}:(p++x::q)[p.length]?=some x:=by simp
theorem atQ {l p q:List α} {x:α} {z:Nat} (h:l=p++x::q) (hz:z=p.length):l[z]?=some x:=by subst h; subst hz; exact at0
theorem vQ {l p q:List α} {x y:α} {i j:Nat} (h:l=p++x::y::q) (hi:i=p.length+1) (hj:j=p.length):(l.set i x).set j y=p++y::x::q:=by
  subst h; subst hi; subst hj; simp
theorem aQc {l p q:List α} {x y:α} {i j:Nat} (h:l=p++x::y::q) (hi:i=p.length) (hj:j=p.length+1):(l.set i y).set j x=p++y::x::q:=by
  subst h; subst hi; subst hj; simp
theorem Srt.append {a b:List α} (ha:Srt c a) (hb:Srt c b) (h:∀ x∈a,∀ y∈b,c x y≤0):Srt c (a++b):=List.pairwise_append.2 ⟨ha,hb,h⟩
theorem Srt.left {a b:List α} (h:Srt c (a++b)):Srt c a:=(List.pairwise_append.1 h).1
theorem Srt.right {a b:List α} (h:Srt c (a++b)):Srt c b:=(List.pairwise_append.1 h).2.1
theorem aEi (hc:Tri c) {u v:List α} {e:α} (h:Srt c (u++v)) (hv:∀ y∈v,c e y≤0) (hu:∀ z,u.getLast?=some z→c z e≤0):Srt c (u++e::v):=by
  obtain ⟨h1,h2,h3⟩:=List.pairwise_append.1 h
  refine Srt.append h1 (List.pairwise_cons.2 ⟨hv,h2⟩) fun x hx y hy=>?_
  rcases List.mem_cons.1 hy with rfl | hy
  · rcases List.eq_nil_or_concat u with rfl | ⟨u',z,rfl⟩
    · simp at hx
    · have hz:=hu z (by simp)
      rw[List.concat_eq_append] at hx h1
      rcases List.mem_append.1 hx with hx | hx
      · exact hc.tr x z y ((List.pairwise_append.1 h1).2.2 x hx z (by simp)) hz
      · simp only[List.mem_singleton] at hx; subst hx; exact hz
  · exact h3 x hx y hy
theorem aS8 {l:List α} (h:Srt c l) (hc:Tri c) {i j:Nat} (hi:i<l.length) (hj:j<l.length) (hij:i≤j):c l[i] l[j]≤0:=by
  rcases Nat.lt_or_eq_of_le hij with e | rfl
  · exact List.pairwise_iff_getElem.1 h i j hi hj e
  · have:=hc.self l[i]; omega
theorem yC {l:List α} (h:Srt c l) (hc:Tri c) {k:Nat} (hk:k<l.length):(∀ x∈l.take (k+1),c x l[k]≤0)∧∀ x∈l.drop k,c l[k] x≤0:=by
  refine⟨fun x hx=>?_,fun x hx=>?_⟩
  · obtain ⟨i,hi,rfl⟩:=List.mem_iff_getElem.1 hx
    simp only[List.length_take] at hi
    rw[List.getElem_take]
    exact aS8 h hc _ hk (by omega)
  · obtain ⟨i,hi,rfl⟩:=List.mem_iff_getElem.1 hx
    simp only[List.length_drop] at hi
    rw[List.getElem_drop]
    exact aS8 h hc hk _ (by omega)
theorem put_srt (hc:Tri c) {s:List α} {x:α} {i:Nat} (h:Srt c s) (hi:i≤s.length) (h1:∀ h0:0<i,c (s[i - 1]'(by omega)) x≤0) (h2:∀ h0:i<s.length,c x s[i]≤0):Srt c (s.take i++x::s.drop i):=by
  refine aEi hc (by rw[List.take_append_drop]; exact h) (fun y hy=>?_) (fun z hz=>?_)
  · by_cases h0:i<s.length
    · exact hc.tr x s[i] y (h2 h0) ((yC h hc h0).2 y hy)
    · rw[List.drop_eq_nil_of_le (by omega)] at hy; simp at hy
  · rcases Nat.eq_zero_or_pos i with rfl | h0
    · simp at hz
    · have:(s.take i).getLast?=some (s[i - 1]'(by omega)):=by
        rw[List.getLast?_eq_getElem?,List.length_take,List.getElem?_take,if_pos (by omega),Nat.min_eq_left hi,List.getElem?_eq_getElem]
      rw[this] at hz; cases hz
      exact h1 h0
theorem sym_sep (hc:Tri c) {s1 s2:List α} {S K:Nat} (h1:Srt c s1) (h2:Srt c s2) (hS:S≤s1.length) (hK:K≤s2.length)
    (hA:∀ (h0:0<S) (h3:K<s2.length),c (s1[S - 1]'(by omega)) s2[K]≤0) (hB:∀ (h0:0<K) (h3:S<s1.length),c (s2[K - 1]'(by omega)) s1[S]≤0) :
    ∀ x∈s1.take S++s2.take K,∀ y∈s1.drop S++s2.drop K,c x y≤0:=by
  have e1:Srt c (s1.take S++s1.drop S):=by rw[List.take_append_drop]; exact h1
  have e2:Srt c (s2.take K++s2.drop K):=by rw[List.take_append_drop]; exact h2
  intro x hx y hy
  rcases List.mem_append.1 hx with hx | hx <;> rcases List.mem_append.1 hy with hy | hy
  · exact(List.pairwise_append.1 e1).2.2 x hx y hy
  · rcases Nat.eq_zero_or_pos S with rfl | h0
    · simp at hx
    · by_cases h3:K<s2.length
      · have q1:=(yC h1 hc (show S - 1<s1.length by omega)).1 x (by rw[show S - 1+1=S by omega]; exact hx)
        exact hc.tr _ _ _ (hc.tr _ _ _ q1 (hA h0 h3)) ((yC h2 hc h3).2 y hy)
      · rw[List.drop_eq_nil_of_le (by omega)] at hy; simp at hy
  · rcases Nat.eq_zero_or_pos K with rfl | h0
    · simp at hx
    · by_cases h3:S<s1.length
      · have q1:=(yC h2 hc (show K - 1<s2.length by omega)).1 x (by rw[show K - 1+1=K by omega]; exact hx)
        exact hc.tr _ _ _ (hc.tr _ _ _ q1 (hB h0 h3)) ((yC h1 hc h3).2 y hy)
      · rw[List.drop_eq_nil_of_le (by omega)] at hy; simp at hy
  · exact(List.pairwise_append.1 e2).2.2 x hx y hy
theorem Srt.take {l:List α} (h:Srt c l) (k:Nat):Srt c (l.take k):=Srt.left (b:=l.drop k) (by rw[List.take_append_drop]; exact h)
theorem Srt.drop {l:List α} (h:Srt c l) (k:Nat):Srt c (l.drop k):=Srt.right (a:=l.take k) (by rw[List.take_append_drop]; exact h)
theorem aDk {a b a' b':List α} (ha:a'.Perm a) (hb:b'.Perm b) (h:∀ x∈a,∀ y∈b,c x y≤0):∀ x∈a',∀ y∈b',c x y≤0 :=
  fun x hx y hy=>h x (ha.mem_iff.1 hx) y (hb.mem_iff.1 hy)
theorem uU {s1 s2 l r:List α} {S K:Nat} (hl:l.Perm (s1.take S++s2.take K)) (hr:r.Perm (s1.drop S++s2.drop K)):(l++r).Perm (s1++s2):=by
  refine(hl.append hr).trans ?_
  have e:(s1++s2).Perm ((s1.take S++s1.drop S)++(s2.take K++s2.drop K)):=by rw[List.take_append_drop,List.take_append_drop]
  refine List.Perm.trans ?_ e.symm
  rw[List.append_assoc,List.append_assoc]
  refine List.Perm.append_left _ ?_
  rw[← List.append_assoc,← List.append_assoc]
  exact List.Perm.append_right _ List.perm_append_comm
inductive Fu (c:α→α→Int) (k:Nat):List α→Prop
  | nil:Fu c k []
  | cons {d s:List α} (h:Fu c k d) (hs:Srt c s) (hl:s.length=k):Fu c k (d++s)
inductive Ch (c:α→α→Int) (k:Nat):List α→Prop
  | last {s:List α} (hs:Srt c s) (hl:s.length≤k):Ch c k s
  | cons {s r:List α} (hs:Srt c s) (hl:s.length=k) (h:Ch c k r):Ch c k (s++r)
theorem Fu.ch {k:Nat} {d:List α} (h:Fu c k d):∀ {r:List α},Ch c k r→Ch c k (d++r):=by
  induction h with
  | nil=>intro r hr; exact hr
  | cons h hs hl ih=>intro r hr; rw[List.append_assoc]; exact ih (.cons hs hl hr)
theorem Ch.split {k:Nat} {l:List α} (h:Ch c k l) (hl:k<l.length):∃ s r,l=s++r∧Srt c s∧s.length=k∧Ch c k r:=by
  cases h with
  | last hs h1=>omega
  | cons hs h1 h2=>exact⟨_,_,rfl,hs,h1,h2⟩
theorem Ch.short {k:Nat} {l:List α} (h:Ch c k l) (hl:l.length≤k):Srt c l:=by
  cases h with
  | last hs h1=>exact hs
  | @cons s r hs h1 h2 =>
    have:r=[]:=by
      rw[List.length_append] at hl
      exact List.eq_nil_of_length_eq_zero (by omega)
    rw[this,List.append_nil]; exact hs
theorem Ch.two {k:Nat} {l:List α} (h:Ch c k l) (hl:k<l.length):∃ s t r,l=s++(t++r)∧Srt c s∧s.length=k∧Srt c t∧0<t.length∧((t.length=k∧Ch c k r)∨(t.length≤k∧r=[])):=by
  obtain ⟨s,r,rfl,hs,h1,h2⟩:=h.split hl
  rw[List.length_append] at hl
  cases h2 with
  | last ht h3=>exact⟨s,r,[],by simp,hs,h1,ht,by omega,.inr ⟨h3,rfl⟩⟩
  | @cons t r' ht h3 h4 =>
    rcases Nat.eq_zero_or_pos k with rfl | h0
    · have:t=[]:=List.eq_nil_of_length_eq_zero h3
      subst this
      simp only[List.nil_append] at hl ⊢
      exact⟨s,r',[],by simp,hs,h1,(h4.short (by
        exfalso
        revert hl
        have:∀ l:List α,Ch c 0 l→l.length=0:=by
          intro l hl
          induction hl with
          | last hs hl=>omega
          | cons hs hl h ih=>rw[List.length_append,hl,ih]
        have:=this r' h4
        omega)),by omega,.inr ⟨by
        have:∀ l:List α,Ch c 0 l→l.length=0:=by
          intro l hl
          induction hl with
          | last hs hl=>omega
          | cons hs hl h ih=>rw[List.length_append,hl,ih]
        rw[this r' h4]; exact Nat.zero_le _,rfl⟩⟩
    · exact⟨s,t,r',rfl,hs,h1,ht,by omega,.inl ⟨h3,h4⟩⟩
end Go.Abs
namespace Go.Abs
variable {α:Type} {enc:α→List AV} {c:α→α→Int}
def swr (A u B v C:List α) (i:Nat):List α:=A++((v.take i++u.drop i)++(B++((u.take i++v.drop i)++C)))
theorem swr_len {A u B v C:List α} {i:Nat} (h:v.length=u.length):(swr A u B v C i).length=A.length+u.length+B.length+v.length+C.length:=by
  simp only[swr,List.length_append,List.length_take,List.length_drop]; omega
theorem zN {A u B v C:List α} {i:Nat} (h:v.length=u.length) (hi:i<u.length) :
    swr A u B v C i=(A++v.take i)++u[i]::((u.drop (i+1)++B++u.take i)++(v[i]'(by omega))::(v.drop (i+1)++C)):=by
  rw[swr,List.drop_eq_getElem_cons hi,List.drop_eq_getElem_cons (show i<v.length by omega)]; simp only[List.append_assoc,List.cons_append]
theorem aCn {A u B v C:List α} {i:Nat} (h:v.length=u.length) (hi:i<u.length):(swr A u B v C i)[A.length+i]?=some u[i]:=by
  rw[zN h hi]
  exact atQ rfl (by simp; omega)
theorem aCm {A u B v C:List α} {i:Nat} (h:v.length=u.length) (hi:i<u.length):(swr A u B v C i)[A.length+u.length+B.length+i]?=some (v[i]'(by omega)):=by
  rw[zN h hi]
  exact atQ (p:=(A++v.take i)++u[i]::(u.drop (i+1)++B++u.take i)) (q:=v.drop (i+1)++C) (by simp) (by simp; omega)
theorem aTd {p q:List α} {x y:α} {i:Nat} (hi:i=p.length):(p++x::q).set i y=p++y::q:=by subst hi; simp
theorem aJj {A u B v C:List α} {i:Nat} (h:v.length=u.length) (hi:i<u.length):((swr A u B v C i).set (A.length+i) (v[i]'(by omega))).set (A.length+u.length+B.length+i) u[i]=swr A u B v C (i+1):=by
  rw[zN h hi,aTd (by simp; omega)]
  rw[show (A++v.take i)++(v[i]'(by omega))::((u.drop (i+1)++B++u.take i)++(v[i]'(by omega))::(v.drop (i+1)++C))=((A++v.take i)++(v[i]'(by omega))::(u.drop (i+1)++B++u.take i))++(v[i]'(by omega))::(v.drop (i+1)++C) from by simp]
  rw[aTd (by simp; omega),swr,← List.take_append_getElem hi,← List.take_append_getElem (show i<v.length by omega)]
  simp only[List.append_assoc,List.cons_append,List.nil_append]
theorem srt_one {l:List α} (h:l.length≤1):Srt c l:=by
  match l,h with
  | [],_=>exact List.Pairwise.nil
  | [x],_=>exact List.pairwise_singleton _ _
theorem last_of {u:List α} (h:0<u.length):∃ u' z,u=u'++[z]:=by
  rcases List.eq_nil_or_concat u with rfl | ⟨u',z,rfl⟩
  · simp at h
  · exact⟨u',z,by simp⟩
theorem aU {x y:Int} (h:x=y):(some (AV.s (.int .i64 x)):Option AV)=some (AV.s (.int .i64 y)):=by rw[h]
end Go.Abs
namespace Go.Abs
variable {α:Type} {enc:α→List AV} {c:α→α→Int}
theorem aKs {u v s3 s1 s0:List α} {e:α} (huv:u++v=s1) (h:(s1++e::s3).Perm s0):((u++e::v)++s3).Perm s0:=by
  refine List.Perm.trans ?_ h
  subst huv
  rw[List.append_assoc,List.append_assoc]
  exact List.Perm.append_left u List.perm_middle.symm
theorem atM {p s1 s2 q:List α} {h:Nat} (hh:h<s2.length):(p++(s1++(s2++q)))[p.length+s1.length+h]?=some s2[h]:=by
  rw[List.getElem?_append_right (by omega),List.getElem?_append_right (by omega),List.getElem?_append_left (by omega),List.getElem?_eq_getElem (by omega)]
  congr 2; omega
theorem atL {p s1 r:List α} {h:Nat} (hh:h<s1.length):(p++(s1++r))[p.length+h]?=some s1[h]:=by
  rw[List.getElem?_append_right (by omega),List.getElem?_append_left (by omega),List.getElem?_eq_getElem (by omega)]
  congr 2; omega
theorem aJi {p s1 s2 q:List α} {S K:Nat} (h:s1.length≤S∨K=0):p++(s1++(s2++q))=p++((s1.take S++s2.take K)++((s1.drop S++s2.drop K)++q)):=by
  rcases h with h | rfl
  · rw[List.take_of_length_le h,List.drop_eq_nil_of_le h,List.nil_append,List.append_assoc,← List.append_assoc (s2.take K),List.take_append_drop]
  · rw[List.take_zero,List.drop_zero,List.append_nil,List.append_assoc,← List.append_assoc (s1.take S),List.take_append_drop]
theorem aS7 {p s1 s2 q:List α} (S K:Nat):p++(s1++(s2++q))=(p++s1.take S)++(s1.drop S++(s2.take K++(s2.drop K++q))):=by
  rw[List.append_assoc,← List.append_assoc (s1.take S),List.take_append_drop,← List.append_assoc (s2.take K),List.take_append_drop]
theorem aJm {s1 s2:List α} {S K:Nat} (h1:Srt c s1) (h2:Srt c s2) (h:S=0∨K=0):Srt c (s1.take S++s2.take K):=by
  rcases h with rfl | rfl
  · rw[List.take_zero,List.nil_append]; exact h2.take K
  · rw[List.take_zero,List.append_nil]; exact h1.take S
theorem aGv {s1 s2:List α} {S K:Nat} (h1:Srt c s1) (h2:Srt c s2) (h:s1.length≤S∨s2.length≤K):Srt c (s1.drop S++s2.drop K):=by
  rcases h with h | h
  · rw[List.drop_eq_nil_of_le h,List.nil_append]; exact h2.drop K
  · rw[List.drop_eq_nil_of_le h,List.append_nil]; exact h1.drop S
theorem put_perm {s:List α} {x:α} {i:Nat}:(s.take i++x::s.drop i).Perm (x::s):=by
  refine List.perm_middle.trans ?_
  rw[List.take_append_drop]
theorem aJ5 (hc:Tri c) {s:List α} {x:α} {i:Nat} (h:Srt c s) (hi:i≤s.length) (h1:∀ z,s[i - 1]?=some z→0<i→c z x≤0) (h2:∀ z,s[i]?=some z→c x z≤0):Srt c (s.take i++x::s.drop i) :=
  put_srt hc h hi (fun h0=>h1 _ (List.getElem?_eq_getElem (by omega)) h0) (fun h0=>h2 _ (List.getElem?_eq_getElem h0))
theorem Ch.pair {k:Nat} {l:List α} (h:Ch c k l) (h0:0<k) (hl:2*k≤l.length):∃ s t r,l=s++(t++r)∧Srt c s∧s.length=k∧Srt c t∧t.length=k∧Ch c k r:=by
  obtain ⟨s,t,r,rfl,h1,h2,h3,h4,h5⟩:=h.two (by omega)
  simp only[List.length_append] at hl
  rcases h5 with ⟨h5,h6⟩ | ⟨h5,rfl⟩
  · exact⟨s,t,r,rfl,h1,h2,h3,h5,h6⟩
  · simp only[List.length_nil] at hl
    exact⟨s,t,[],rfl,h1,h2,h3,by omega,.last List.Pairwise.nil (by simp)⟩
theorem Ch.rest {k:Nat} {l:List α} (h:Ch c k l) (hl:k<l.length) (hl2:l.length<2*k):∃ s t,l=s++t∧Srt c s∧s.length=k∧Srt c t∧0<t.length:=by
  obtain ⟨s,t,r,rfl,h1,h2,h3,h4,h5⟩:=h.two hl
  simp only[List.length_append] at hl2
  rcases h5 with ⟨h5,h6⟩ | ⟨h5,rfl⟩
  · omega
  · exact⟨s,t,by simp,h1,h2,h3,h4⟩
end Go.Abs
namespace Go.Abs
abbrev Sp:=Int×Int
def aK2 (l:List Sp) (t:Int):Bool:=l.any fun s=>decide (s.1≤t)&&decide (t<s.2)
theorem aK1 (a b:List Sp) (t:Int):aK2 (a++b) t=(aK2 a t||aK2 b t):=by simp [aK2]
theorem aRw (s:Sp) (l:List Sp) (t:Int):aK2 (s::l) t=((decide (s.1≤t)&&decide (t<s.2))||aK2 l t):=rfl
theorem aK0 (t:Int):aK2 [] t=false:=rfl
end Go.Abs
set_option linter.unusedVariables false
namespace Go.Abs
open Go
def spC (s:Sp):List AV:=[.s (.int .i64 s.1),.s (.int .i64 s.2)]
def lX (a b:Int):Int:=if a<b then -1 else if b<a then 1 else 0
section
variable {P:Program}
theorem aUf {t:TypeId} (ht:P.underlying t=some .bool) {a b:Bool} (h:a=b):qZ P .eql t (.bool a) (.bool b)=some (.bool true):=by
  subst h; simp [qZ,ht]
theorem iE {t:TypeId} {k:IntKind} {a b:Int} (h:a=b):qZ P .eql t (.int k a) (.int k b)=some (.bool true):=by
  subst h; simp [qZ,xP]
end
end Go.Abs
set_option linter.unusedSimpArgs false
namespace Go.Abs
end Go.Abs
set_option linter.unusedVariables false
set_option linter.unusedSimpArgs false
namespace Go.Abs
open Go
end Go.Abs
set_option linter.unusedVariables false
set_option linter.unusedSimpArgs false
namespace Go.Abs
abbrev Pr:=ByteArray×ByteArray
abbrev En:=Pr×Sp
def prC (p:Pr):List AV:=[.s (.string p.1),.s (.string p.2)]
def enC (e:En):List AV:=[.s (.string e.1.1),.s (.string e.1.2),.s (.int .i64 e.2.1),.s (.int .i64 e.2.2)]
theorem cmpI_tri:Tri lX:=by
  refine⟨fun x y=>?_,fun x y=>?_,fun x y z=>?_⟩ <;> unfold lX <;> (repeat' split) <;> omega
theorem cmpB_tri:Tri eA:=⟨qY,oL,fun _ _ _=>aGn⟩
def sJ (p q:Pr):Int:=vV p.1 p.2 q.1 q.2
theorem aG5:sJ=uS (fun p q:Pr=>eA p.1 q.1) (fun p q=>eA p.2 q.2):=by
  funext p q
  simp only[sJ,vV,orI,uS]
  (repeat' split) <;> simp_all
theorem pairC_tri:Tri sJ:=by
  rw[aG5]
  exact(cmpB_tri.comap Prod.fst).lex (cmpB_tri.comap Prod.snd)
theorem aD6 {p q:Pr}:sJ p q=0↔p=q:=by
  rw[aG5,sN,lY,lY,Prod.ext_iff]
def mF (a b:En):Int:=orI [sJ a.1 b.1,lX a.2.1 b.2.1]
theorem uN:mF=uS (fun a b:En=>sJ a.1 b.1) (fun a b=>lX a.2.1 b.2.1):=by
  funext p q
  simp only[mF,orI,uS]
  (repeat' split) <;> simp_all
theorem ordE_tri:Tri mF:=by
  rw[uN]
  exact(pairC_tri.comap Prod.fst).lex (cmpI_tri.comap fun a:En=>a.2.1)
def eS (p:Pr) (e:En):Bool:=decide (e.1=p)&&decide (e.2.2=1099511627776)
def onB (l:List En) (p:Pr):Bool:=l.any (eS p)
theorem aIa {l:List En} {p:Pr}:onB l p=true↔∃ e∈l,e.1=p∧e.2.2=1099511627776:=by simp [onB,eS]
def rH:List En→En→List En
  | [],e=>[e]
  | x::l,e=>if 0<mF x e then e::x::l else x::rH l e
theorem yV (e:En):∀ (l:List En) (k:Nat),k≤l.length→(∀ (j:Nat) (hj:j<l.length),j<k→¬ 0<mF l[j] e)→(∀ (h:k<l.length),0<mF l[k] e)→rH l e=l.take k++e::l.drop k
  | [],k,hk,_,_=>by
                          have:k=0:=by simpa using hk
                          subst this; rfl
  | x::l,0,_,_,h=>by have:=h (by simp); simp only[List.getElem_cons_zero] at this; simp [rH,this]
  | x::l,k+1,hk,h1,h2=>by
    have hx:=h1 0 (by simp) (by omega)
    simp only[List.getElem_cons_zero] at hx
    rw[rH,if_neg hx,yV e l k (by simpa using hk) (fun j hj hjk=>by have:=h1 (j+1) (by simpa using hj) (by omega); simpa using this) (fun h=>by have:=h2 (by simpa using h); simpa using this)]
    rfl
theorem aKx (e:En):∀ l:List En,(rH l e).length=l.length+1
  | []=>rfl
  | x::l=>by rw[rH]; split <;> simp [aKx e l]
theorem uT {e x:En}:∀ {l:List En},x∈rH l e↔x=e∨x∈l
  | []=>by simp [rH]
  | y::l=>by
    rw[rH]; split
    · simp
    · simp only[List.mem_cons,uT (l:=l)]
      constructor
      · rintro (h | h | h) <;> simp [h]
      · rintro (h | h | h) <;> simp [h]
def gT (l:List En) (p:Pr) (t:Int):List En:=rH l (p,(t,1099511627776))
def qG (e:En) (t:Int):List En:=if t≤e.2.1 then [] else [(e.1,(e.2.1,t))]
def jG:List En→Pr→Int→List En
  | [],_,_=>[]
  | e::l,p,t=>if eS p e=true then qG e t++l else e::jG l p t
theorem aCp (p:Pr) (t:Int):∀ (l:List En) (k:Nat) (hk:k<l.length),(∀ (j:Nat) (hj:j<l.length),j<k→eS p l[j]=false)→eS p l[k]=true→jG l p t=l.take k++(qG l[k] t++l.drop (k+1))
  | [],k,hk,_,_=>by simp at hk
  | x::l,0,_,_,h=>by simp only[List.getElem_cons_zero] at h; simp [jG,h]
  | x::l,k+1,hk,h1,h2=>by
    have hx:=h1 0 (by simp) (by omega)
    simp only[List.getElem_cons_zero] at hx
    rw[jG,if_neg (by simp [hx]),aCp p t l k (by simpa using hk) (fun j hj hjk=>by have:=h1 (j+1) (by simpa using hj) (by omega); simpa using this) (by simpa using h2)]
    rfl
def ofB (p:Pr) (e:En):Bool:=decide (e.1=p)
def nG (u:ByteArray) (e:En):Bool:=kY e.1.1 e.1.2 u
def okE (e:En):Bool:=decide (e.2.1<e.2.2)&&(dA e.1.1&&dA e.1.2)
def aKf (a b:En):Bool:=decide (mF a b<0)&&!(decide (a.1=b.1)&&decide (b.2.1<a.2.2))
def aFw (l:List En):Bool:=pO okE aKf none l
end Go.Abs
set_option linter.unusedVariables false
set_option linter.unusedSimpArgs false
namespace Go.Abs
abbrev cB:=Sp×(Int×Int)
def stC (s:cB):List AV:=[.s (.int .i64 s.1.1),.s (.int .i64 s.1.2),.s (.int .i64 s.2.1),.s (.int .i64 s.2.2)]
def jH (a b:cB):Int:=orI [lX a.1.1 b.1.1,lX a.1.2 b.1.2,lX a.2.1 b.2.1,lX a.2.2 b.2.2]
theorem aLi:jH=uS (fun a b:cB=>lX a.1.1 b.1.1) (uS (fun a b=>lX a.1.2 b.1.2) (uS (fun a b=>lX a.2.1 b.2.1) (fun a b=>lX a.2.2 b.2.2))):=by
  funext p q
  simp only[jH,orI,uS]
  (repeat' split) <;> simp_all
theorem cmpS_tri:Tri jH:=by
  rw[aLi]
  exact(cmpI_tri.comap fun a:cB=>a.1.1).lex ((cmpI_tri.comap fun a:cB=>a.1.2).lex ((cmpI_tri.comap fun a:cB=>a.2.1).lex (cmpI_tri.comap fun a:cB=>a.2.2)))
theorem rP {a b:Int}:lX a b=0↔a=b:=by unfold lX; (repeat' split) <;> omega
theorem aIu {a b:cB}:jH a b=0↔a=b:=by
  rw[aLi,sN,sN,sN,rP,rP,rP,rP,Prod.ext_iff,Prod.ext_iff,Prod.ext_iff,and_assoc]
def okS (s:cB):Bool:=decide (s.1.1<s.1.2)
def aEe (a b:cB):Bool:=decide (jH a b<0)
def zV (l:List cB):Bool:=pO okS aEe none l
theorem uH (l:List cB):zV l=true↔(∀ x∈l,okS x=true)∧l.Pairwise fun a b=>jH a b<0:=by
  rw[zV,sI (fun a b=>jH a b<0) (fun x y=>by simp [aEe]) (fun x y z _ h1 h2=>cmpS_tri.lt_tr h1 h2)]
  simp
theorem xA {α:Type} {c:α→α→Int} (hc:Tri c) (h0:∀ x y,c x y=0→x=y):∀ {a b:List α},Srt c a→Srt c b→a.Perm b→a=b
  | [],b,_,_,hp=>by have:=hp.length_eq; exact(List.eq_nil_of_length_eq_zero (by simpa using this.symm)).symm
  | x::a,[],_,_,hp=>by have:=hp.length_eq; simp at this
  | x::a,y::b,ha,hb,hp=>by
    have e:x=y:=by
      have h1:x∈y::b:=hp.mem_iff.1 (by simp)
      have h2:y∈x::a:=hp.mem_iff.2 (by simp)
      rcases List.mem_cons.1 h1 with e | h1
      · exact e
      · rcases List.mem_cons.1 h2 with e | h2
        · exact e.symm
        · have e1:=(List.pairwise_cons.1 ha).1 y h2
          have e2:=(List.pairwise_cons.1 hb).1 x h1
          have:=hc.swap x y
          exact h0 x y (by omega)
    subst e
    rw[xA hc h0 (List.pairwise_cons.1 ha).2 (List.pairwise_cons.1 hb).2 (List.Perm.cons_inv hp)]
def aIg:List cB→cB→List cB
  | [],x=>[x]
  | y::r,x=>if jH x y<0 then x::y::r else y::aIg r x
theorem aAi (x:cB):∀ l:List cB,(aIg l x).Perm (x::l)
  | []=>.refl _
  | y::l=>by
    rw[aIg]; split
    · exact .refl _
    · exact((aAi x l).cons y).trans (List.Perm.swap x y l)
theorem aKy {x:cB}:∀ {l:List cB},Srt jH l→Srt jH (aIg l x)
  | [],_=>List.pairwise_singleton _ _
  | y::l,h=>by
    obtain ⟨h1,h2⟩:=List.pairwise_cons.1 h
    rw[aIg]; split
    · rename_i h0
      refine List.pairwise_cons.2 ⟨fun z hz=>?_,h⟩
      rcases List.mem_cons.1 hz with rfl | hz
      · omega
      · exact cmpS_tri.tr x y z (by omega) (h1 z hz)
    · rename_i h0
      refine List.pairwise_cons.2 ⟨fun z hz=>?_,aKy h2⟩
      rcases List.mem_cons.1 ((aAi x l).mem_iff.1 hz) with rfl | hz
      · have:=cmpS_tri.swap z y; omega
      · exact h1 z hz
def aJn (l:List cB):List cB:=l.foldl aIg []
theorem aDh:∀ (l out:List cB),Srt jH out→Srt jH (l.foldl aIg out)∧(l.foldl aIg out).Perm (out++l)
  | [],out,h=>⟨h,by simp⟩
  | x::l,out,h=>by
    obtain ⟨h1,h2⟩:=aDh l (aIg out x) (aKy h)
    exact⟨h1,h2.trans (((aAi x out).append_right l).trans List.perm_middle.symm)⟩
theorem aQ9 (l:List cB):Srt jH (aJn l):=(aDh l [] List.Pairwise.nil).1
theorem aDi (l:List cB):(aJn l).Perm l:=(aDh l [] List.Pairwise.nil).2
theorem aTa {l t:List cB} (hp:t.Perm l) (hs:Srt jH t):t=aJn l :=
  xA cmpS_tri (fun _ _ h=>aIu.1 h) hs (aQ9 l) (hp.trans (aDi l).symm)
theorem aRa (l:List cB):(aJn l).length=l.length:=(aDi l).length_eq
def aCg:List cB→cB→List cB
  | [],s=>[s]
  | x::l,s=>if (x::l).all (fun y=>decide (0<jH y s))=true then s::x::l else x::aCg l s
theorem aCt (s:cB):∀ (l:List cB) (k:Nat),k≤l.length→(∀ (j:Nat) (hj:j<l.length),k≤j→0<jH l[j] s)→(∀ (h0:0<k) (h:k - 1<l.length),jH l[k - 1] s≤0)→aCg l s=l.take k++s::l.drop k
  | [],k,hk,_,_=>by
                          have:k=0:=by simpa using hk
                          subst this; rfl
  | x::l,0,_,h,_=>by
    rw[aCg,if_pos]
    · rfl
    · rw[List.all_eq_true]
      intro y hy
      obtain ⟨j,hj,rfl⟩:=List.mem_iff_getElem.1 hy
      simpa using h j hj (Nat.zero_le _)
  | x::l,k+1,hk,h1,h2=>by
    have hn:=h2 (by omega) (by simp at hk ⊢; omega)
    rw[aCg,if_neg]
    · rw[aCt s l k (by simpa using hk) (fun j hj hkj=>by have:=h1 (j+1) (by simpa using hj) (by omega); simpa using this) (fun h0 h=>by
        have e:(x::l)[k+1 - 1]'(by simp at hk ⊢; omega)=l[k - 1]'h:=by
          simp only[Nat.add_sub_cancel]
          obtain ⟨k',rfl⟩:∃ k',k=k'+1:=⟨k - 1,by omega⟩
          simp
        rw[e] at hn; exact hn)]
      rfl
    · rw[List.all_eq_true]
      intro hall
      have:=hall _ (List.getElem_mem (show k+1 - 1<(x::l).length by simp at hk ⊢; omega))
      simp only[decide_eq_true_eq] at this
      omega
theorem iL (s:cB):∀ l:List cB,(aCg l s).Perm (s::l)
  | []=>.refl _
  | x::l=>by
    rw[aCg]; split
    · exact .refl _
    · exact((iL s l).cons x).trans (List.Perm.swap s x l)
theorem aEk (l:List cB) (s:cB):(aCg l s).length=l.length+1:=by simpa using (iL s l).length_eq
theorem qS {s:cB}:∀ {l:List cB},Srt jH l→Srt jH (aCg l s)
  | [],_=>List.pairwise_singleton _ _
  | x::l,h=>by
    obtain ⟨h1,h2⟩:=List.pairwise_cons.1 h
    rw[aCg]; split
    · rename_i h0
      rw[List.all_eq_true] at h0
      refine List.pairwise_cons.2 ⟨fun z hz=>?_,h⟩
      have:=h0 z hz
      simp only[decide_eq_true_eq] at this
      have:=cmpS_tri.swap z s; omega
    · rename_i h0
      refine List.pairwise_cons.2 ⟨fun z hz=>?_,qS h2⟩
      rcases List.mem_cons.1 ((iL s l).mem_iff.1 hz) with rfl | hz
      · -- some one of the row is not above it: so the first one is not
        have h3:∃ y∈x::l,¬ 0<jH y z:=by
          apply Classical.byContradiction
          intro hn
          exact h0 (List.all_eq_true.2 fun y hy=>by
            simp only[decide_eq_true_eq]
            apply Classical.byContradiction
            intro hh
            exact hn ⟨y,hy,hh⟩)
        obtain ⟨y,hy,hyz⟩:=h3
        rcases List.mem_cons.1 hy with rfl | hy
        · omega
        · exact cmpS_tri.tr x y z (h1 y hy) (by omega)
      · exact h1 z hz
def iU (l:List cB) (s:cB):List cB:=if s.1.2≤s.1.1 then l else aCg l s
theorem aFa (l:List cB) (s:cB):(iU l s).length≤l.length+1:=by
  unfold iU; split
  · omega
  · rw[aEk]; omega
theorem zQ {l:List cB} (h:l.Pairwise fun a b=>jH a b<0):Srt jH l:=h.imp fun h=>by omega
theorem ris_add {l:List cB} {s:cB} (h:zV l=true):zV (iU l s)=!(l.any fun y=>decide (y=s)):=by
  obtain ⟨h1,h2⟩:=(uH l).1 h
  unfold iU
  split
  · rename_i h0
    have:l.any (fun y=>decide (y=s))=false:=by
      rw[Bool.eq_false_iff]; intro ha
      obtain ⟨y,hy,e⟩:=List.any_eq_true.1 ha
      simp only[decide_eq_true_eq] at e
      subst e
      have:=h1 y hy
      simp only[okS,decide_eq_true_eq] at this; omega
    rw[this,h]; rfl
  · rename_i h0
    have hs:=qS (s:=s) (zQ h2)
    cases ha:l.any (fun y=>decide (y=s))
    · rw[Bool.not_false,uH]
      refine⟨fun x hx=>?_,?_⟩
      · rcases List.mem_cons.1 ((iL s l).mem_iff.1 hx) with rfl | hx
        · simp only[okS,decide_eq_true_eq]; omega
        · exact h1 x hx
      · have hnd:(aCg l s).Nodup:=by
          rw[(iL s l).nodup_iff]
          refine List.nodup_cons.2 ⟨fun hm=>?_,?_⟩
          · rw[Bool.eq_false_iff] at ha
            exact ha (List.any_eq_true.2 ⟨s,hm,by simp⟩)
          · exact h2.imp fun {a b} h e=>by subst e; have:=cmpS_tri.self a; omega
        refine(List.Pairwise.and hs hnd).imp fun {a b} ⟨h3,h4⟩=>?_
        rcases Int.lt_or_eq_of_le h3 with e | e
        · exact e
        · exact absurd (aIu.1 e) h4
    · rw[Bool.not_true,Bool.eq_false_iff]
      intro hr
      obtain ⟨y,hy,e⟩:=List.any_eq_true.1 ha
      simp only[decide_eq_true_eq] at e
      subst e
      have hnd:(aCg l y).Nodup:=((uH _).1 hr).2.imp fun {a b} h e=>by subst e; have:=cmpS_tri.self a; omega
      rw[(iL y l).nodup_iff] at hnd
      exact(List.nodup_cons.1 hnd).1 hy
theorem add_comm {l:List cB} {a b:cB} (h:zV l=true):iU (iU l a) b=iU (iU l b) a:=by
  have hs:=zQ ((uH l).1 h).2
  unfold iU
  split <;> split <;> try rfl
  exact xA cmpS_tri (fun _ _ h=>aIu.1 h) (qS (qS hs)) (qS (qS hs)) (((iL _ _).trans ((iL _ _).cons _)).trans ((List.Perm.swap _ _ _).trans (((iL _ _).trans ((iL _ _).cons _)).symm)))
theorem stC_eq (x y:cB):(((x.1.1 == y.1.1&&(x.1.2 == y.1.2&&true)))&&(x.2.1 == y.2.1&&(x.2.2 == y.2.2&&true)))=decide (x=y):=by
  rw[Bool.eq_iff_iff]
  simp only[Bool.and_eq_true,beq_iff_eq,and_true,decide_eq_true_eq,Prod.ext_iff]
theorem stC_eqF (x y:cB):(x.1.1 == y.1.1&&(x.1.2 == y.1.2&&(x.2.1 == y.2.1&&(x.2.2 == y.2.2&&true))))=decide (x=y):=by
  rw[Bool.eq_iff_iff]
  simp only[Bool.and_eq_true,beq_iff_eq,and_true,decide_eq_true_eq,Prod.ext_iff,and_assoc]
theorem aCu {a b:Int}:lX a b<0↔a<b:=by unfold lX; (repeat' split) <;> omega
theorem pY (a:Int):lX a a=0:=rP.2 rfl
theorem ah1 {a b:cB} (h:¬ a.1.1=b.1.1):decide (a.1.1<b.1.1)=decide (jH a b<0):=by
  have:jH a b=lX a.1.1 b.1.1:=by rw[jH,orI,if_pos (fun e=>h (rP.1 e))]
  rw[this,Bool.eq_iff_iff,decide_eq_true_eq,decide_eq_true_eq,aCu]
theorem ah2 {a b:cB} (h1:a.1.1=b.1.1) (h:¬ a.1.2=b.1.2):decide (a.1.2<b.1.2)=decide (jH a b<0):=by
  have:jH a b=lX a.1.2 b.1.2:=by rw[jH,h1,pY,orI,if_neg (by simp),orI,if_pos (fun e=>h (rP.1 e))]
  rw[this,Bool.eq_iff_iff,decide_eq_true_eq,decide_eq_true_eq,aCu]
theorem ah3 {a b:cB} (h1:a.1.1=b.1.1) (h2:a.1.2=b.1.2) (h:¬ a.2.1=b.2.1):decide (a.2.1<b.2.1)=decide (jH a b<0):=by
  have:jH a b=lX a.2.1 b.2.1:=by rw[jH,h1,h2,pY,pY,orI,if_neg (by simp),orI,if_neg (by simp),orI,if_pos (fun e=>h (rP.1 e))]
  rw[this,Bool.eq_iff_iff,decide_eq_true_eq,decide_eq_true_eq,aCu]
theorem ah4 {a b:cB} (h1:a.1.1=b.1.1) (h2:a.1.2=b.1.2) (h3:a.2.1=b.2.1):decide (a.2.2<b.2.2)=decide (jH a b<0):=by
  have:jH a b<0↔lX a.2.2 b.2.2<0:=by
    rw[jH,h1,h2,h3,pY,pY,pY,orI,if_neg (by simp),orI,if_neg (by simp),orI,if_neg (by simp),orI,orI]
    split
    · exact Iff.rfl
    · rename_i h; omega
  rw[Bool.eq_iff_iff,decide_eq_true_eq,decide_eq_true_eq,this,aCu]
theorem wX {α β:Type} (l:List α) (f:α→List β) (k:Nat) (h:k<l.length):(l.take (k+1)).flatMap f=(l.take k).flatMap f++f l[k]:=by
  rw[← List.take_append_getElem h,List.flatMap_append]; simp
end Go.Abs
set_option linter.unusedVariables false
set_option linter.unusedSimpArgs false
namespace Go.Proofs.YtijnkglkchhomaaGreat
open Go Go.Abs
theorem uD (g:Nat) (a1 u b1 v c1:List cB) (N:Nat) (za zb zn:Int) (hN:N=a1.length+u.length+b1.length+v.length+c1.length) (huv:v.length=u.length) (hza:za=(a1.length:Nat)) (hzb:zb=((a1.length+u.length+b1.length:Nat):Int)) (hzn:zn=(u.length:Nat)) (hM:N<4611686018427387904) :DenM Tryz.prog 241 [.own E0 4 0 N,.s (.int .i64 za),.s (.int .i64 zb),.s (.int .i64 zn),.fn g []] 4 ((List.map stC (a1++(u++(b1++(v++c1)))))) (fun r ys=>ys=(List.map stC (a1++(v++(b1++(u++c1)))))):=by
 subst hza
 subst hzb
 subst hzn
 refine iA Tryz.func241 rfl (Nat.le_of_ble_eq_true rfl) (fun w0 x0 A hf=>?_)
 refine aC (fun K1 hK1=>(aB (aE aA 1 rfl (aD (hK1 _ (aR (bY (ι:=Nat) (fun i=>⟨38,[(0,.own E0 4 0 N),(1,.s (.int .i64 (a1.length:Nat))),(2,.s (.int .i64 ((a1.length+u.length+b1.length:Nat):Int))),(3,.s (.int .i64 (u.length:Nat))),(10,.s (.int .i64 (i:Nat)))],[(E0,.buf 4 (List.map stC (swr a1 u b1 v c1 i)))]⟩) (fun i=>i≤u.length) (fun i=>u.length - i) 0 ?_ ?_ ?_)))))))
 · exact Nat.zero_le _
 · exact cJ ⟨rfl,rfl,rfl,rfl,rfl,trivial⟩ (by simp [swr])
 ·
  rintro i hC
  have hsl:=swr_len (A:=a1) (B:=b1) (C:=c1) (i:=i) huv
  refine aC (fun K2 hK2=>(aC (fun K3 hK3=>(aB (aE aA 3 rfl (aD (hK3 _ (aO rfl (fun hc1=>?_) (fun hc1=>?_)))))))))
  ·
   simp only[bs] at hc1
   refine aP (hK2 _ (aC (fun K4 hK4=>(aR (dJ bN ?_)))))
   refine cA (listed':=#[true,false,false,false,false,false,false,false,false,false,false,false,false,false,false,false,false,false,false,false,false,false,false,false]) 0 rfl (by kernel_rfl) (by kernel_rfl) (by kernel_rfl) rfl (fun _ _ h=>h) (dP rfl) ?_
   refine cA (listed':=#[true,true,false,false,false,false,false,false,false,false,false,false,false,false,false,false,false,false,false,false,false,false,false,false]) 1 rfl (by kernel_rfl) (by kernel_rfl) (by kernel_rfl) rfl (fun _ _ h=>h) (dP rfl) ?_
   refine cA (listed':=#[true,true,true,false,false,false,false,false,false,false,false,false,false,false,false,false,false,false,false,false,false,false,false,false]) 2 rfl (by kernel_rfl) (by kernel_rfl) (by kernel_rfl) rfl (fun _ _ h=>h) (dP rfl) ?_
   refine cA (listed':=#[true,true,true,true,false,false,false,false,false,false,false,false,false,false,false,false,false,false,false,false,false,false,false,false]) 3 rfl (by kernel_rfl) (by kernel_rfl) (by kernel_rfl) rfl (fun _ _ h=>h) (aGr rfl rfl (by omega) (by omega)) ?_
   refine cA (listed':=#[true,true,true,true,true,false,false,false,false,false,false,false,false,false,false,false,false,false,false,false,false,false,false,false]) 4 rfl (by kernel_rfl) (by kernel_rfl) (by kernel_rfl) rfl (fun _ _ h=>h) (dP rfl) ?_
   refine cA (listed':=#[true,true,true,true,true,true,false,false,false,false,false,false,false,false,false,false,false,false,false,false,false,false,false,false]) 5 rfl (by kernel_rfl) (by kernel_rfl) (by kernel_rfl) rfl (fun _ _ h=>h) (dP rfl) ?_
   refine cA (listed':=#[true,true,true,true,true,true,true,false,false,false,false,false,false,false,false,false,false,false,false,false,false,false,false,false]) 6 rfl (by kernel_rfl) (by kernel_rfl) (by kernel_rfl) rfl (fun _ _ h=>h) (dP rfl) ?_
   refine cA (listed':=#[true,true,true,true,true,true,true,true,false,false,false,false,false,false,false,false,false,false,false,false,false,false,false,false]) 7 rfl (by kernel_rfl) (by kernel_rfl) (by kernel_rfl) rfl (fun _ _ h=>h) (aGr rfl rfl (by omega) (by omega)) ?_
   refine cA (listed':=#[true,true,true,true,true,true,true,true,true,false,false,false,false,false,false,false,false,false,false,false,false,false,false,false]) 8 rfl (by kernel_rfl) (by kernel_rfl) (by kernel_rfl) rfl (fun _ _ h=>h) (dP rfl) ?_
   refine cA (listed':=#[true,true,true,true,true,true,true,true,true,true,false,false,false,false,false,false,false,false,false,false,false,false,false,false]) 9 rfl (by kernel_rfl) (by kernel_rfl) (by kernel_rfl) rfl (fun _ _ h=>h) (dP rfl) ?_
   refine cA (listed':=#[true,true,true,true,true,true,true,true,true,true,true,false,false,false,false,false,false,false,false,false,false,false,false,false]) 10 rfl (by kernel_rfl) (by kernel_rfl) (by kernel_rfl) rfl (fun _ _ h=>h) (dP rfl) ?_
   refine cA (listed':=#[true,true,true,true,true,true,true,true,true,true,true,true,false,false,false,false,false,false,false,false,false,false,false,false]) 11 rfl (by kernel_rfl) (by kernel_rfl) (by kernel_rfl) rfl (fun _ _ h=>h) (aGr rfl rfl (by omega) (by omega)) ?_
   refine cA (listed':=#[true,true,true,true,true,true,true,true,true,true,true,true,true,false,false,false,false,false,false,false,false,false,false,false]) 12 rfl (by kernel_rfl) (by kernel_rfl) (by kernel_rfl) rfl (fun _ _ h=>h) (mZ rfl rfl cS bH (by omega)) ?_
   refine cA (listed':=#[true,true,true,true,true,true,true,true,true,true,true,true,true,false,true,false,false,false,false,false,false,false,false,false]) 14 rfl (by kernel_rfl) (by kernel_rfl) (by kernel_rfl) rfl (fun _ _ h=>h) (dP rfl) ?_
   refine cA (listed':=#[true,true,true,true,true,true,true,true,true,true,true,true,true,false,true,true,false,false,false,false,false,false,false,false]) 15 rfl (by kernel_rfl) (by kernel_rfl) (by kernel_rfl) rfl (fun _ _ h=>h) (dP rfl) ?_
   refine cA (listed':=#[true,true,true,true,true,true,true,true,true,true,true,true,true,false,true,true,true,false,false,false,false,false,false,false]) 16 rfl (by kernel_rfl) (by kernel_rfl) (by kernel_rfl) rfl (fun _ _ h=>h) (dP rfl) ?_
   refine cA (listed':=#[true,true,true,true,true,true,true,true,true,true,true,true,true,false,true,true,true,true,false,false,false,false,false,false]) 17 rfl (by kernel_rfl) (by kernel_rfl) (by kernel_rfl) rfl (fun _ _ h=>h) (aGr rfl rfl (by omega) (by omega)) ?_
   refine cA (listed':=#[true,true,true,true,true,true,true,true,true,true,true,true,true,false,true,true,true,true,true,false,false,false,false,false]) 18 rfl (by kernel_rfl) (by kernel_rfl) (by kernel_rfl) rfl (fun _ _ h=>h) (mZ rfl rfl cS bH (by omega)) ?_
   refine gQ (dY [0,1,2,3,10,16,19,20,23,28,34] rfl) (aG 13 [19] (by kernel_rfl) ⟨?_,?_,trivial⟩)
   ·
    refine⟨_,rfl,rfl,(ao rfl (aH rfl (cD rfl eE bH rfl (eU (k:=4) (enc:=stC) (z:=a1.length+u.length+b1.length+i) (by omega) (aCm huv (by omega)) rfl) (eD (k:=4) (enc:=stC) (z:=a1.length+u.length+b1.length+i) (by omega) (aCm huv (by omega)) rfl)) (aF (aG 19 [] (by kernel_rfl) ⟨?_,trivial⟩))))⟩
    ·
     refine⟨_,rfl,rfl,(ao rfl (aH rfl (cD rfl eE bH rfl (eU (k:=4) (enc:=stC) (z:=a1.length+i) (by omega) (aCn huv (by omega)) rfl) (eD (k:=4) (enc:=stC) (z:=a1.length+i) (by omega) (aCn huv (by omega)) rfl)) (aF (aG 20 [] (by kernel_rfl) ⟨?_,trivial⟩))))⟩
     ·
      refine⟨_,rfl,rfl,(ao rfl ?_)⟩
      refine aH rfl (cN rfl rfl cS bH (by omega)) ?_
      refine aF (aG 21 [] (by kernel_rfl) ⟨?_,trivial⟩)
      ·
       refine⟨_,rfl,rfl,(ao rfl (aZ hf rfl rfl bH rfl rfl (by simp [stC,AV.cells,AV.one,Value.oneCell']) (by simp [stC,AV.cells,AV.leaf,Value.oneCell']) (fE (k:=4) (enc:=stC) (z:=a1.length+i) (v:=v[i]) (by omega) (by rw[hsl]; omega) rfl rfl rfl) ?_))⟩
       refine aF (aG 22 [] (by kernel_rfl) ⟨?_,trivial⟩)
       ·
        refine⟨_,rfl,rfl,(ao rfl ?_)⟩
        refine aH rfl (cN rfl rfl cS bH (by omega)) ?_
        refine aF (aG 23 [] (by kernel_rfl) ⟨?_,trivial⟩)
        ·
         refine⟨_,rfl,rfl,(ao rfl (aZ hf rfl rfl bH rfl rfl (by simp [stC,AV.cells,AV.one,Value.oneCell']) (by simp [stC,AV.cells,AV.leaf,Value.oneCell']) (fE (k:=4) (enc:=stC) (z:=a1.length+u.length+b1.length+i) (v:=u[i]) (by omega) (by rw[List.length_set,hsl]; omega) rfl rfl rfl) ?_))⟩
         refine aF (dB (by kernel_rfl) ?_)
         refine hK4 _ (aB (aE aA 1 rfl ?_))
         refine aH rfl (bS rfl rfl (by omega) (by omega)) ?_
         refine aE aA 1 rfl (aD ?_)
         exact⟨i+1,by omega,by omega,cJ ⟨rfl,rfl,rfl,rfl,rfl,trivial⟩ (by rw[← aJj huv (by omega)]; rfl)⟩
   ·
    refine⟨_,rfl,rfl,(ao rfl (aH rfl (cD rfl eE bH rfl (eU (k:=4) (enc:=stC) (z:=a1.length+i) (by omega) (aCn huv (by omega)) rfl) (eD (k:=4) (enc:=stC) (z:=a1.length+i) (by omega) (aCn huv (by omega)) rfl)) (aF (aG 13 [] (by kernel_rfl) ⟨?_,trivial⟩))))⟩
    ·
     refine⟨_,rfl,rfl,(ao rfl (aH rfl (cD rfl eE bH rfl (eU (k:=4) (enc:=stC) (z:=a1.length+u.length+b1.length+i) (by omega) (aCm huv (by omega)) rfl) (eD (k:=4) (enc:=stC) (z:=a1.length+u.length+b1.length+i) (by omega) (aCm huv (by omega)) rfl)) (aF (aG 20 [] (by kernel_rfl) ⟨?_,trivial⟩))))⟩
     ·
      refine⟨_,rfl,rfl,(ao rfl ?_)⟩
      refine aH rfl (cN rfl rfl cS bH (by omega)) ?_
      refine aF (aG 21 [] (by kernel_rfl) ⟨?_,trivial⟩)
      ·
       refine⟨_,rfl,rfl,(ao rfl (aZ hf rfl rfl bH rfl rfl (by simp [stC,AV.cells,AV.one,Value.oneCell']) (by simp [stC,AV.cells,AV.leaf,Value.oneCell']) (fE (k:=4) (enc:=stC) (z:=a1.length+i) (v:=v[i]) (by omega) (by rw[hsl]; omega) rfl rfl rfl) ?_))⟩
       refine aF (aG 22 [] (by kernel_rfl) ⟨?_,trivial⟩)
       ·
        refine⟨_,rfl,rfl,(ao rfl ?_)⟩
        refine aH rfl (cN rfl rfl cS bH (by omega)) ?_
        refine aF (aG 23 [] (by kernel_rfl) ⟨?_,trivial⟩)
        ·
         refine⟨_,rfl,rfl,(ao rfl (aZ hf rfl rfl bH rfl rfl (by simp [stC,AV.cells,AV.one,Value.oneCell']) (by simp [stC,AV.cells,AV.leaf,Value.oneCell']) (fE (k:=4) (enc:=stC) (z:=a1.length+u.length+b1.length+i) (v:=u[i]) (by omega) (by rw[List.length_set,hsl]; omega) rfl rfl rfl) ?_))⟩
         refine aF (dB (by kernel_rfl) ?_)
         refine hK4 _ (aB (aE aA 1 rfl ?_))
         refine aH rfl (bS rfl rfl (by omega) (by omega)) ?_
         refine aE aA 1 rfl (aD ?_)
         exact⟨i+1,by omega,by omega,cJ ⟨rfl,rfl,rfl,rfl,rfl,trivial⟩ (by rw[← aJj huv (by omega)]; rfl)⟩
  ·
   simp only[bs] at hc1
   refine bF ?_
   refine⟨_,_,_,Le.refl _,rfl,rfl,?_⟩
   have hi:i=u.length:=by omega
   rw[hi,swr,← huv,List.take_length,List.drop_length,huv,List.take_length,List.drop_length,List.append_nil,List.append_nil]
theorem aN1 (g:Nat) (p s1 s2 q:List cB) (N:Nat) (za zm zb:Int) (hN:N=p.length+s1.length+s2.length+q.length) (hza:za=(p.length:Nat)) (hzm:zm=((p.length+s1.length:Nat):Int)) (hzb:zb=((p.length+s1.length+s2.length:Nat):Int)) (h01:0<s1.length) (h02:0<s2.length) (hM:N<4611686018427387904) :DenM Tryz.prog 234 [.own E0 4 0 N,.s (.int .i64 za),.s (.int .i64 zm),.s (.int .i64 zb),.fn g []] 4 ((List.map stC (p++(s1++(s2++q))))) (fun r ys=>ys=(List.map stC (p++(s2++(s1++q))))):=by
 subst hza
 subst hzm
 subst hzb
 refine iA Tryz.func234 rfl (Nat.le_of_ble_eq_true rfl) (fun w0 x0 A hf=>?_)
 refine aC (fun K1 hK1=>(aB (aE aA 2 rfl ?_)))
 refine aH rfl (gF rfl rfl (by omega) (by omega)) ?_
 refine aE aA 1 rfl (aD (hK1 _ (aC (fun K2 hK2=>(aB (aE aA 2 rfl ?_))))))
 refine aH rfl (gF rfl rfl (by omega) (by omega)) ?_
 refine aE aA 1 rfl (aD (hK2 _ (aC (fun K3 hK3=>(aR (bY (ι:=(List cB×List cB)×(List cB×List cB)) (fun(⟨⟨L,u⟩,⟨v,R⟩⟩:(List cB×List cB)×(List cB×List cB))=>⟨58,[(0,.own E0 4 0 N),(2,.s (.int .i64 ((p.length+s1.length:Nat):Int))),(4,.fn g []),(10,.s (.int .i64 (u.length:Nat))),(11,.s (.int .i64 (v.length:Nat)))],[(E0,.buf 4 (List.map stC (L++(u++(v++R)))))]⟩) (fun(⟨⟨L,u⟩,⟨v,R⟩⟩:(List cB×List cB)×(List cB×List cB))=>L.length+u.length=p.length+s1.length∧0<u.length∧0<v.length∧L++(v++(u++R))=p++(s2++(s1++q))) (fun(⟨⟨L,u⟩,⟨v,R⟩⟩:(List cB×List cB)×(List cB×List cB))=>u.length+v.length) ((p,s1),(s2,q)) ?_ ?_ ?_))))))
 · exact⟨rfl,h01,h02,rfl⟩
 · exact cJ ⟨rfl,rfl,rfl,aU (by omega),aU (by omega),trivial⟩ rfl
 ·
  rintro ⟨⟨L,u⟩,⟨v,R⟩⟩ hC
  obtain ⟨hl,hu,hv,ht⟩:=hC
  have htl:=congrArg List.length ht
  simp only[List.length_append] at htl
  have hf1:=List.length_take (i:=v.length) (l:=u)
  have hf2:=List.length_drop (i:=v.length) (l:=u)
  have hf3:=List.length_take (i:=v.length - u.length) (l:=v)
  have hf4:=List.length_drop (i:=v.length - u.length) (l:=v)
  refine aC (fun K4 hK4=>(aC (fun K5 hK5=>(aB (aE aA 3 rfl (aD (hK5 _ (aO rfl (fun hc1=>?_) (fun hc1=>?_)))))))))
  ·
   simp only[bs] at hc1
   refine aP (hK4 _ (aR (aC (fun K6 hK6=>(aB (aE aA 3 rfl (aD (hK6 _ (aO rfl (fun hc2=>?_) (fun hc2=>?_))))))))))
   ·
    simp only[bs] at hc2
    refine aC (fun K7 hK7=>(aB ?_))
    rw[show L++(u++(v++R))=L++(u.take v.length++(u.drop v.length++(v++R))) from by rw[← List.append_assoc (u.take v.length),List.take_append_drop]]
    refine aE aA 3 rfl ?_
    refine aH rfl (gF rfl rfl (by omega) (by omega)) ?_
    refine aE aA 3 rfl (iD hf E0 rfl rfl rfl rfl rfl vD (uD g L (u.take v.length) (u.drop v.length) v R N _ _ _ (by omega) (by omega) (by omega) (by omega) (by omega) hM) ?_)
    rintro r zs rfl
    refine aD (hK7 _ (aB (aE aA 2 rfl ?_)))
    refine aH rfl (gF rfl rfl (by omega) (by omega)) ?_
    refine aE aA 1 rfl ?_
    refine bL ?_
    exact⟨((L++v,u.drop v.length),(u.take v.length,R)),⟨by rw[List.length_append]; omega,by omega,by omega,by rw[← ht]; simp [← List.append_assoc (u.take v.length)]⟩,by simp only; omega,cJ ⟨rfl,rfl,rfl,aU (by omega),aU (by omega),trivial⟩ (by rw[List.append_assoc L v]; rfl)⟩
   ·
    simp only[bs] at hc2
    refine aC (fun K8 hK8=>(aB ?_))
    rw[show L++(u++(v++R))=L++(u++(v.take (v.length - u.length)++(v.drop (v.length - u.length)++R))) from by rw[← List.append_assoc (v.take (v.length - u.length)),List.take_append_drop]]
    refine aE aA 3 rfl ?_
    refine aH rfl (gF rfl rfl (by omega) (by omega)) ?_
    refine aE aA 2 rfl ?_
    refine aH rfl (bS rfl rfl (by omega) (by omega)) ?_
    refine aE aA 1 rfl ?_
    refine aH rfl (gF rfl rfl (by omega) (by omega)) ?_
    refine aE aA 2 rfl (iD hf E0 rfl rfl rfl rfl rfl vD (uD g L u (v.take (v.length - u.length)) (v.drop (v.length - u.length)) R N _ _ _ (by omega) (by omega) (by omega) (by omega) (by omega) hM) ?_)
    rintro r zs rfl
    refine aD (hK8 _ (aB (aE aA 2 rfl ?_)))
    refine aH rfl (gF rfl rfl (by omega) (by omega)) ?_
    refine aE aA 1 rfl ?_
    refine bL ?_
    exact⟨((L,v.drop (v.length - u.length)),(v.take (v.length - u.length),u++R)),⟨by omega,by omega,by omega,by rw[← ht]; simp [← List.append_assoc (v.take (v.length - u.length))]⟩,by simp only; omega,cJ ⟨rfl,rfl,rfl,aU (by omega),aU (by omega),trivial⟩ rfl⟩
  ·
   simp only[bs] at hc1
   refine bF (hK3 _ (aB ?_))
   rw[show L++(u++(v++R))=L++(u++([]++(v++R))) from rfl]
   refine aE aA 3 rfl ?_
   refine aH rfl (gF rfl rfl (by omega) (by omega)) ?_
   refine aE aA 3 rfl (iD hf E0 rfl rfl rfl rfl rfl vD (uD g L u [] v R N _ _ _ (by simp only[List.length_nil]; omega) (by omega) (by omega) (by simp only[List.length_nil]; omega) (by omega) hM) ?_)
   rintro r zs rfl
   refine bL ?_
   refine⟨_,_,_,Le.refl _,rfl,rfl,?_⟩
   rw[← ht]; rfl
theorem aDg {g:Nat} (hent:∀ args w,(callFunc g args).run Tryz.prog w=.ok (.enter g args) w) {c:cB→cB→Int} (hc:Tri c) (hcmp:∀ x y:cB,Den Tryz.prog g [.agg (stC x),.agg (stC y)] (·=.s (.int .i64 (c x y)))) (p s0 q:List cB) (N:Nat) (za zb:Int) (hN:N=p.length+s0.length+q.length) (hza:za=(p.length:Nat)) (hzb:zb=((p.length+s0.length:Nat):Int)) (hM:N<4611686018427387904) :DenM Tryz.prog 216 [.own E0 4 0 N,.s (.int .i64 za),.s (.int .i64 zb),.fn g []] 4 ((List.map stC (p++(s0++q)))) (fun r ys=>∃ t:List cB,t.Perm s0∧Srt c t∧ys=(List.map stC (p++(t++q)))):=by
 subst hza
 subst hzb
 refine iA Tryz.func216 rfl (Nat.le_of_ble_eq_true rfl) (fun w0 x0 A hf=>?_)
 refine aC (fun K1 hK1=>(aB (aE aA 1 rfl ?_)))
 refine aH rfl (bS rfl rfl (by omega) (by omega)) ?_
 refine aE aA 1 rfl (aD (hK1 _ (aR (bY (ι:=List cB×List cB) (fun(⟨s1,s2⟩:List cB×List cB)=>⟨53,[(0,.own E0 4 0 N),(1,.s (.int .i64 (p.length:Nat))),(2,.s (.int .i64 ((p.length+s0.length:Nat):Int))),(3,.fn g []),(8,.s (.int .i64 ((p.length+1+(s1.length - 1):Nat):Int)))],[(E0,.buf 4 (List.map stC (p++(s1++(s2++q)))))]⟩) (fun(⟨s1,s2⟩:List cB×List cB)=>Srt c s1∧(s1++s2).Perm s0∧(0<s1.length∨s0=[])) (fun(⟨s1,s2⟩:List cB×List cB)=>s2.length) (s0.take 1,s0.drop 1) ?_ ?_ ?_))))
 · exact⟨srt_one (by simp; omega),by rw[List.take_append_drop],by cases s0 <;> simp⟩
 · exact cJ ⟨rfl,rfl,rfl,rfl,aU (by have:=List.length_take (i:=1) (l:=s0); omega),trivial⟩ (by rw[← List.append_assoc (s0.take 1),List.take_append_drop])
 ·
  rintro ⟨s1,s2⟩ hC
  obtain ⟨hs1,hp12,hne⟩:=hC
  have hpl:=hp12.length_eq
  rw[List.length_append] at hpl
  have hnl:s0=[]→s0.length=0:=fun h=>by rw[h]; rfl
  refine aC (fun K2 hK2=>(aC (fun K3 hK3=>(aB (aE aA 3 rfl (aD (hK3 _ (aO rfl (fun hc1=>?_) (fun hc1=>?_)))))))))
  ·
   simp only[bs] at hc1
   refine aP (hK2 _ (aC (fun K4 hK4=>(aR (aC (fun K5 hK5=>(aB ?_)))))))
   have h0:0<s1.length:=by rcases hne with h | h; exact h; exfalso; have:=hnl h; omega
   obtain ⟨e,s3,rfl⟩:∃ e s3,s2=e::s3:=by
    cases s2 with
    | nil=>exfalso; simp only[List.length_nil] at hpl; omega
    | cons e r=>exact⟨e,r,rfl⟩
   simp only[List.length_cons] at hpl
   refine aE aA 2 rfl (aD (hK5 _ (aR (bY (ι:=List cB×List cB) (fun(⟨u,v⟩:List cB×List cB)=>⟨53,[(0,.own E0 4 0 N),(1,.s (.int .i64 (p.length:Nat))),(2,.s (.int .i64 ((p.length+s0.length:Nat):Int))),(3,.fn g []),(8,.s (.int .i64 ((p.length+1+(s1.length - 1):Nat):Int))),(9,.s (.int .i64 ((p.length+u.length:Nat):Int)))],[(E0,.buf 4 (List.map stC (p++(u++(e::(v++(s3++q)))))))]⟩) (fun(⟨u,v⟩:List cB×List cB)=>u++v=s1∧∀ y∈v,c e y≤0) (fun(⟨u,v⟩:List cB×List cB)=>u.length) (s1,[]) ?_ ?_ ?_))))
   · exact⟨List.append_nil _,by simp⟩
   · exact cJ ⟨rfl,rfl,rfl,rfl,rfl,aU (by omega),trivial⟩ rfl
   ·
    rintro ⟨u,v⟩ hC
    obtain ⟨huv,hv⟩:=hC
    have hul:=congrArg List.length huv
    rw[List.length_append] at hul
    refine aC (fun K6 hK6=>(aC (fun K7 hK7=>(dM hf bN (by kernel_rfl) rfl (bG aA 4 rfl (gP 21 true rfl (fun hg2=>?_) (fun hg2=>?_)))))))
    ·
     simp only[bs] at hg2
     obtain ⟨u1,z,hu1⟩:=last_of (u:=u) (by omega)
     have hu2:=congrArg List.length hu1
     simp only[List.length_append,List.length_cons,List.length_nil] at hu2
     refine bG aA 3 rfl ?_
     refine bX [(23,_),(24,_)] rfl rfl ⟨⟨rfl,rfl⟩,⟨rfl,rfl⟩,trivial⟩ rfl (cN rfl rfl cS bH (by omega)) ?_
     refine bX [(25,_)] rfl rfl ⟨⟨rfl,rfl⟩,trivial⟩ rfl (cD rfl eE bH rfl (eU (k:=4) (enc:=stC) (z:=p.length+u.length) (by omega) (atQ (p:=p++u) (q:=v++(s3++q)) (x:=e) (by simp) (by simp)) rfl) (eD (k:=4) (enc:=stC) (z:=p.length+u.length) (by omega) (atQ (p:=p++u) (q:=v++(s3++q)) (x:=e) (by simp) (by simp)) rfl)) ?_
     refine bG aA 2 rfl ?_
     refine bX [(28,_)] rfl rfl ⟨⟨rfl,rfl⟩,trivial⟩ rfl (gF rfl rfl (by omega) (by omega)) ?_
     refine bX [(27,_),(29,_)] rfl rfl ⟨⟨rfl,rfl⟩,⟨rfl,rfl⟩,trivial⟩ rfl (cN rfl rfl cS bH (by omega)) ?_
     refine bX [(30,_)] rfl rfl ⟨⟨rfl,rfl⟩,trivial⟩ rfl (cD rfl eE bH rfl (eU (k:=4) (enc:=stC) (z:=p.length+u1.length) (by omega) (atQ (p:=p++u1) (q:=e::(v++(s3++q))) (x:=z) (by rw[hu1]; simp) (by simp)) rfl) (eD (k:=4) (enc:=stC) (z:=p.length+u1.length) (by omega) (atQ (p:=p++u1) (q:=e::(v++(s3++q))) (x:=z) (by rw[hu1]; simp) (by simp)) rfl)) ?_
     refine cC [(22,_),(26,_),(31,_)] rfl rfl ⟨⟨rfl,rfl⟩,⟨rfl,rfl⟩,⟨rfl,rfl⟩,trivial⟩ rfl (aQ rfl rfl hent rfl (hcmp e z)) (bG aA 2 rfl (dQ [0,1,2,3,8,9,34] rfl rfl rfl (hK7 _ (aO rfl (fun hc3=>?_) (fun hc3=>?_)))))
     ·
      simp only[bs] at hc3
      refine aP (hK6 _ (aC (fun K8 hK8=>(aR (dJ bN ?_)))))
      refine cA (listed':=#[true,false,false,false,false,false,false,false,false,false,false,false,false,false,false,false,false,false]) 0 rfl (by kernel_rfl) (by kernel_rfl) (by kernel_rfl) rfl (fun _ _ h=>h) (dP rfl) ?_
      refine cA (listed':=#[true,true,false,false,false,false,false,false,false,false,false,false,false,false,false,false,false,false]) 1 rfl (by kernel_rfl) (by kernel_rfl) (by kernel_rfl) rfl (fun _ _ h=>h) (dP rfl) ?_
      refine cA (listed':=#[true,true,true,false,false,false,false,false,false,false,false,false,false,false,false,false,false,false]) 2 rfl (by kernel_rfl) (by kernel_rfl) (by kernel_rfl) rfl (fun _ _ h=>h) (dP rfl) ?_
      refine cA (listed':=#[true,true,true,true,false,false,false,false,false,false,false,false,false,false,false,false,false,false]) 3 rfl (by kernel_rfl) (by kernel_rfl) (by kernel_rfl) rfl (fun _ _ h=>h) (dP rfl) ?_
      refine cA (listed':=#[true,true,true,true,true,false,false,false,false,false,false,false,false,false,false,false,false,false]) 4 rfl (by kernel_rfl) (by kernel_rfl) (by kernel_rfl) rfl (fun _ _ h=>h) (aQb rfl rfl (by omega) (by omega)) ?_
      refine cA (listed':=#[true,true,true,true,true,true,false,false,false,false,false,false,false,false,false,false,false,false]) 5 rfl (by kernel_rfl) (by kernel_rfl) (by kernel_rfl) rfl (fun _ _ h=>h) (dP rfl) ?_
      refine cA (listed':=#[true,true,true,true,true,true,true,false,false,false,false,false,false,false,false,false,false,false]) 6 rfl (by kernel_rfl) (by kernel_rfl) (by kernel_rfl) rfl (fun _ _ h=>h) (dP rfl) ?_
      refine cA (listed':=#[true,true,true,true,true,true,true,true,false,false,false,false,false,false,false,false,false,false]) 7 rfl (by kernel_rfl) (by kernel_rfl) (by kernel_rfl) rfl (fun _ _ h=>h) (aQb rfl rfl (by omega) (by omega)) ?_
      refine cA (listed':=#[true,true,true,true,true,true,true,true,true,false,false,false,false,false,false,false,false,false]) 8 rfl (by kernel_rfl) (by kernel_rfl) (by kernel_rfl) rfl (fun _ _ h=>h) (mZ rfl rfl cS bH (by omega)) ?_
      refine cA (listed':=#[true,true,true,true,true,true,true,true,true,false,true,false,false,false,false,false,false,false]) 10 rfl (by kernel_rfl) (by kernel_rfl) (by kernel_rfl) rfl (fun _ _ h=>h) (dP rfl) ?_
      refine cA (listed':=#[true,true,true,true,true,true,true,true,true,false,true,true,false,false,false,false,false,false]) 11 rfl (by kernel_rfl) (by kernel_rfl) (by kernel_rfl) rfl (fun _ _ h=>h) (dP rfl) ?_
      refine cA (listed':=#[true,true,true,true,true,true,true,true,true,false,true,true,true,false,false,false,false,false]) 12 rfl (by kernel_rfl) (by kernel_rfl) (by kernel_rfl) rfl (fun _ _ h=>h) (mZ rfl rfl cS bH (by omega)) ?_
      refine gQ (dY [0,1,2,3,8,9,37,38,39,41,45,49] rfl) (aG 9 [13] (by kernel_rfl) ⟨?_,?_,trivial⟩)
      ·
       refine⟨_,rfl,rfl,(ao rfl (aH rfl (cD rfl eE bH rfl (eU (k:=4) (enc:=stC) (z:=p.length+u1.length) (by omega) (atQ (p:=p++u1) (q:=e::(v++(s3++q))) (x:=z) (by rw[hu1]; simp) (by simp)) rfl) (eD (k:=4) (enc:=stC) (z:=p.length+u1.length) (by omega) (atQ (p:=p++u1) (q:=e::(v++(s3++q))) (x:=z) (by rw[hu1]; simp) (by simp)) rfl)) ?_))⟩
       refine aF (aG 13 [] (by kernel_rfl) ⟨?_,trivial⟩)
       ·
        refine⟨_,rfl,rfl,(ao rfl (aH rfl (cD rfl eE bH rfl (eU (k:=4) (enc:=stC) (z:=p.length+u.length) (by omega) (atQ (p:=p++u) (q:=v++(s3++q)) (x:=e) (by simp) (by simp)) rfl) (eD (k:=4) (enc:=stC) (z:=p.length+u.length) (by omega) (atQ (p:=p++u) (q:=v++(s3++q)) (x:=e) (by simp) (by simp)) rfl)) ?_))⟩
        refine aF (aG 14 [] (by kernel_rfl) ⟨?_,trivial⟩)
        ·
         refine⟨_,rfl,rfl,(ao rfl ?_)⟩
         refine aH rfl (cN rfl rfl cS bH (by omega)) ?_
         refine aF (aG 15 [] (by kernel_rfl) ⟨?_,trivial⟩)
         ·
          refine⟨_,rfl,rfl,(ao rfl (aZ hf rfl rfl bH rfl rfl (by simp [stC,AV.cells,AV.one,Value.oneCell']) (by simp [stC,AV.cells,AV.leaf,Value.oneCell']) (fE (k:=4) (enc:=stC) (z:=p.length+u.length) (v:=z) (by omega) (by simp only[List.length_append,List.length_cons,List.length_set]; omega) rfl rfl rfl) ?_))⟩
          refine aF (aG 16 [] (by kernel_rfl) ⟨?_,trivial⟩)
          ·
           refine⟨_,rfl,rfl,(ao rfl ?_)⟩
           refine aH rfl (cN rfl rfl cS bH (by omega)) ?_
           refine aF (aG 17 [] (by kernel_rfl) ⟨?_,trivial⟩)
           ·
            refine⟨_,rfl,rfl,(ao rfl (aZ hf rfl rfl bH rfl rfl (by simp [stC,AV.cells,AV.one,Value.oneCell']) (by simp [stC,AV.cells,AV.leaf,Value.oneCell']) (fE (k:=4) (enc:=stC) (z:=p.length+u1.length) (v:=e) (by omega) (by simp only[List.length_append,List.length_cons,List.length_set]; omega) rfl rfl rfl) ?_))⟩
            refine aF (dB (by kernel_rfl) ?_)
            refine hK8 _ (aB (aE aA 1 rfl ?_))
            refine aH rfl (gF rfl rfl (by omega) (by omega)) ?_
            refine aE aA 1 rfl (aD ?_)
            exact⟨(u1,z::v),⟨by rw[← huv,hu1]; simp,fun y hy=>by
             rcases List.mem_cons.1 hy with rfl | hy
             · omega
             · exact hv y hy⟩,by simp only; omega,cJ ⟨rfl,rfl,rfl,rfl,rfl,aU (by omega),trivial⟩ (congrArg (fun l=>[(E0,AM.buf 4 (List.map stC l))]) ((vQ (p:=p++u1) (x:=z) (y:=e) (q:=v++(s3++q)) (by rw[hu1]; simp) (by simp; omega) (by simp)).trans (by simp)))⟩
      ·
       refine⟨_,rfl,rfl,(ao rfl (aH rfl (cD rfl eE bH rfl (eU (k:=4) (enc:=stC) (z:=p.length+u.length) (by omega) (atQ (p:=p++u) (q:=v++(s3++q)) (x:=e) (by simp) (by simp)) rfl) (eD (k:=4) (enc:=stC) (z:=p.length+u.length) (by omega) (atQ (p:=p++u) (q:=v++(s3++q)) (x:=e) (by simp) (by simp)) rfl)) ?_))⟩
       refine aF (aG 9 [] (by kernel_rfl) ⟨?_,trivial⟩)
       ·
        refine⟨_,rfl,rfl,(ao rfl (aH rfl (cD rfl eE bH rfl (eU (k:=4) (enc:=stC) (z:=p.length+u1.length) (by omega) (atQ (p:=p++u1) (q:=e::(v++(s3++q))) (x:=z) (by rw[hu1]; simp) (by simp)) rfl) (eD (k:=4) (enc:=stC) (z:=p.length+u1.length) (by omega) (atQ (p:=p++u1) (q:=e::(v++(s3++q))) (x:=z) (by rw[hu1]; simp) (by simp)) rfl)) ?_))⟩
        refine aF (aG 14 [] (by kernel_rfl) ⟨?_,trivial⟩)
        ·
         refine⟨_,rfl,rfl,(ao rfl ?_)⟩
         refine aH rfl (cN rfl rfl cS bH (by omega)) ?_
         refine aF (aG 15 [] (by kernel_rfl) ⟨?_,trivial⟩)
         ·
          refine⟨_,rfl,rfl,(ao rfl (aZ hf rfl rfl bH rfl rfl (by simp [stC,AV.cells,AV.one,Value.oneCell']) (by simp [stC,AV.cells,AV.leaf,Value.oneCell']) (fE (k:=4) (enc:=stC) (z:=p.length+u.length) (v:=z) (by omega) (by simp only[List.length_append,List.length_cons,List.length_set]; omega) rfl rfl rfl) ?_))⟩
          refine aF (aG 16 [] (by kernel_rfl) ⟨?_,trivial⟩)
          ·
           refine⟨_,rfl,rfl,(ao rfl ?_)⟩
           refine aH rfl (cN rfl rfl cS bH (by omega)) ?_
           refine aF (aG 17 [] (by kernel_rfl) ⟨?_,trivial⟩)
           ·
            refine⟨_,rfl,rfl,(ao rfl (aZ hf rfl rfl bH rfl rfl (by simp [stC,AV.cells,AV.one,Value.oneCell']) (by simp [stC,AV.cells,AV.leaf,Value.oneCell']) (fE (k:=4) (enc:=stC) (z:=p.length+u1.length) (v:=e) (by omega) (by simp only[List.length_append,List.length_cons,List.length_set]; omega) rfl rfl rfl) ?_))⟩
            refine aF (dB (by kernel_rfl) ?_)
            refine hK8 _ (aB (aE aA 1 rfl ?_))
            refine aH rfl (gF rfl rfl (by omega) (by omega)) ?_
            refine aE aA 1 rfl (aD ?_)
            exact⟨(u1,z::v),⟨by rw[← huv,hu1]; simp,fun y hy=>by
             rcases List.mem_cons.1 hy with rfl | hy
             · omega
             · exact hv y hy⟩,by simp only; omega,cJ ⟨rfl,rfl,rfl,rfl,rfl,aU (by omega),trivial⟩ (congrArg (fun l=>[(E0,AM.buf 4 (List.map stC l))]) ((vQ (p:=p++u1) (x:=z) (y:=e) (q:=v++(s3++q)) (by rw[hu1]; simp) (by simp; omega) (by simp)).trans (by simp)))⟩
     ·
      simp only[bs] at hc3
      refine bF (hK4 _ (aB (aE aA 1 rfl ?_)))
      refine aH rfl (bS rfl rfl (by omega) (by omega)) ?_
      refine aE aA 1 rfl (aD ?_)
      exact⟨(u++e::v,s3),⟨aEi hc (by rw[huv]; exact hs1) hv (fun z' hz'=>by rw[hu1] at hz'; simp at hz'; subst hz'; have:=hc.swap e z; omega),aKs huv hp12,.inl (by simp only[List.length_append,List.length_cons]; omega)⟩,by simp,cJ ⟨rfl,rfl,rfl,rfl,aU (by simp only[List.length_append,List.length_cons]; omega),trivial⟩ (by simp)⟩
    ·
     simp only[bs] at hg2
     refine bG aA 13 rfl (dQ [0,1,2,3,8,9,34] rfl rfl rfl (hK7 _ (bJ rfl (bF (hK4 _ (aB (aE aA 1 rfl ?_)))))))
     refine aH rfl (bS rfl rfl (by omega) (by omega)) ?_
     refine aE aA 1 rfl (aD ?_)
     exact⟨(u++e::v,s3),⟨aEi hc (by rw[huv]; exact hs1) hv (fun z' hz'=>by rw[List.eq_nil_of_length_eq_zero (show u.length=0 by omega)] at hz'; simp at hz'),aKs huv hp12,.inl (by simp only[List.length_append,List.length_cons]; omega)⟩,by simp,cJ ⟨rfl,rfl,rfl,rfl,aU (by simp only[List.length_append,List.length_cons]; omega),trivial⟩ (by simp)⟩
  ·
   simp only[bs] at hc1
   refine bF ?_
   have hs2:s2=[]:=List.eq_nil_of_length_eq_zero (by rcases hne with h | h; omega; have:=hnl h; omega)
   subst hs2
   exact⟨_,_,_,Le.refl _,rfl,rfl,s1,by simpa using hp12,hs1,rfl⟩
theorem aDf {g:Nat} (hent:∀ args w,(callFunc g args).run Tryz.prog w=.ok (.enter g args) w) {c:cB→cB→Int} (hc:Tri c) (hcmp:∀ x y:cB,Den Tryz.prog g [.agg (stC x),.agg (stC y)] (·=.s (.int .i64 (c x y)))) (NN:Nat) (ih:∀ (p s1 s2 q:List cB) (N:Nat) (za zm zb:Int),s1.length+s2.length≤NN→N=p.length+s1.length+s2.length+q.length→za=(p.length:Nat)→zm=((p.length+s1.length:Nat):Int)→zb=((p.length+s1.length+s2.length:Nat):Int)→0<s1.length→0<s2.length→Srt c s1→Srt c s2→N<4611686018427387904→DenM Tryz.prog 217 [.own E0 4 0 N,.s (.int .i64 za),.s (.int .i64 zm),.s (.int .i64 zb),.fn g []] 4 (List.map stC (p++(s1++(s2++q)))) (fun r ys=>∃ t:List cB,t.Perm (s1++s2)∧Srt c t∧ys=(List.map stC (p++(t++q))))) (p s1 s2 q:List cB) (N:Nat) (za zm zb:Int) (hle:s1.length+s2.length≤NN+1) (hN:N=p.length+s1.length+s2.length+q.length) (hza:za=(p.length:Nat)) (hzm:zm=((p.length+s1.length:Nat):Int)) (hzb:zb=((p.length+s1.length+s2.length:Nat):Int)) (h01:0<s1.length) (h02:0<s2.length) (hs1:Srt c s1) (hs2:Srt c s2) (hM:N<4611686018427387904) :DenM Tryz.prog 217 [.own E0 4 0 N,.s (.int .i64 za),.s (.int .i64 zm),.s (.int .i64 zb),.fn g []] 4 ((List.map stC (p++(s1++(s2++q))))) (fun r ys=>∃ t:List cB,t.Perm (s1++s2)∧Srt c t∧ys=(List.map stC (p++(t++q)))):=by
 subst hza
 subst hzm
 subst hzb
 refine iA Tryz.func217 rfl (Nat.le_of_ble_eq_true rfl) (fun w0 x0 A hf=>?_)
 refine aC (fun K1 hK1=>(aC (fun K2 hK2=>(aB (aE aA 2 rfl ?_)))))
 refine aH rfl (gF rfl rfl (by omega) (by omega)) ?_
 refine aE aA 1 rfl (aD (hK2 _ (aO rfl (fun hc1=>?_) (fun hc1=>?_))))
 ·
  simp only[bs] at hc1
  obtain ⟨x,hx1⟩:∃ x,s1=[x]:=List.length_eq_one_iff.1 (by omega)
  have hl1:s1.length=1:=by rw[hx1]; rfl
  refine aC (fun K3 hK3=>(aB (aE aA 2 rfl (aD (hK3 _ (aC (fun K4 hK4=>(aB (aE aA 2 rfl (aD (hK4 _ (aC (fun K5 hK5=>(aR (bY (ι:=Nat×Nat) (fun(⟨i,j⟩:Nat×Nat)=>⟨220,[(0,.own E0 4 0 N),(1,.s (.int .i64 (p.length:Nat))),(4,.fn g []),(10,.s (.int .i64 ((p.length+s1.length+i:Nat):Int))),(11,.s (.int .i64 ((p.length+s1.length+j:Nat):Int)))],[(E0,.buf 4 (List.map stC (p++(s1++(s2++q)))))]⟩) (fun(⟨i,j⟩:Nat×Nat)=>i≤j∧j≤s2.length∧(∀ z,s2[i - 1]?=some z→0<i→c z x≤0)∧(∀ z,s2[j]?=some z→c x z≤0)) (fun(⟨i,j⟩:Nat×Nat)=>j - i) (0,s2.length) ?_ ?_ ?_)))))))))))))))
  · exact⟨Nat.zero_le _,Nat.le_refl _,fun _ _ h=>absurd h (by omega),fun z hz=>by rw[List.getElem?_eq_none (Nat.le_refl _)] at hz; cases hz⟩
  · exact cJ ⟨(by first | rfl | exact aU (by omega)),(by first | rfl | exact aU (by omega)),(by first | rfl | exact aU (by omega)),(by first | rfl | exact aU (by omega)),(by first | rfl | exact aU (by omega)),trivial⟩ rfl
  ·
   rintro ⟨i,j⟩ hC
   obtain ⟨q1,q2,q3,q4⟩:=hC
   refine aC (fun K6 hK6=>(aC (fun K7 hK7=>(aB (aE aA 3 rfl (aD (hK7 _ (aO rfl (fun hc2=>?_) (fun hc2=>?_)))))))))
   ·
    simp only[bs] at hc2
    refine aP (hK6 _ (aR (aC (fun K8 hK8=>(aB ?_)))))
    obtain ⟨h,eh⟩:∃ h,h=(i+j) / 2:=⟨_,rfl⟩
    have hz:=aAk (a:=((p.length+s1.length+i:Nat):Int)+((p.length+s1.length+j:Nat):Int)) (b:=((p.length+s1.length+h:Nat):Int)) (by omega) (by omega) (by omega)
    refine aE aA 2 rfl ?_
    refine aH rfl (bS rfl rfl (by omega) (by omega)) ?_
    refine aH rfl (pK rfl Tryz.underlying3 Tryz.underlying234 hz.1) (aH rfl (aAa rfl hz.2.1 (by decide)) (aH rfl (pK rfl Tryz.underlying234 Tryz.underlying3 hz.2.2) (aE aA 1 rfl (aD (hK8 _ (aC (fun K9 hK9=>(dM hf bN (by kernel_rfl) rfl ?_))))))))
    have hh2:h<s2.length:=by omega
    refine bG aA 3 rfl ?_
    refine bX [(41,_),(42,_)] rfl rfl ⟨⟨rfl,rfl⟩,⟨rfl,rfl⟩,trivial⟩ rfl (cN rfl rfl cS bH (by omega)) ?_
    refine bX [(43,_)] rfl rfl ⟨⟨rfl,rfl⟩,trivial⟩ rfl (cD rfl eE bH rfl (eU (k:=4) (enc:=stC) (z:=p.length+s1.length+h) (by omega) (atM hh2) rfl) (eD (k:=4) (enc:=stC) (z:=p.length+s1.length+h) (by omega) (atM hh2) rfl)) (bG aA 2 rfl ?_)
    refine bX [(45,_),(46,_)] rfl rfl ⟨⟨rfl,rfl⟩,⟨rfl,rfl⟩,trivial⟩ rfl (cN rfl rfl cS bH (by omega)) ?_
    refine bX [(47,_)] rfl rfl ⟨⟨rfl,rfl⟩,trivial⟩ rfl (cD rfl eE bH rfl (eU (k:=4) (enc:=stC) (z:=p.length) (by omega) (atQ (p:=p) (q:=s2++q) (by rw[hx1]; rfl) rfl) rfl) (eD (k:=4) (enc:=stC) (z:=p.length) (by omega) (atQ (p:=p) (q:=s2++q) (by rw[hx1]; rfl) rfl) rfl)) ?_
    refine cC [(40,_),(44,_),(48,_)] rfl rfl ⟨⟨rfl,rfl⟩,⟨rfl,rfl⟩,⟨rfl,rfl⟩,trivial⟩ rfl (aQ rfl rfl hent rfl (hcmp s2[h] x)) (bG aA 1 rfl (dQ [0,1,4,10,11,12,50] rfl rfl rfl (hK9 _ (aO rfl (fun hc3=>?_) (fun hc3=>?_)))))
    ·
     simp only[bs] at hc3
     refine aB (aE aA 1 rfl ?_)
     refine aH rfl (bS rfl rfl (by omega) (by omega)) ?_
     refine aE aA 1 rfl ?_
     refine bL ?_
     exact⟨(h+1,j),⟨by omega,by omega,fun z hz _=>by rw[Nat.add_sub_cancel,List.getElem?_eq_getElem hh2] at hz; cases hz; omega,q4⟩,by simp only; omega,cJ ⟨(by first | rfl | exact aU (by omega)),(by first | rfl | exact aU (by omega)),(by first | rfl | exact aU (by omega)),(by first | rfl | exact aU (by omega)),(by first | rfl | exact aU (by omega)),trivial⟩ rfl⟩
    ·
     simp only[bs] at hc3
     refine aB (aE aA 2 rfl ?_)
     refine bL ?_
     exact⟨(i,h),⟨by omega,by omega,q3,fun z hz=>by rw[List.getElem?_eq_getElem hh2] at hz; cases hz; have:=hc.swap s2[h] x; omega⟩,by simp only; omega,cJ ⟨(by first | rfl | exact aU (by omega)),(by first | rfl | exact aU (by omega)),(by first | rfl | exact aU (by omega)),(by first | rfl | exact aU (by omega)),(by first | rfl | exact aU (by omega)),trivial⟩ rfl⟩
   ·
    simp only[bs] at hc2
    refine bF (hK5 _ (aC (fun K10 hK10=>(aC (fun K11 hK11=>(aB (aE aA 2 rfl (aD (hK11 _ (aR (bY (ι:=Nat) (fun t=>⟨220,[(0,.own E0 4 0 N),(10,.s (.int .i64 ((p.length+s1.length+i:Nat):Int))),(13,.s (.int .i64 ((p.length+t:Nat):Int)))],[(E0,.buf 4 (List.map stC (p++(s2.take t++(x::(s2.drop t++q))))))]⟩) (fun t=>t≤i) (fun t=>i - t) 0 ?_ ?_ ?_)))))))))))
    · exact Nat.zero_le _
    · exact cJ ⟨(by first | rfl | exact aU (by omega)),(by first | rfl | exact aU (by omega)),(by first | rfl | exact aU (by omega)),trivial⟩ (by rw[hx1]; rfl)
    ·
     rintro t hC
     have hq:=hC
     refine aC (fun K12 hK12=>(aC (fun K13 hK13=>(aB (aE aA 2 rfl ?_)))))
     refine aH rfl (gF rfl rfl (by omega) (by omega)) ?_
     refine aE aA 1 rfl (aD (hK13 _ (aO rfl (fun hc4=>?_) (fun hc4=>?_))))
     ·
      simp only[bs] at hc4
      refine aP (hK12 _ (aC (fun K14 hK14=>(aR (dJ bN ?_)))))
      refine cA (listed':=#[true,false,false,false,false,false,false,false,false,false,false,false,false,false,false,false,false,false]) 0 rfl (by kernel_rfl) (by kernel_rfl) (by kernel_rfl) rfl (fun _ _ h=>h) (dP rfl) ?_
      refine cA (listed':=#[true,true,false,false,false,false,false,false,false,false,false,false,false,false,false,false,false,false]) 1 rfl (by kernel_rfl) (by kernel_rfl) (by kernel_rfl) rfl (fun _ _ h=>h) (dP rfl) ?_
      refine cA (listed':=#[true,true,true,false,false,false,false,false,false,false,false,false,false,false,false,false,false,false]) 2 rfl (by kernel_rfl) (by kernel_rfl) (by kernel_rfl) rfl (fun _ _ h=>h) (dP rfl) ?_
      refine cA (listed':=#[true,true,true,true,false,false,false,false,false,false,false,false,false,false,false,false,false,false]) 3 rfl (by kernel_rfl) (by kernel_rfl) (by kernel_rfl) rfl (fun _ _ h=>h) (dP rfl) ?_
      refine cA (listed':=#[true,true,true,true,true,false,false,false,false,false,false,false,false,false,false,false,false,false]) 4 rfl (by kernel_rfl) (by kernel_rfl) (by kernel_rfl) rfl (fun _ _ h=>h) (aGr rfl rfl (by omega) (by omega)) ?_
      refine cA (listed':=#[true,true,true,true,true,true,false,false,false,false,false,false,false,false,false,false,false,false]) 5 rfl (by kernel_rfl) (by kernel_rfl) (by kernel_rfl) rfl (fun _ _ h=>h) (dP rfl) ?_
      refine cA (listed':=#[true,true,true,true,true,true,true,false,false,false,false,false,false,false,false,false,false,false]) 6 rfl (by kernel_rfl) (by kernel_rfl) (by kernel_rfl) rfl (fun _ _ h=>h) (dP rfl) ?_
      refine cA (listed':=#[true,true,true,true,true,true,true,true,false,false,false,false,false,false,false,false,false,false]) 7 rfl (by kernel_rfl) (by kernel_rfl) (by kernel_rfl) rfl (fun _ _ h=>h) (aGr rfl rfl (by omega) (by omega)) ?_
      refine cA (listed':=#[true,true,true,true,true,true,true,true,true,false,false,false,false,false,false,false,false,false]) 8 rfl (by kernel_rfl) (by kernel_rfl) (by kernel_rfl) rfl (fun _ _ h=>h) (mZ rfl rfl cS bH (by omega)) ?_
      refine cA (listed':=#[true,true,true,true,true,true,true,true,true,false,true,false,false,false,false,false,false,false]) 10 rfl (by kernel_rfl) (by kernel_rfl) (by kernel_rfl) rfl (fun _ _ h=>h) (dP rfl) ?_
      refine cA (listed':=#[true,true,true,true,true,true,true,true,true,false,true,true,false,false,false,false,false,false]) 11 rfl (by kernel_rfl) (by kernel_rfl) (by kernel_rfl) rfl (fun _ _ h=>h) (dP rfl) ?_
      refine cA (listed':=#[true,true,true,true,true,true,true,true,true,false,true,true,true,false,false,false,false,false]) 12 rfl (by kernel_rfl) (by kernel_rfl) (by kernel_rfl) rfl (fun _ _ h=>h) (mZ rfl rfl cS bH (by omega)) ?_
      refine gQ (dY [0,10,13,61,62,63,65,69,73] rfl) (aG 9 [13] (by kernel_rfl) ⟨?_,?_,trivial⟩)
      ·
       refine⟨_,rfl,rfl,(ao rfl (aH rfl (cD rfl eE bH rfl (eU (k:=4) (enc:=stC) (z:=p.length+t+1) (by omega) (atQ (p:=p++(s2.take t++[x])) (q:=s2.drop (t+1)++q) (x:=s2[t]) (by rw[List.drop_eq_getElem_cons (show t<s2.length by omega)]; simp only[List.append_assoc,List.cons_append,List.nil_append]) (by simp only[List.length_append,List.length_take,List.length_cons,List.length_nil]; omega)) rfl) (eD (k:=4) (enc:=stC) (z:=p.length+t+1) (by omega) (atQ (p:=p++(s2.take t++[x])) (q:=s2.drop (t+1)++q) (x:=s2[t]) (by rw[List.drop_eq_getElem_cons (show t<s2.length by omega)]; simp only[List.append_assoc,List.cons_append,List.nil_append]) (by simp only[List.length_append,List.length_take,List.length_cons,List.length_nil]; omega)) rfl)) ?_))⟩
       refine aF (aG 13 [] (by kernel_rfl) ⟨?_,trivial⟩)
       ·
        refine⟨_,rfl,rfl,(ao rfl (aH rfl (cD rfl eE bH rfl (eU (k:=4) (enc:=stC) (z:=p.length+t) (by omega) (atQ (p:=p++s2.take t) (q:=s2.drop t++q) (x:=x) (by simp only[List.append_assoc]) (by(try simp only[List.length_take,List.length_drop,List.length_append]); omega)) rfl) (eD (k:=4) (enc:=stC) (z:=p.length+t) (by omega) (atQ (p:=p++s2.take t) (q:=s2.drop t++q) (x:=x) (by simp only[List.append_assoc]) (by(try simp only[List.length_take,List.length_drop,List.length_append]); omega)) rfl)) ?_))⟩
        refine aF (aG 14 [] (by kernel_rfl) ⟨?_,trivial⟩)
        ·
         refine⟨_,rfl,rfl,(ao rfl ?_)⟩
         refine aH rfl (cN rfl rfl cS bH (by omega)) ?_
         refine aF (aG 15 [] (by kernel_rfl) ⟨?_,trivial⟩)
         ·
          refine⟨_,rfl,rfl,(ao rfl (aZ hf rfl rfl bH rfl rfl (by simp [stC,AV.cells,AV.one,Value.oneCell']) (by simp [stC,AV.cells,AV.leaf,Value.oneCell']) (fE (k:=4) (enc:=stC) (z:=p.length+t) (v:=s2[t]) (by omega) (by simp only[List.length_append,List.length_cons,List.length_set,List.length_take,List.length_drop]; omega) rfl rfl rfl) ?_))⟩
          refine aF (aG 16 [] (by kernel_rfl) ⟨?_,trivial⟩)
          ·
           refine⟨_,rfl,rfl,(ao rfl ?_)⟩
           refine aH rfl (cN rfl rfl cS bH (by omega)) ?_
           refine aF (aG 17 [] (by kernel_rfl) ⟨?_,trivial⟩)
           ·
            refine⟨_,rfl,rfl,(ao rfl (aZ hf rfl rfl bH rfl rfl (by simp [stC,AV.cells,AV.one,Value.oneCell']) (by simp [stC,AV.cells,AV.leaf,Value.oneCell']) (fE (k:=4) (enc:=stC) (z:=p.length+t+1) (v:=x) (by omega) (by simp only[List.length_append,List.length_cons,List.length_set,List.length_take,List.length_drop]; omega) rfl rfl rfl) ?_))⟩
            refine aF (dB (by kernel_rfl) ?_)
            refine hK14 _ (aB (aE aA 1 rfl ?_))
            refine aH rfl (bS rfl rfl (by omega) (by omega)) ?_
            refine aE aA 1 rfl (aD ?_)
            exact⟨t+1,by omega,by omega,cJ ⟨(by first | rfl | exact aU (by omega)),(by first | rfl | exact aU (by omega)),(by first | rfl | exact aU (by omega)),trivial⟩ (congrArg (fun l=>[(E0,AM.buf 4 (List.map stC l))]) ((aQc (p:=p++s2.take t) (x:=x) (y:=s2[t]) (q:=s2.drop (t+1)++q) (by rw[List.drop_eq_getElem_cons (show t<s2.length by omega)]; simp only[List.append_assoc,List.cons_append]) (by(try simp only[List.length_take,List.length_drop,List.length_append]); omega) (by(try simp only[List.length_take,List.length_drop,List.length_append]); omega)).trans (by rw[← List.take_append_getElem (show t<s2.length by omega)]; simp only[List.append_assoc,List.cons_append,List.nil_append])))⟩
      ·
       refine⟨_,rfl,rfl,(ao rfl (aH rfl (cD rfl eE bH rfl (eU (k:=4) (enc:=stC) (z:=p.length+t) (by omega) (atQ (p:=p++s2.take t) (q:=s2.drop t++q) (x:=x) (by simp only[List.append_assoc]) (by(try simp only[List.length_take,List.length_drop,List.length_append]); omega)) rfl) (eD (k:=4) (enc:=stC) (z:=p.length+t) (by omega) (atQ (p:=p++s2.take t) (q:=s2.drop t++q) (x:=x) (by simp only[List.append_assoc]) (by(try simp only[List.length_take,List.length_drop,List.length_append]); omega)) rfl)) ?_))⟩
       refine aF (aG 9 [] (by kernel_rfl) ⟨?_,trivial⟩)
       ·
        refine⟨_,rfl,rfl,(ao rfl (aH rfl (cD rfl eE bH rfl (eU (k:=4) (enc:=stC) (z:=p.length+t+1) (by omega) (atQ (p:=p++(s2.take t++[x])) (q:=s2.drop (t+1)++q) (x:=s2[t]) (by rw[List.drop_eq_getElem_cons (show t<s2.length by omega)]; simp only[List.append_assoc,List.cons_append,List.nil_append]) (by simp only[List.length_append,List.length_take,List.length_cons,List.length_nil]; omega)) rfl) (eD (k:=4) (enc:=stC) (z:=p.length+t+1) (by omega) (atQ (p:=p++(s2.take t++[x])) (q:=s2.drop (t+1)++q) (x:=s2[t]) (by rw[List.drop_eq_getElem_cons (show t<s2.length by omega)]; simp only[List.append_assoc,List.cons_append,List.nil_append]) (by simp only[List.length_append,List.length_take,List.length_cons,List.length_nil]; omega)) rfl)) ?_))⟩
        refine aF (aG 14 [] (by kernel_rfl) ⟨?_,trivial⟩)
        ·
         refine⟨_,rfl,rfl,(ao rfl ?_)⟩
         refine aH rfl (cN rfl rfl cS bH (by omega)) ?_
         refine aF (aG 15 [] (by kernel_rfl) ⟨?_,trivial⟩)
         ·
          refine⟨_,rfl,rfl,(ao rfl (aZ hf rfl rfl bH rfl rfl (by simp [stC,AV.cells,AV.one,Value.oneCell']) (by simp [stC,AV.cells,AV.leaf,Value.oneCell']) (fE (k:=4) (enc:=stC) (z:=p.length+t) (v:=s2[t]) (by omega) (by simp only[List.length_append,List.length_cons,List.length_set,List.length_take,List.length_drop]; omega) rfl rfl rfl) ?_))⟩
          refine aF (aG 16 [] (by kernel_rfl) ⟨?_,trivial⟩)
          ·
           refine⟨_,rfl,rfl,(ao rfl ?_)⟩
           refine aH rfl (cN rfl rfl cS bH (by omega)) ?_
           refine aF (aG 17 [] (by kernel_rfl) ⟨?_,trivial⟩)
           ·
            refine⟨_,rfl,rfl,(ao rfl (aZ hf rfl rfl bH rfl rfl (by simp [stC,AV.cells,AV.one,Value.oneCell']) (by simp [stC,AV.cells,AV.leaf,Value.oneCell']) (fE (k:=4) (enc:=stC) (z:=p.length+t+1) (v:=x) (by omega) (by simp only[List.length_append,List.length_cons,List.length_set,List.length_take,List.length_drop]; omega) rfl rfl rfl) ?_))⟩
            refine aF (dB (by kernel_rfl) ?_)
            refine hK14 _ (aB (aE aA 1 rfl ?_))
            refine aH rfl (bS rfl rfl (by omega) (by omega)) ?_
            refine aE aA 1 rfl (aD ?_)
            exact⟨t+1,by omega,by omega,cJ ⟨(by first | rfl | exact aU (by omega)),(by first | rfl | exact aU (by omega)),(by first | rfl | exact aU (by omega)),trivial⟩ (congrArg (fun l=>[(E0,AM.buf 4 (List.map stC l))]) ((aQc (p:=p++s2.take t) (x:=x) (y:=s2[t]) (q:=s2.drop (t+1)++q) (by rw[List.drop_eq_getElem_cons (show t<s2.length by omega)]; simp only[List.append_assoc,List.cons_append]) (by(try simp only[List.length_take,List.length_drop,List.length_append]); omega) (by(try simp only[List.length_take,List.length_drop,List.length_append]); omega)).trans (by rw[← List.take_append_getElem (show t<s2.length by omega)]; simp only[List.append_assoc,List.cons_append,List.nil_append])))⟩
     ·
      simp only[bs] at hc4
      refine bF (hK10 _ (aN ?_))
      have hti:t=i:=by omega
      subst hti
      have hij:t=j:=by omega
      subst hij
      exact⟨_,_,_,Le.refl _,rfl,rfl,s2.take t++x::s2.drop t,by rw[hx1]; exact put_perm,aJ5 hc hs2 (by omega) q3 q4,by simp only[List.append_assoc,List.cons_append]⟩
 ·
  simp only[bs] at hc1
  refine aP (hK1 _ (aC (fun K15 hK15=>(aC (fun K16 hK16=>(aB (aE aA 2 rfl ?_)))))))
  refine aH rfl (gF rfl rfl (by omega) (by omega)) ?_
  refine aE aA 1 rfl (aD (hK16 _ (aO rfl (fun hc5=>?_) (fun hc5=>?_))))
  ·
   simp only[bs] at hc5
   obtain ⟨x,hx2⟩:∃ x,s2=[x]:=List.length_eq_one_iff.1 (by omega)
   have hl2:s2.length=1:=by rw[hx2]; rfl
   refine aC (fun K17 hK17=>(aB (aE aA 2 rfl (aD (hK17 _ (aC (fun K18 hK18=>(aB (aE aA 2 rfl (aD (hK18 _ (aC (fun K19 hK19=>(aR (bY (ι:=Nat×Nat) (fun(⟨i,j⟩:Nat×Nat)=>⟨220,[(0,.own E0 4 0 N),(2,.s (.int .i64 ((p.length+s1.length:Nat):Int))),(4,.fn g []),(14,.s (.int .i64 ((p.length+i:Nat):Int))),(15,.s (.int .i64 ((p.length+j:Nat):Int)))],[(E0,.buf 4 (List.map stC (p++(s1++(s2++q)))))]⟩) (fun(⟨i,j⟩:Nat×Nat)=>i≤j∧j≤s1.length∧(∀ z,s1[i - 1]?=some z→0<i→c z x≤0)∧(∀ z,s1[j]?=some z→c x z≤0)) (fun(⟨i,j⟩:Nat×Nat)=>j - i) (0,s1.length) ?_ ?_ ?_)))))))))))))))
   · exact⟨Nat.zero_le _,Nat.le_refl _,fun _ _ h=>absurd h (by omega),fun z hz=>by rw[List.getElem?_eq_none (Nat.le_refl _)] at hz; cases hz⟩
   · exact cJ ⟨(by first | rfl | exact aU (by omega)),(by first | rfl | exact aU (by omega)),(by first | rfl | exact aU (by omega)),(by first | rfl | exact aU (by omega)),(by first | rfl | exact aU (by omega)),trivial⟩ rfl
   ·
    rintro ⟨i,j⟩ hC
    obtain ⟨q1,q2,q3,q4⟩:=hC
    refine aC (fun K20 hK20=>(aC (fun K21 hK21=>(aB (aE aA 3 rfl (aD (hK21 _ (aO rfl (fun hc6=>?_) (fun hc6=>?_)))))))))
    ·
     simp only[bs] at hc6
     refine aP (hK20 _ (aR (aC (fun K22 hK22=>(aB ?_)))))
     obtain ⟨h,eh⟩:∃ h,h=(i+j) / 2:=⟨_,rfl⟩
     have hz:=aAk (a:=((p.length+i:Nat):Int)+((p.length+j:Nat):Int)) (b:=((p.length+h:Nat):Int)) (by omega) (by omega) (by omega)
     refine aE aA 2 rfl ?_
     refine aH rfl (bS rfl rfl (by omega) (by omega)) ?_
     refine aH rfl (pK rfl Tryz.underlying3 Tryz.underlying234 hz.1) (aH rfl (aAa rfl hz.2.1 (by decide)) (aH rfl (pK rfl Tryz.underlying234 Tryz.underlying3 hz.2.2) (aE aA 1 rfl (aD (hK22 _ (aC (fun K23 hK23=>(dM hf bN (by kernel_rfl) rfl ?_))))))))
     have hh2:h<s1.length:=by omega
     refine bG aA 3 rfl ?_
     refine bX [(93,_),(94,_)] rfl rfl ⟨⟨rfl,rfl⟩,⟨rfl,rfl⟩,trivial⟩ rfl (cN rfl rfl cS bH (by omega)) ?_
     refine bX [(95,_)] rfl rfl ⟨⟨rfl,rfl⟩,trivial⟩ rfl (cD rfl eE bH rfl (eU (k:=4) (enc:=stC) (z:=p.length+s1.length) (by omega) (atQ (p:=p++s1) (q:=q) (x:=x) (by rw[hx2]; simp) (by simp)) rfl) (eD (k:=4) (enc:=stC) (z:=p.length+s1.length) (by omega) (atQ (p:=p++s1) (q:=q) (x:=x) (by rw[hx2]; simp) (by simp)) rfl)) ?_
     refine bG aA 2 rfl ?_
     refine bX [(97,_),(98,_)] rfl rfl ⟨⟨rfl,rfl⟩,⟨rfl,rfl⟩,trivial⟩ rfl (cN rfl rfl cS bH (by omega)) ?_
     refine bX [(99,_)] rfl rfl ⟨⟨rfl,rfl⟩,trivial⟩ rfl (cD rfl eE bH rfl (eU (k:=4) (enc:=stC) (z:=p.length+h) (by omega) (atL hh2) rfl) (eD (k:=4) (enc:=stC) (z:=p.length+h) (by omega) (atL hh2) rfl)) (cC [(92,_),(96,_),(100,_)] rfl rfl ⟨⟨rfl,rfl⟩,⟨rfl,rfl⟩,⟨rfl,rfl⟩,trivial⟩ rfl (aQ rfl rfl hent rfl (hcmp x s1[h])) (bG aA 2 rfl (dQ [0,2,4,14,15,16,103] rfl rfl rfl (hK23 _ (aO rfl (fun hc7=>?_) (fun hc7=>?_))))))
     ·
      simp only[bs] at hc7
      refine aB (aE aA 1 rfl ?_)
      refine aH rfl (bS rfl rfl (by omega) (by omega)) ?_
      refine aE aA 1 rfl ?_
      refine bL ?_
      exact⟨(h+1,j),⟨by omega,by omega,fun z hz _=>by rw[Nat.add_sub_cancel,List.getElem?_eq_getElem hh2] at hz; cases hz; have:=hc.swap x s1[h]; omega,q4⟩,by simp only; omega,cJ ⟨(by first | rfl | exact aU (by omega)),(by first | rfl | exact aU (by omega)),(by first | rfl | exact aU (by omega)),(by first | rfl | exact aU (by omega)),(by first | rfl | exact aU (by omega)),trivial⟩ rfl⟩
     ·
      simp only[bs] at hc7
      refine aB (aE aA 2 rfl ?_)
      refine bL ?_
      exact⟨(i,h),⟨by omega,by omega,q3,fun z hz=>by rw[List.getElem?_eq_getElem hh2] at hz; cases hz; omega⟩,by simp only; omega,cJ ⟨(by first | rfl | exact aU (by omega)),(by first | rfl | exact aU (by omega)),(by first | rfl | exact aU (by omega)),(by first | rfl | exact aU (by omega)),(by first | rfl | exact aU (by omega)),trivial⟩ rfl⟩
    ·
     simp only[bs] at hc6
     refine bF (hK19 _ (aC (fun K24 hK24=>(aC (fun K25 hK25=>(aB (aE aA 2 rfl (aD (hK25 _ (aR (bY (ι:=Nat) (fun t=>⟨220,[(0,.own E0 4 0 N),(14,.s (.int .i64 ((p.length+i:Nat):Int))),(17,.s (.int .i64 ((p.length+t:Nat):Int)))],[(E0,.buf 4 (List.map stC (p++(s1.take t++(x::(s1.drop t++q))))))]⟩) (fun t=>i≤t∧t≤s1.length) (fun t=>t) s1.length ?_ ?_ ?_)))))))))))
     · exact⟨by omega,Nat.le_refl _⟩
     · exact cJ ⟨(by first | rfl | exact aU (by omega)),(by first | rfl | exact aU (by omega)),(by first | rfl | exact aU (by omega)),trivial⟩ (by rw[hx2,List.take_length,List.drop_length]; rfl)
     ·
      rintro t hC
      obtain ⟨hq,hq2⟩:=hC
      refine aC (fun K26 hK26=>(aC (fun K27 hK27=>(aB (aE aA 3 rfl (aD (hK27 _ (aO rfl (fun hc8=>?_) (fun hc8=>?_)))))))))
      ·
       simp only[bs] at hc8
       refine aP (hK26 _ (aC (fun K28 hK28=>(aR (dJ bN ?_)))))
       have hsp:p++(s1.take t++(x::(s1.drop t++q)))=(p++s1.take (t - 1))++s1[t - 1]::x::(s1.drop t++q):=by
        rw[show s1.take t=s1.take (t - 1)++[s1[t - 1]] from by rw[List.take_append_getElem (show t - 1<s1.length by omega),show t - 1+1=t by omega]]
        simp only[List.append_assoc,List.cons_append,List.nil_append]
       refine cA (listed':=#[true,false,false,false,false,false,false,false,false,false,false,false,false,false,false,false,false,false]) 0 rfl (by kernel_rfl) (by kernel_rfl) (by kernel_rfl) rfl (fun _ _ h=>h) (dP rfl) ?_
       refine cA (listed':=#[true,true,false,false,false,false,false,false,false,false,false,false,false,false,false,false,false,false]) 1 rfl (by kernel_rfl) (by kernel_rfl) (by kernel_rfl) rfl (fun _ _ h=>h) (dP rfl) ?_
       refine cA (listed':=#[true,true,true,false,false,false,false,false,false,false,false,false,false,false,false,false,false,false]) 2 rfl (by kernel_rfl) (by kernel_rfl) (by kernel_rfl) rfl (fun _ _ h=>h) (dP rfl) ?_
       refine cA (listed':=#[true,true,true,true,false,false,false,false,false,false,false,false,false,false,false,false,false,false]) 3 rfl (by kernel_rfl) (by kernel_rfl) (by kernel_rfl) rfl (fun _ _ h=>h) (dP rfl) ?_
       refine cA (listed':=#[true,true,true,true,true,false,false,false,false,false,false,false,false,false,false,false,false,false]) 4 rfl (by kernel_rfl) (by kernel_rfl) (by kernel_rfl) rfl (fun _ _ h=>h) (aQb rfl rfl (by omega) (by omega)) ?_
       refine cA (listed':=#[true,true,true,true,true,true,false,false,false,false,false,false,false,false,false,false,false,false]) 5 rfl (by kernel_rfl) (by kernel_rfl) (by kernel_rfl) rfl (fun _ _ h=>h) (dP rfl) ?_
       refine cA (listed':=#[true,true,true,true,true,true,true,false,false,false,false,false,false,false,false,false,false,false]) 6 rfl (by kernel_rfl) (by kernel_rfl) (by kernel_rfl) rfl (fun _ _ h=>h) (dP rfl) ?_
       refine cA (listed':=#[true,true,true,true,true,true,true,true,false,false,false,false,false,false,false,false,false,false]) 7 rfl (by kernel_rfl) (by kernel_rfl) (by kernel_rfl) rfl (fun _ _ h=>h) (aQb rfl rfl (by omega) (by omega)) ?_
       refine cA (listed':=#[true,true,true,true,true,true,true,true,true,false,false,false,false,false,false,false,false,false]) 8 rfl (by kernel_rfl) (by kernel_rfl) (by kernel_rfl) rfl (fun _ _ h=>h) (mZ rfl rfl cS bH (by omega)) ?_
       refine cA (listed':=#[true,true,true,true,true,true,true,true,true,false,true,false,false,false,false,false,false,false]) 10 rfl (by kernel_rfl) (by kernel_rfl) (by kernel_rfl) rfl (fun _ _ h=>h) (dP rfl) ?_
       refine cA (listed':=#[true,true,true,true,true,true,true,true,true,false,true,true,false,false,false,false,false,false]) 11 rfl (by kernel_rfl) (by kernel_rfl) (by kernel_rfl) rfl (fun _ _ h=>h) (dP rfl) ?_
       refine cA (listed':=#[true,true,true,true,true,true,true,true,true,false,true,true,true,false,false,false,false,false]) 12 rfl (by kernel_rfl) (by kernel_rfl) (by kernel_rfl) rfl (fun _ _ h=>h) (mZ rfl rfl cS bH (by omega)) ?_
       refine gQ (dY [0,14,17,113,114,115,117,121,125] rfl) (aG 9 [13] (by kernel_rfl) ⟨?_,?_,trivial⟩)
       ·
        refine⟨_,rfl,rfl,(ao rfl (aH rfl (cD rfl eE bH rfl (eU (k:=4) (enc:=stC) (z:=p.length+(t - 1)) (by omega) (atQ (p:=p++s1.take (t - 1)) (q:=x::(s1.drop t++q)) (x:=s1[t - 1]) hsp (by(try simp only[List.length_take,List.length_drop,List.length_append]); omega)) rfl) (eD (k:=4) (enc:=stC) (z:=p.length+(t - 1)) (by omega) (atQ (p:=p++s1.take (t - 1)) (q:=x::(s1.drop t++q)) (x:=s1[t - 1]) hsp (by(try simp only[List.length_take,List.length_drop,List.length_append]); omega)) rfl)) ?_))⟩
        refine aF (aG 13 [] (by kernel_rfl) ⟨?_,trivial⟩)
        ·
         refine⟨_,rfl,rfl,(ao rfl (aH rfl (cD rfl eE bH rfl (eU (k:=4) (enc:=stC) (z:=p.length+t) (by omega) (atQ (p:=p++s1.take t) (q:=s1.drop t++q) (x:=x) (by simp only[List.append_assoc]) (by(try simp only[List.length_take,List.length_drop,List.length_append]); omega)) rfl) (eD (k:=4) (enc:=stC) (z:=p.length+t) (by omega) (atQ (p:=p++s1.take t) (q:=s1.drop t++q) (x:=x) (by simp only[List.append_assoc]) (by(try simp only[List.length_take,List.length_drop,List.length_append]); omega)) rfl)) ?_))⟩
         refine aF (aG 14 [] (by kernel_rfl) ⟨?_,trivial⟩)
         ·
          refine⟨_,rfl,rfl,(ao rfl ?_)⟩
          refine aH rfl (cN rfl rfl cS bH (by omega)) ?_
          refine aF (aG 15 [] (by kernel_rfl) ⟨?_,trivial⟩)
          ·
           refine⟨_,rfl,rfl,(ao rfl (aZ hf rfl rfl bH rfl rfl (by simp [stC,AV.cells,AV.one,Value.oneCell']) (by simp [stC,AV.cells,AV.leaf,Value.oneCell']) (fE (k:=4) (enc:=stC) (z:=p.length+t) (v:=s1[t - 1]) (by omega) (by simp only[List.length_append,List.length_cons,List.length_set,List.length_take,List.length_drop]; omega) rfl rfl rfl) ?_))⟩
           refine aF (aG 16 [] (by kernel_rfl) ⟨?_,trivial⟩)
           ·
            refine⟨_,rfl,rfl,(ao rfl ?_)⟩
            refine aH rfl (cN rfl rfl cS bH (by omega)) ?_
            refine aF (aG 17 [] (by kernel_rfl) ⟨?_,trivial⟩)
            ·
             refine⟨_,rfl,rfl,(ao rfl (aZ hf rfl rfl bH rfl rfl (by simp [stC,AV.cells,AV.one,Value.oneCell']) (by simp [stC,AV.cells,AV.leaf,Value.oneCell']) (fE (k:=4) (enc:=stC) (z:=p.length+(t - 1)) (v:=x) (by omega) (by simp only[List.length_append,List.length_cons,List.length_set,List.length_take,List.length_drop]; omega) rfl rfl rfl) ?_))⟩
             refine aF (dB (by kernel_rfl) ?_)
             refine hK28 _ (aB (aE aA 1 rfl ?_))
             refine aH rfl (gF rfl rfl (by omega) (by omega)) ?_
             refine aE aA 1 rfl (aD ?_)
             exact⟨t - 1,⟨by omega,by omega⟩,by omega,cJ ⟨(by first | rfl | exact aU (by omega)),(by first | rfl | exact aU (by omega)),(by first | rfl | exact aU (by omega)),trivial⟩ (congrArg (fun l=>[(E0,AM.buf 4 (List.map stC l))]) ((vQ (p:=p++s1.take (t - 1)) (x:=s1[t - 1]) (y:=x) (q:=s1.drop t++q) hsp (by(try simp only[List.length_take,List.length_drop,List.length_append]); omega) (by(try simp only[List.length_take,List.length_drop,List.length_append]); omega)).trans (by rw[List.drop_eq_getElem_cons (show t - 1<s1.length by omega),show t - 1+1=t by omega]; simp only[List.append_assoc,List.cons_append])))⟩
       ·
        refine⟨_,rfl,rfl,(ao rfl (aH rfl (cD rfl eE bH rfl (eU (k:=4) (enc:=stC) (z:=p.length+t) (by omega) (atQ (p:=p++s1.take t) (q:=s1.drop t++q) (x:=x) (by simp only[List.append_assoc]) (by(try simp only[List.length_take,List.length_drop,List.length_append]); omega)) rfl) (eD (k:=4) (enc:=stC) (z:=p.length+t) (by omega) (atQ (p:=p++s1.take t) (q:=s1.drop t++q) (x:=x) (by simp only[List.append_assoc]) (by(try simp only[List.length_take,List.length_drop,List.length_append]); omega)) rfl)) ?_))⟩
        refine aF (aG 9 [] (by kernel_rfl) ⟨?_,trivial⟩)
        ·
         refine⟨_,rfl,rfl,(ao rfl (aH rfl (cD rfl eE bH rfl (eU (k:=4) (enc:=stC) (z:=p.length+(t - 1)) (by omega) (atQ (p:=p++s1.take (t - 1)) (q:=x::(s1.drop t++q)) (x:=s1[t - 1]) hsp (by(try simp only[List.length_take,List.length_drop,List.length_append]); omega)) rfl) (eD (k:=4) (enc:=stC) (z:=p.length+(t - 1)) (by omega) (atQ (p:=p++s1.take (t - 1)) (q:=x::(s1.drop t++q)) (x:=s1[t - 1]) hsp (by(try simp only[List.length_take,List.length_drop,List.length_append]); omega)) rfl)) ?_))⟩
         refine aF (aG 14 [] (by kernel_rfl) ⟨?_,trivial⟩)
         ·
          refine⟨_,rfl,rfl,(ao rfl ?_)⟩
          refine aH rfl (cN rfl rfl cS bH (by omega)) ?_
          refine aF (aG 15 [] (by kernel_rfl) ⟨?_,trivial⟩)
          ·
           refine⟨_,rfl,rfl,(ao rfl (aZ hf rfl rfl bH rfl rfl (by simp [stC,AV.cells,AV.one,Value.oneCell']) (by simp [stC,AV.cells,AV.leaf,Value.oneCell']) (fE (k:=4) (enc:=stC) (z:=p.length+t) (v:=s1[t - 1]) (by omega) (by simp only[List.length_append,List.length_cons,List.length_set,List.length_take,List.length_drop]; omega) rfl rfl rfl) ?_))⟩
           refine aF (aG 16 [] (by kernel_rfl) ⟨?_,trivial⟩)
           ·
            refine⟨_,rfl,rfl,(ao rfl ?_)⟩
            refine aH rfl (cN rfl rfl cS bH (by omega)) ?_
            refine aF (aG 17 [] (by kernel_rfl) ⟨?_,trivial⟩)
            ·
             refine⟨_,rfl,rfl,(ao rfl (aZ hf rfl rfl bH rfl rfl (by simp [stC,AV.cells,AV.one,Value.oneCell']) (by simp [stC,AV.cells,AV.leaf,Value.oneCell']) (fE (k:=4) (enc:=stC) (z:=p.length+(t - 1)) (v:=x) (by omega) (by simp only[List.length_append,List.length_cons,List.length_set,List.length_take,List.length_drop]; omega) rfl rfl rfl) ?_))⟩
             refine aF (dB (by kernel_rfl) ?_)
             refine hK28 _ (aB (aE aA 1 rfl ?_))
             refine aH rfl (gF rfl rfl (by omega) (by omega)) ?_
             refine aE aA 1 rfl (aD ?_)
             exact⟨t - 1,⟨by omega,by omega⟩,by omega,cJ ⟨(by first | rfl | exact aU (by omega)),(by first | rfl | exact aU (by omega)),(by first | rfl | exact aU (by omega)),trivial⟩ (congrArg (fun l=>[(E0,AM.buf 4 (List.map stC l))]) ((vQ (p:=p++s1.take (t - 1)) (x:=s1[t - 1]) (y:=x) (q:=s1.drop t++q) hsp (by(try simp only[List.length_take,List.length_drop,List.length_append]); omega) (by(try simp only[List.length_take,List.length_drop,List.length_append]); omega)).trans (by rw[List.drop_eq_getElem_cons (show t - 1<s1.length by omega),show t - 1+1=t by omega]; simp only[List.append_assoc,List.cons_append])))⟩
      ·
       simp only[bs] at hc8
       refine bF (hK24 _ (aN ?_))
       have hti:t=i:=by omega
       subst hti
       have hij:t=j:=by omega
       subst hij
       exact⟨_,_,_,Le.refl _,rfl,rfl,s1.take t++x::s1.drop t,by rw[hx2]; exact put_perm.trans (List.perm_append_comm (l₁:=[x])),aJ5 hc hs1 (by omega) q3 q4,by simp only[List.append_assoc,List.cons_append]⟩
  ·
   simp only[bs] at hc5
   refine aP (hK15 _ (aC (fun K29 hK29=>(aB ?_))))
   obtain ⟨M,eM⟩:∃ M,M=(s1.length+s2.length) / 2:=⟨_,rfl⟩
   have hz:=aAk (a:=((p.length:Nat):Int)+((p.length+s1.length+s2.length:Nat):Int)) (b:=((p.length+M:Nat):Int)) (by omega) (by omega) (by omega)
   refine aE aA 2 rfl ?_
   refine aH rfl (bS rfl rfl (by omega) (by omega)) ?_
   refine aH rfl (pK rfl Tryz.underlying3 Tryz.underlying234 hz.1) (aH rfl (aAa rfl hz.2.1 (by decide)) (aH rfl (pK rfl Tryz.underlying234 Tryz.underlying3 hz.2.2) (aE aA 1 rfl (aD (hK29 _ (aC (fun K30 hK30=>(aB (aE aA 2 rfl ?_)))))))))
   refine aH rfl (bS rfl rfl (by omega) (by omega)) ?_
   refine aE aA 1 rfl (aD (hK30 _ (aC (fun K31 hK31=>(aB (aE aA 2 rfl (aD (hK31 _ (aIx (ι:=Nat×Nat) (fun w=>⟨220,[(0,.own E0 4 0 N),(1,.s (.int .i64 (p.length:Nat))),(2,.s (.int .i64 ((p.length+s1.length:Nat):Int))),(3,.s (.int .i64 ((p.length+s1.length+s2.length:Nat):Int))),(4,.fn g []),(18,.s (.int .i64 ((p.length+M:Nat):Int))),(19,.s (.int .i64 ((p.length+M:Nat)+(p.length+s1.length:Nat)))),(20,.s (.int .i64 ((p.length+w.1:Nat):Int))),(21,.s (.int .i64 ((p.length+w.2:Nat):Int)))],[(E0,.buf 4 (List.map stC (p++(s1++(s2++q)))))]⟩) (fun w=>(w.1=0∨M - w.1=s2.length)∧(w.2=s1.length∨w.2=M)∧w.1≤w.2∧w.2≤s1.length∧w.2≤M∧M - w.1≤s2.length) ?_ ?_)))))))))
   ·
    refine aC (fun K33 hK33=>(aB (aE aA 3 rfl (aD (hK33 _ (aO rfl (fun hc9=>?_) (fun hc9=>?_)))))))
    ·
     simp only[bs] at hc9
     refine aC (fun K34 hK34=>(aB (aE aA 2 rfl ?_)))
     refine aH rfl (gF rfl rfl (by omega) (by omega)) ?_
     refine aE aA 1 rfl (aD (hK34 _ (aB (aE aA 2 rfl ?_))))
     refine aD ?_
     exact⟨(M - s2.length,M),⟨.inr (by simp only; omega),.inr rfl,by simp only; omega,by simp only; omega,Nat.le_refl _,by simp only; omega⟩,cJ ⟨(by first | rfl | exact aU (by omega)),(by first | rfl | exact aU (by omega)),(by first | rfl | exact aU (by omega)),(by first | rfl | exact aU (by omega)),(by first | rfl | exact aU (by omega)),(by first | rfl | exact aU (by omega)),(by first | rfl | exact aU (by omega)),(by first | rfl | exact aU (by omega)),(by first | rfl | exact aU (by omega)),trivial⟩ rfl⟩
    ·
     simp only[bs] at hc9
     refine aC (fun K35 hK35=>(aB (aE aA 2 rfl (aD (hK35 _ (aB (aE aA 2 rfl ?_)))))))
     refine aD ?_
     exact⟨(0,s1.length),⟨.inl rfl,.inl rfl,Nat.zero_le _,Nat.le_refl _,by simp only; omega,by simp only; omega⟩,cJ ⟨(by first | rfl | exact aU (by omega)),(by first | rfl | exact aU (by omega)),(by first | rfl | exact aU (by omega)),(by first | rfl | exact aU (by omega)),(by first | rfl | exact aU (by omega)),(by first | rfl | exact aU (by omega)),(by first | rfl | exact aU (by omega)),(by first | rfl | exact aU (by omega)),(by first | rfl | exact aU (by omega)),trivial⟩ rfl⟩
   ·
    intro w hj
    obtain ⟨S0,R0⟩:=w
    obtain ⟨j1,j2,j3,j4,j5,j6⟩:=hj
    simp only at j1 j2 j3 j4 j5 j6
    refine aC (fun K36 hK36=>(aB (aE aA 1 rfl ?_)))
    refine aH rfl (gF rfl rfl (by omega) (by omega)) ?_
    refine aE aA 1 rfl (aD (hK36 _ (aC (fun K37 hK37=>(aR (bY (ι:=Nat×Nat) (fun(⟨S,R⟩:Nat×Nat)=>⟨220,[(0,.own E0 4 0 N),(1,.s (.int .i64 (p.length:Nat))),(2,.s (.int .i64 ((p.length+s1.length:Nat):Int))),(3,.s (.int .i64 ((p.length+s1.length+s2.length:Nat):Int))),(4,.fn g []),(18,.s (.int .i64 ((p.length+M:Nat):Int))),(19,.s (.int .i64 ((p.length+M:Nat)+(p.length+s1.length:Nat)))),(20,.s (.int .i64 ((p.length+S:Nat):Int))),(21,.s (.int .i64 ((p.length+R:Nat):Int))),(22,.s (.int .i64 ((p.length+M:Nat)+(p.length+s1.length:Nat) - 1)))],[(E0,.buf 4 (List.map stC (p++(s1++(s2++q)))))]⟩) (fun(⟨S,R⟩:Nat×Nat)=>S0≤S∧S≤R∧R≤R0∧(S=S0∨∀ z w,s1[S - 1]?=some z→s2[M - S]?=some w→c z w≤0)∧(R=R0∨∀ z w,s2[M - 1 - R]?=some z→s1[R]?=some w→c z w≤0)) (fun(⟨S,R⟩:Nat×Nat)=>R - S) (S0,R0) ?_ ?_ ?_))))))
    · exact⟨Nat.le_refl _,j3,Nat.le_refl _,.inl rfl,.inl rfl⟩
    · exact cJ ⟨(by first | rfl | exact aU (by omega)),(by first | rfl | exact aU (by omega)),(by first | rfl | exact aU (by omega)),(by first | rfl | exact aU (by omega)),(by first | rfl | exact aU (by omega)),(by first | rfl | exact aU (by omega)),(by first | rfl | exact aU (by omega)),(by first | rfl | exact aU (by omega)),(by first | rfl | exact aU (by omega)),(by first | rfl | exact aU (by omega)),trivial⟩ rfl
    ·
     rintro ⟨S,R⟩ hC
     obtain ⟨q1,q2,q3,q4,q5⟩:=hC
     refine aC (fun K38 hK38=>(aC (fun K39 hK39=>(aB (aE aA 3 rfl (aD (hK39 _ (aO rfl (fun hc10=>?_) (fun hc10=>?_)))))))))
     ·
      simp only[bs] at hc10
      refine aP (hK38 _ (aR (aC (fun K40 hK40=>(aB ?_)))))
      obtain ⟨h,eh⟩:∃ h,h=(S+R) / 2:=⟨_,rfl⟩
      have hz:=aAk (a:=((p.length+S:Nat):Int)+((p.length+R:Nat):Int)) (b:=((p.length+h:Nat):Int)) (by omega) (by omega) (by omega)
      refine aE aA 2 rfl ?_
      refine aH rfl (bS rfl rfl (by omega) (by omega)) ?_
      refine aH rfl (pK rfl Tryz.underlying3 Tryz.underlying234 hz.1) (aH rfl (aAa rfl hz.2.1 (by decide)) (aH rfl (pK rfl Tryz.underlying234 Tryz.underlying3 hz.2.2) (aE aA 1 rfl (aD (hK40 _ (aC (fun K41 hK41=>(dM hf bN (by kernel_rfl) rfl ?_))))))))
      have hh1:h<s1.length:=by omega
      have hh2:M - 1 - h<s2.length:=by omega
      refine bG aA 4 rfl ?_
      refine bX [(160,_),(161,_)] rfl rfl ⟨⟨rfl,rfl⟩,⟨rfl,rfl⟩,trivial⟩ rfl (gF rfl rfl (by omega) (by omega)) ?_
      refine bX [(159,_),(162,_)] rfl rfl ⟨⟨rfl,rfl⟩,⟨rfl,rfl⟩,trivial⟩ rfl (cN rfl rfl cS bH (by omega)) ?_
      refine bX [(163,_)] rfl rfl ⟨⟨rfl,rfl⟩,trivial⟩ rfl (cD rfl eE bH rfl (eU (k:=4) (enc:=stC) (z:=p.length+s1.length+(M - 1 - h)) (by omega) (atM hh2) rfl) (eD (k:=4) (enc:=stC) (z:=p.length+s1.length+(M - 1 - h)) (by omega) (atM hh2) rfl)) (bG aA 2 rfl ?_)
      refine bX [(165,_),(166,_)] rfl rfl ⟨⟨rfl,rfl⟩,⟨rfl,rfl⟩,trivial⟩ rfl (cN rfl rfl cS bH (by omega)) ?_
      refine bX [(167,_)] rfl rfl ⟨⟨rfl,rfl⟩,trivial⟩ rfl (cD rfl eE bH rfl (eU (k:=4) (enc:=stC) (z:=p.length+h) (by omega) (atL hh1) rfl) (eD (k:=4) (enc:=stC) (z:=p.length+h) (by omega) (atL hh1) rfl)) (cC [(158,_),(164,_),(168,_)] rfl rfl ⟨⟨rfl,rfl⟩,⟨rfl,rfl⟩,⟨rfl,rfl⟩,trivial⟩ rfl (aQ rfl rfl hent rfl (hcmp s2[M - 1 - h] s1[h])) (bG aA 2 rfl (dQ [0,1,2,3,4,18,19,20,21,22,23,171] rfl rfl rfl (hK41 _ (aO rfl (fun hc11=>?_) (fun hc11=>?_))))))
      ·
       simp only[bs] at hc11
       refine aB (aE aA 1 rfl ?_)
       refine aH rfl (bS rfl rfl (by omega) (by omega)) ?_
       refine aE aA 1 rfl ?_
       refine bL ?_
       exact⟨(h+1,R),⟨by omega,by omega,q3,.inr (fun z w hz hw=>by rw[Nat.add_sub_cancel,List.getElem?_eq_getElem hh1] at hz; rw[show M - (h+1)=M - 1 - h by omega,List.getElem?_eq_getElem hh2] at hw; cases hz; cases hw; have:=hc.swap s1[h] s2[M - 1 - h]; omega),q5⟩,by simp only; omega,cJ ⟨(by first | rfl | exact aU (by omega)),(by first | rfl | exact aU (by omega)),(by first | rfl | exact aU (by omega)),(by first | rfl | exact aU (by omega)),(by first | rfl | exact aU (by omega)),(by first | rfl | exact aU (by omega)),(by first | rfl | exact aU (by omega)),(by first | rfl | exact aU (by omega)),(by first | rfl | exact aU (by omega)),(by first | rfl | exact aU (by omega)),trivial⟩ rfl⟩
      ·
       simp only[bs] at hc11
       refine aB (aE aA 2 rfl ?_)
       refine bL ?_
       exact⟨(S,h),⟨q1,by omega,by omega,q4,.inr (fun z w hz hw=>by rw[List.getElem?_eq_getElem hh2] at hz; rw[List.getElem?_eq_getElem hh1] at hw; cases hz; cases hw; omega)⟩,by simp only; omega,cJ ⟨(by first | rfl | exact aU (by omega)),(by first | rfl | exact aU (by omega)),(by first | rfl | exact aU (by omega)),(by first | rfl | exact aU (by omega)),(by first | rfl | exact aU (by omega)),(by first | rfl | exact aU (by omega)),(by first | rfl | exact aU (by omega)),(by first | rfl | exact aU (by omega)),(by first | rfl | exact aU (by omega)),(by first | rfl | exact aU (by omega)),trivial⟩ rfl⟩
     ·
      simp only[bs] at hc10
      refine bF (hK37 _ (aC (fun K42 hK42=>(aB ?_))))
      obtain ⟨K,hK⟩:∃ K,K=M - S:=⟨_,rfl⟩
      have hA:∀ (h0:0<S) (h3:K<s2.length),c (s1[S - 1]'(by omega)) s2[K]≤0:=fun h0 h3=>by
       rcases q4 with e | e
       · exfalso; omega
       · exact e _ _ (List.getElem?_eq_getElem (by omega)) (by rw[← hK]; exact List.getElem?_eq_getElem h3)
      have hB:∀ (h0:0<K) (h3:S<s1.length),c (s2[K - 1]'(by omega)) s1[S]≤0:=fun h0 h3=>by
       have hSR:S=R:=by omega
       rw[← hSR] at q5
       rcases q5 with e | e
       · exfalso; omega
       · exact e _ _ (by rw[show M - 1 - S=K - 1 by omega]; exact List.getElem?_eq_getElem (by omega)) (List.getElem?_eq_getElem h3)
      have hsep:=sym_sep hc hs1 hs2 (show S≤s1.length by omega) (show K≤s2.length by omega) hA hB
      refine aE aA 2 rfl ?_
      refine aH rfl (gF rfl rfl (by omega) (by omega)) ?_
      rw[show (((p.length+M:Nat):Int)+((p.length+s1.length:Nat):Int)) - ((p.length+S:Nat):Int)=((p.length+s1.length+K:Nat):Int) from by omega]
      refine aE aA 1 rfl (aD (hK42 _ (aIx (ι:=Unit) (fun w=>⟨220,[(0,.own E0 4 0 N),(1,.s (.int .i64 (p.length:Nat))),(3,.s (.int .i64 ((p.length+s1.length+s2.length:Nat):Int))),(4,.fn g []),(18,.s (.int .i64 ((p.length+M:Nat):Int))),(20,.s (.int .i64 ((p.length+S:Nat):Int))),(24,.s (.int .i64 ((p.length+s1.length+K:Nat):Int)))],[(E0,.buf 4 (List.map stC (p++((s1.take S++s2.take K)++((s1.drop S++s2.drop K)++q)))))]⟩) (fun w=>True) ?_ ?_)))
      ·
       refine aC (fun K44 hK44=>(aB (aE aA 4 rfl (bC rfl rfl rfl (fun hg12=>?_) (fun hg12=>?_)))))
       ·
        simp only[bs] at hg12
        refine aH rfl (fD rfl) (aE aA 3 rfl (aD (hK44 _ (aO rfl (fun hc13=>?_) (fun hc13=>?_)))))
        ·
         simp only[bs] at hc13
         refine aB ?_
         rw[aS7 (p:=p) (s1:=s1) (s2:=s2) (q:=q) S K]
         refine aE aA 5 rfl (iD hf E0 rfl rfl rfl rfl rfl aL5 (aN1 g (p++s1.take S) (s1.drop S) (s2.take K) (s2.drop K++q) N _ _ _ (by(try simp only[List.length_take,List.length_drop,List.length_append]); omega) (by(try simp only[List.length_take,List.length_drop,List.length_append]); omega) (by(try simp only[List.length_take,List.length_drop,List.length_append]); omega) (by(try simp only[List.length_take,List.length_drop,List.length_append]); omega) (by(try simp only[List.length_take,List.length_drop,List.length_append]); omega) (by(try simp only[List.length_take,List.length_drop,List.length_append]); omega) hM) ?_)
         rintro r zs rfl
         refine aD ?_
         exact⟨(),trivial,cJ ⟨(by first | rfl | exact aU (by omega)),(by first | rfl | exact aU (by omega)),(by first | rfl | exact aU (by omega)),(by first | rfl | exact aU (by omega)),(by first | rfl | exact aU (by omega)),(by first | rfl | exact aU (by omega)),(by first | rfl | exact aU (by omega)),trivial⟩ (congrArg (fun l=>[(E0,AM.buf 4 (List.map stC l))]) (by simp only[List.append_assoc]))⟩
        ·
         simp only[bs] at hc13
         refine aP ?_
         exact⟨(),trivial,cJ ⟨(by first | rfl | exact aU (by omega)),(by first | rfl | exact aU (by omega)),(by first | rfl | exact aU (by omega)),(by first | rfl | exact aU (by omega)),(by first | rfl | exact aU (by omega)),(by first | rfl | exact aU (by omega)),(by first | rfl | exact aU (by omega)),trivial⟩ (by rw[aJi (p:=p) (s1:=s1) (s2:=s2) (q:=q) (S:=S) (K:=K) (by omega)])⟩
       ·
        simp only[bs] at hg12
        refine aE aA 3 rfl (aD (hK44 _ (bJ rfl (aP ?_))))
        exact⟨(),trivial,cJ ⟨(by first | rfl | exact aU (by omega)),(by first | rfl | exact aU (by omega)),(by first | rfl | exact aU (by omega)),(by first | rfl | exact aU (by omega)),(by first | rfl | exact aU (by omega)),(by first | rfl | exact aU (by omega)),(by first | rfl | exact aU (by omega)),trivial⟩ (by rw[aJi (p:=p) (s1:=s1) (s2:=s2) (q:=q) (S:=S) (K:=K) (by omega)])⟩
      ·
       intro w hj
       refine aIx (ι:=List cB) (fun l=>⟨220,[(0,.own E0 4 0 N),(3,.s (.int .i64 ((p.length+s1.length+s2.length:Nat):Int))),(4,.fn g []),(18,.s (.int .i64 ((p.length+M:Nat):Int))),(24,.s (.int .i64 ((p.length+s1.length+K:Nat):Int)))],[(E0,.buf 4 (List.map stC (p++(l++((s1.drop S++s2.drop K)++q)))))]⟩) (fun l=>l.Perm (s1.take S++s2.take K)∧Srt c l) ?_ ?_
       ·
        refine aC (fun K46 hK46=>(aB (aE aA 4 rfl (bC rfl rfl rfl (fun hg15=>?_) (fun hg15=>?_)))))
        ·
         simp only[bs] at hg15
         refine aH rfl (fD rfl) (aE aA 3 rfl (aD (hK46 _ (aO rfl (fun hc16=>?_) (fun hc16=>?_)))))
         ·
          simp only[bs] at hc16
          refine aB ?_
          rw[List.append_assoc (s1.take S)]
          refine aE aA 5 rfl (iD hf E0 rfl rfl rfl rfl rfl rW (ih p (s1.take S) (s2.take K) ((s1.drop S++s2.drop K)++q) N _ _ _ (by(try simp only[List.length_take,List.length_drop,List.length_append]); omega) (by(try simp only[List.length_take,List.length_drop,List.length_append]); omega) rfl (by(try simp only[List.length_take,List.length_drop,List.length_append]); omega) (by(try simp only[List.length_take,List.length_drop,List.length_append]); omega) (by(try simp only[List.length_take,List.length_drop,List.length_append]); omega) (by(try simp only[List.length_take,List.length_drop,List.length_append]); omega) (hs1.take S) (hs2.take K) hM) ?_)
          rintro r zs ⟨lq,hl1,hl2,rfl⟩
          refine aD ?_
          exact⟨lq,⟨hl1,hl2⟩,cJ ⟨(by first | rfl | exact aU (by omega)),(by first | rfl | exact aU (by omega)),(by first | rfl | exact aU (by omega)),(by first | rfl | exact aU (by omega)),(by first | rfl | exact aU (by omega)),trivial⟩ rfl⟩
         ·
          simp only[bs] at hc16
          refine aP ?_
          exact⟨s1.take S++s2.take K,⟨.refl _,aJm hs1 hs2 (by omega)⟩,cJ ⟨(by first | rfl | exact aU (by omega)),(by first | rfl | exact aU (by omega)),(by first | rfl | exact aU (by omega)),(by first | rfl | exact aU (by omega)),(by first | rfl | exact aU (by omega)),trivial⟩ rfl⟩
        ·
         simp only[bs] at hg15
         refine aE aA 3 rfl (aD (hK46 _ (bJ rfl (aP ?_))))
         exact⟨s1.take S++s2.take K,⟨.refl _,aJm hs1 hs2 (by omega)⟩,cJ ⟨(by first | rfl | exact aU (by omega)),(by first | rfl | exact aU (by omega)),(by first | rfl | exact aU (by omega)),(by first | rfl | exact aU (by omega)),(by first | rfl | exact aU (by omega)),trivial⟩ rfl⟩
       ·
        intro l hj
        obtain ⟨hl1,hl2⟩:=hj
        have hll:=hl1.length_eq
        rw[List.length_append,List.length_take,List.length_take] at hll
        refine aC (fun K47 hK47=>(aB (aE aA 4 rfl (bC rfl rfl rfl (fun hg18=>?_) (fun hg18=>?_)))))
        ·
         simp only[bs] at hg18
         refine aH rfl (fD rfl) (aE aA 3 rfl (aD (hK47 _ (aO rfl (fun hc19=>?_) (fun hc19=>?_)))))
         ·
          simp only[bs] at hc19
          refine aB ?_
          rw[show p++(l++((s1.drop S++s2.drop K)++q))=(p++l)++(s1.drop S++(s2.drop K++q)) from by simp only[List.append_assoc]]
          refine aE aA 5 rfl (iD hf E0 rfl rfl rfl rfl rfl rW (ih (p++l) (s1.drop S) (s2.drop K) q N _ _ _ (by(try simp only[List.length_take,List.length_drop,List.length_append]); omega) (by(try simp only[List.length_take,List.length_drop,List.length_append]); omega) (by(try simp only[List.length_take,List.length_drop,List.length_append]); omega) (by(try simp only[List.length_take,List.length_drop,List.length_append]); omega) (by(try simp only[List.length_take,List.length_drop,List.length_append]); omega) (by(try simp only[List.length_take,List.length_drop,List.length_append]); omega) (by(try simp only[List.length_take,List.length_drop,List.length_append]); omega) (hs1.drop S) (hs2.drop K) hM) ?_)
          rintro r zs ⟨rq,hr1,hr2,rfl⟩
          refine bL ?_
          exact⟨_,_,_,Le.refl _,rfl,rfl,l++rq,uU hl1 hr1,Srt.append hl2 hr2 (aDk hl1 hr1 hsep),by simp only[List.append_assoc]⟩
         ·
          simp only[bs] at hc19
          refine aP ?_
          exact⟨_,_,_,Le.refl _,rfl,rfl,l++(s1.drop S++s2.drop K),uU hl1 (.refl _),Srt.append hl2 (aGv hs1 hs2 (by omega)) (aDk hl1 (.refl _) hsep),by simp only[List.append_assoc]⟩
        ·
         simp only[bs] at hg18
         refine aE aA 3 rfl (aD (hK47 _ (bJ rfl (aP ?_))))
         exact⟨_,_,_,Le.refl _,rfl,rfl,l++(s1.drop S++s2.drop K),uU hl1 (.refl _),Srt.append hl2 (aGv hs1 hs2 (by omega)) (aDk hl1 (.refl _) hsep),by simp only[List.append_assoc]⟩
theorem wZ {g:Nat} (hent:∀ args w,(callFunc g args).run Tryz.prog w=.ok (.enter g args) w) {c:cB→cB→Int} (hc:Tri c) (hcmp:∀ x y:cB,Den Tryz.prog g [.agg (stC x),.agg (stC y)] (·=.s (.int .i64 (c x y)))):∀ (NN:Nat) (p s1 s2 q:List cB) (N:Nat) (za zm zb:Int),s1.length+s2.length≤NN→N=p.length+s1.length+s2.length+q.length→za=(p.length:Nat)→zm=((p.length+s1.length:Nat):Int)→zb=((p.length+s1.length+s2.length:Nat):Int)→0<s1.length→0<s2.length→Srt c s1→Srt c s2→N<4611686018427387904→DenM Tryz.prog 217 [.own E0 4 0 N,.s (.int .i64 za),.s (.int .i64 zm),.s (.int .i64 zb),.fn g []] 4 (List.map stC (p++(s1++(s2++q)))) (fun r ys=>∃ t:List cB,t.Perm (s1++s2)∧Srt c t∧ys=(List.map stC (p++(t++q))))
 | 0,p,s1,s2,q,N,za,zm,zb,hle,_,_,_,_,h01,_,_,_,_=>by exfalso; omega
 | NN+1,p,s1,s2,q,N,za,zm,zb,hle,hN,hza,hzm,hzb,h01,h02,hs1,hs2,hM=>aDf hent hc hcmp NN (wZ hent hc hcmp NN) p s1 s2 q N za zm zb hle hN hza hzm hzb h01 h02 hs1 hs2 hM
theorem aFu {g:Nat} (hent:∀ args w,(callFunc g args).run Tryz.prog w=.ok (.enter g args) w) {c:cB→cB→Int} (hc:Tri c) (hcmp:∀ x y:cB,Den Tryz.prog g [.agg (stC x),.agg (stC y)] (·=.s (.int .i64 (c x y)))) (s0:List cB) (N:Nat) (hN:N=s0.length) (hM:N<4611686018427387904) :DenM Tryz.prog 175 [.own E0 4 0 N,.s (.int .i64 (N:Nat)),.fn g []] 4 ((List.map stC (s0))) (fun r ys=>∃ t:List cB,t.Perm s0∧Srt c t∧ys=(List.map stC (t))):=by
 refine iA Tryz.func175 rfl (Nat.le_of_ble_eq_true rfl) (fun w0 x0 A hf=>?_)
 refine aC (fun K1 hK1=>(aB (aE aA 1 rfl (aD (hK1 _ (aC (fun K2 hK2=>(aB (aE aA 3 rfl (aD (hK2 _ (aC (fun K3 hK3=>(aR (bY (ι:=List cB×List cB) (fun(⟨x,y⟩:List cB×List cB)=>⟨63,[(0,.own E0 4 0 N),(1,.s (.int .i64 (N:Nat))),(2,.fn g []),(6,.s (.int .i64 20)),(7,.s (.int .i64 (x.length:Nat))),(8,.s (.int .i64 ((x.length+20:Nat):Int)))],[(E0,.buf 4 (List.map stC (x++y)))]⟩) (fun(⟨x,y⟩:List cB×List cB)=>Fu c 20 x∧(x++y).Perm s0) (fun(⟨x,y⟩:List cB×List cB)=>y.length) ([],s0) ?_ ?_ ?_)))))))))))))))
 · exact⟨.nil,.refl _⟩
 · exact cW rfl
 ·
  rintro ⟨x,y⟩ hC
  obtain ⟨hd,hp⟩:=hC
  have hpl:=hp.length_eq
  rw[List.length_append] at hpl
  refine aC (fun K4 hK4=>(aC (fun K5 hK5=>(aB (aE aA 3 rfl (aD (hK5 _ (aO rfl (fun hc1=>?_) (fun hc1=>?_)))))))))
  ·
   simp only[bs] at hc1
   refine aP (hK4 _ (aR (aC (fun K6 hK6=>(aB ?_)))))
   have htk:=List.length_take (i:=20) (l:=y)
   have hdk:=List.length_drop (i:=20) (l:=y)
   rw[show x++y=x++(y.take 20++y.drop 20) from by rw[List.take_append_drop]]
   refine aE aA 4 rfl (iD hf E0 rfl rfl rfl rfl rfl aBo (aDg hent hc hcmp x (y.take 20) (y.drop 20) N _ _ (by omega) (by omega) (by omega) hM) ?_)
   rintro r zs ⟨t,ht1,ht2,rfl⟩
   have htl:=ht1.length_eq
   refine aD (hK6 _ (aC (fun K7 hK7=>(aB (aE aA 2 rfl (aD (hK7 _ (aB (aE aA 2 rfl ?_)))))))))
   refine aH rfl (bS rfl rfl (by omega) (by omega)) ?_
   refine aE aA 1 rfl ?_
   refine bL ?_
   exact⟨(x++t,y.drop 20),⟨.cons hd ht2 (by have:=ht1.length_eq; rw[List.length_take] at this; omega),(show ((x++t)++y.drop 20).Perm s0 from (by rw[List.append_assoc]; exact(List.Perm.append_left x ((List.Perm.append_right _ ht1).trans (by rw[List.take_append_drop]))).trans hp))⟩,by simp only[List.length_drop]; omega,cJ ⟨(by first | rfl | exact aU (by simp only[List.length_append]; omega)),(by first | rfl | exact aU (by simp only[List.length_append]; omega)),(by first | rfl | exact aU (by simp only[List.length_append]; omega)),(by first | rfl | exact aU (by simp only[List.length_append]; omega)),(by first | rfl | exact aU (by simp only[List.length_append]; omega)),(by first | rfl | exact aU (by simp only[List.length_append]; omega)),trivial⟩ (by rw[List.append_assoc]; rfl)⟩
  ·
   simp only[bs] at hc1
   refine bF (hK3 _ (aC (fun K8 hK8=>(aB ?_))))
   rw[show x++y=x++(y++[]) from by rw[List.append_nil]]
   refine aE aA 4 rfl (iD hf E0 rfl rfl rfl rfl rfl aBo (aDg hent hc hcmp x y [] N _ _ (by simp only[List.length_nil]; omega) (by omega) (by omega) hM) ?_)
   rintro r zs ⟨t0,ht01,ht02,rfl⟩
   refine aD (hK8 _ (aR (bY (ι:=Nat×List cB) (fun(⟨bz,l⟩:Nat×List cB)=>⟨63,[(0,.own E0 4 0 N),(1,.s (.int .i64 (N:Nat))),(2,.fn g []),(6,.s (.int .i64 (bz:Nat)))],[(E0,.buf 4 (List.map stC (l)))]⟩) (fun(⟨bz,l⟩:Nat×List cB)=>0<bz∧bz<9223372036854775808∧Ch c bz l∧l.Perm s0) (fun(⟨bz,l⟩:Nat×List cB)=>N - bz) (20,x++t0) ?_ ?_ ?_)))
   · exact⟨by decide,by decide,hd.ch (.last ht02 (by have:=ht01.length_eq; omega)),(List.Perm.append_left x ht01).trans hp⟩
   · exact cJ ⟨rfl,rfl,rfl,rfl,trivial⟩ (by rw[List.append_nil]; rfl)
   ·
    rintro ⟨bz,l⟩ hC
    obtain ⟨hb0,hb1,hch,hlp⟩:=hC
    have hll:=hlp.length_eq
    refine aC (fun K9 hK9=>(aC (fun K10 hK10=>(aB (aE aA 3 rfl (aD (hK10 _ (aO rfl (fun hc2=>?_) (fun hc2=>?_)))))))))
    ·
     simp only[bs] at hc2
     refine aP (hK9 _ (aR (aC (fun K11 hK11=>(aB (aE aA 1 rfl (aH rfl (aQj rfl rfl rfl (by omega) (by omega)) (aE aA 2 rfl (aD (hK11 _ (aC (fun K12 hK12=>(aR (bY (ι:=List cB×List cB) (fun(⟨x,y⟩:List cB×List cB)=>⟨63,[(0,.own E0 4 0 N),(1,.s (.int .i64 (N:Nat))),(2,.fn g []),(6,.s (.int .i64 (bz:Nat))),(7,.s (.int .i64 (x.length:Nat))),(8,.s (.int .i64 ((x.length+2*bz:Nat):Int)))],[(E0,.buf 4 (List.map stC (x++y)))]⟩) (fun(⟨x,y⟩:List cB×List cB)=>Fu c (2*bz) x∧Ch c bz y∧(x++y).Perm s0) (fun(⟨x,y⟩:List cB×List cB)=>y.length) ([],l) ?_ ?_ ?_))))))))))))))
     · exact⟨.nil,hch,hlp⟩
     · exact cJ ⟨rfl,rfl,rfl,rfl,rfl,aU (by simp only[List.length_nil]; omega),trivial⟩ rfl
     ·
      rintro ⟨x,y⟩ hC
      obtain ⟨hd2,hr2,hp2⟩:=hC
      have hpl2:=hp2.length_eq
      rw[List.length_append] at hpl2
      refine aC (fun K13 hK13=>(aC (fun K14 hK14=>(aB (aE aA 3 rfl (aD (hK14 _ (aO rfl (fun hc3=>?_) (fun hc3=>?_)))))))))
      ·
       simp only[bs] at hc3
       refine aP (hK13 _ (aR (aC (fun K15 hK15=>(aB ?_)))))
       obtain ⟨sa,sb,r3,hy,hsa1,hsa2,hsb1,hsb2,hr3⟩:=hr2.pair hb0 (by omega)
       subst hy
       simp only[List.length_append] at hpl2
       refine aE aA 4 rfl ?_
       refine aH rfl (bS rfl rfl (by omega) (by omega)) ?_
       refine aE aA 2 rfl (iD hf E0 rfl rfl rfl rfl rfl rW (wZ hent hc hcmp (sa.length+sb.length) x sa sb r3 N _ _ _ (Nat.le_refl _) (by omega) (by omega) (by omega) (by omega) (by omega) (by omega) hsa1 hsb1 hM) ?_)
       rintro r zs ⟨tt,htt1,htt2,rfl⟩
       have httl:=htt1.length_eq
       rw[List.length_append] at httl
       refine aD (hK15 _ (aC (fun K16 hK16=>(aB (aE aA 2 rfl (aD (hK16 _ (aB (aE aA 2 rfl (aH rfl (aQj rfl rfl rfl (by omega) (by omega)) ?_))))))))))
       refine aH rfl (bS rfl rfl (by omega) (by omega)) ?_
       refine aE aA 1 rfl ?_
       refine bL ?_
       exact⟨(x++tt,r3),⟨.cons hd2 htt2 (by have:=htt1.length_eq; rw[List.length_append] at this; omega),hr3,(show ((x++tt)++r3).Perm s0 from (by rw[List.append_assoc]; exact(List.Perm.append_left x ((List.Perm.append_right r3 htt1).trans (by rw[List.append_assoc]))).trans hp2))⟩,by simp only[List.length_append]; omega,cJ ⟨(by first | rfl | exact aU (by simp only[List.length_append]; omega)),(by first | rfl | exact aU (by simp only[List.length_append]; omega)),(by first | rfl | exact aU (by simp only[List.length_append]; omega)),(by first | rfl | exact aU (by simp only[List.length_append]; omega)),(by first | rfl | exact aU (by simp only[List.length_append]; omega)),(by first | rfl | exact aU (by simp only[List.length_append]; omega)),trivial⟩ (by rw[List.append_assoc]; rfl)⟩
      ·
       simp only[bs] at hc3
       refine bF (hK12 _ (aC (fun K17 hK17=>(aC (fun K18 hK18=>(aB (aE aA 2 rfl ?_)))))))
       refine aH rfl (bS rfl rfl (by omega) (by omega)) ?_
       refine aE aA 1 rfl (aD (hK18 _ (aC (fun K19 hK19=>(aB (aE aA 3 rfl (aD (hK19 _ (aO rfl (fun hc4=>?_) (fun hc4=>?_))))))))))
       ·
        simp only[bs] at hc4
        refine aB ?_
        obtain ⟨sa,sb,hy,hsa1,hsa2,hsb1,hsb2⟩:=hr2.rest (by omega) (by omega)
        subst hy
        simp only[List.length_append] at hpl2
        rw[show x++(sa++sb)=x++(sa++(sb++[])) from by rw[List.append_nil]]
        refine aE aA 5 rfl (iD hf E0 rfl rfl rfl rfl rfl rW (wZ hent hc hcmp (sa.length+sb.length) x sa sb [] N _ _ _ (Nat.le_refl _) (by simp only[List.length_nil]; omega) (by omega) (by omega) (by omega) (by omega) (by omega) hsa1 hsb1 hM) ?_)
        rintro r zs ⟨tq,htq1,htq2,rfl⟩
        refine aD (hK17 _ (aB (aE aA 1 rfl (aH rfl (aQj rfl rfl rfl (by omega) (by omega)) (aE aA 1 rfl ?_)))))
        refine bL ?_
        exact⟨(2*bz,x++tq),⟨by omega,by omega,hd2.ch (.last htq2 (by have:=htq1.length_eq; rw[List.length_append] at this; omega)),(List.Perm.append_left x htq1).trans hp2⟩,by simp only; omega,cJ ⟨(by first | rfl | exact aU (by omega)),(by first | rfl | exact aU (by omega)),(by first | rfl | exact aU (by omega)),(by first | rfl | exact aU (by omega)),trivial⟩ (by rw[List.append_nil]; rfl)⟩
       ·
        simp only[bs] at hc4
        refine aP (hK17 _ (aB (aE aA 1 rfl (aH rfl (aQj rfl rfl rfl (by omega) (by omega)) (aE aA 1 rfl ?_)))))
        refine bL ?_
        exact⟨(2*bz,x++y),⟨by omega,by omega,hd2.ch (.last (hr2.short (by omega)) (by omega)),hp2⟩,by simp only; omega,cJ ⟨(by first | rfl | exact aU (by omega)),(by first | rfl | exact aU (by omega)),(by first | rfl | exact aU (by omega)),(by first | rfl | exact aU (by omega)),trivial⟩ rfl⟩
    ·
     simp only[bs] at hc2
     refine bF ?_
     exact⟨_,_,_,Le.refl _,rfl,rfl,l,hlp,hch.short (by omega),rfl⟩
theorem yE {g:Nat} (hent:∀ args w,(callFunc g args).run Tryz.prog w=.ok (.enter g args) w) {c:cB→cB→Int} (hc:Tri c) (hcmp:∀ x y:cB,Den Tryz.prog g [.agg (stC x),.agg (stC y)] (·=.s (.int .i64 (c x y)))) (s0:List cB) (N:Nat) (hN:N=s0.length) (hM:N<4611686018427387904) :DenM Tryz.prog 116 [.own E0 4 0 N,.fn g []] 4 ((List.map stC (s0))) (fun r ys=>∃ t:List cB,t.Perm s0∧Srt c t∧ys=(List.map stC (t))):=by
 refine iA Tryz.func116 rfl (Nat.le_of_ble_eq_true rfl) (fun w0 x0 A hf=>?_)
 refine aB (aE aA 4 rfl (iD hf E0 rfl rfl rfl rfl rfl aMz (aFu hent hc hcmp s0 N hN hM) ?_))
 rintro r zs ⟨t,ht1,ht2,rfl⟩
 refine bL ?_
 exact⟨_,_,_,Le.refl _,rfl,rfl,t,ht1,ht2,rfl⟩
end Go.Proofs.YtijnkglkchhomaaGreat
set_option linter.unusedVariables false
set_option linter.unusedSimpArgs false
namespace Go.Proofs.YtijnkglkchhomaaGreat
open Go Go.Abs
end Go.Proofs.YtijnkglkchhomaaGreat
set_option linter.unusedVariables false
set_option linter.unusedSimpArgs false
namespace Go.Proofs.YtijnkglkchhomaaGreat
open Go Go.Abs
theorem sP (a:Int) :Den Tryz.prog 109 [.s (.int .i64 a)]  (·=.s (.bool false)):=by
 refine aY Tryz.func109 rfl (Nat.le_of_ble_eq_true rfl) (fun w0 A hf=>(aC (fun K1 hK1=>(aB (aE aA 1 rfl (aD (hK1 _ (aC (fun K2 hK2=>(aB (aE aA 4 rfl (aD (hK2 _ (aN ?_))))))))))))))
 refine⟨_,rfl,?_⟩
 refine aS ?_
 simp
theorem jU (a b:Int) :Den Tryz.prog 57 [.s (.int .i64 a),.s (.int .i64 b)]  (·=.s (.int .i64 (lX a b))):=by
 refine aY Tryz.func57 rfl (Nat.le_of_ble_eq_true rfl) (fun w0 A hf=>(aC (fun K1 hK1=>(aB (aE aA 1 rfl (aD (hK1 _ (aC (fun K2 hK2=>(aB (aE aA 1 rfl (aM hf rfl (aQ rfl rfl aB1 rfl (sP _)) (aE aA 1 rfl (aD (hK2 _ ?_)))))))))))))))
 refine aC (fun K3 hK3=>(aB (aE aA 1 rfl (aM hf rfl (aQ rfl rfl aB1 rfl (sP _)) (aE aA 1 rfl (aD (hK3 _ (aC (fun K4 hK4=>(aC (fun K5 hK5=>(aB (aE aA 1 rfl (aD (hK5 _ ?_)))))))))))))))
 refine bJ rfl (aP (hK4 _ (aC (fun K6 hK6=>(aC (fun K7 hK7=>(aB (aE aA 1 rfl (aD (hK7 _ (bJ rfl (aP (hK6 _ (aC (fun K8 hK8=>?_)))))))))))))))
 refine aC (fun K9 hK9=>(aB (aE aA 3 rfl (aD (hK9 _ (aO rfl (fun hc3=>?_) (fun hc3=>?_)))))))
 ·
  simp only[bs] at hc3
  refine aC (fun K10 hK10=>(aB (aE aA 1 rfl (aD (hK10 _ (aN ?_))))))
  refine⟨_,rfl,?_⟩
  refine eR ?_
  unfold lX
  (repeat' split) <;> first | rfl | omega
 ·
  simp only[bs] at hc3
  refine aP (hK8 _ (aC (fun K11 hK11=>(aC (fun K12 hK12=>(aB (aE aA 3 rfl (aD (hK12 _ (aO rfl (fun hc4=>?_) (fun hc4=>?_)))))))))))
  ·
   simp only[bs] at hc4
   refine aC (fun K13 hK13=>(aB (aE aA 1 rfl (aD (hK13 _ (aN ?_))))))
   refine⟨_,rfl,?_⟩
   refine eR ?_
   unfold lX
   (repeat' split) <;> first | rfl | omega
  ·
   simp only[bs] at hc4
   refine aP (hK11 _ (aC (fun K14 hK14=>(aB (aE aA 1 rfl (aD (hK14 _ (aN ?_))))))))
   refine⟨_,rfl,?_⟩
   refine eR ?_
   unfold lX
   (repeat' split) <;> first | rfl | omega
theorem yO (s:Sp) :Den Tryz.prog 115 [.agg (spC s)]  (·=.s (.bool (decide (s.2≤s.1)))):=by
 refine aY Tryz.func115 rfl (Nat.le_of_ble_eq_true rfl) (fun w0 A hf=>(aC (fun K1 hK1=>(aB (aM hf rfl (cT rfl rfl (lf rfl)) (aE aA 1 rfl (aD (hK1 _ (aC (fun K2 hK2=>(aB (aE aA 6 rfl (aD (hK2 _ (aN ?_)))))))))))))))
 refine⟨_,rfl,?_⟩
 rfl
end Go.Proofs.YtijnkglkchhomaaGreat
namespace Go.Proofs
open Go.Shelf
end Go.Proofs
set_option linter.unusedVariables false
set_option linter.unusedSimpArgs false
namespace Go.Proofs.YtijnkglkchhomaaGreat
open Go Go.Abs
end Go.Proofs.YtijnkglkchhomaaGreat
set_option linter.unusedVariables false
set_option linter.unusedSimpArgs false
namespace Go.Proofs.YtijnkglkchhomaaGreat
open Go Go.Abs
theorem xD (l:List cB) (hl:l.length*32≤140737488355328) :DenO Tryz.prog 69 [.sl 4 (l.map stC)] 4 (·=(l.map stC)):=by
 refine fY Tryz.func69 rfl (Nat.le_of_ble_eq_true rfl) (fun w0 A hf=>?_)
 refine aC (fun K1 hK1=>(aB (aH rfl (bR) (aD (hK1 _ (aC (fun K2 hK2=>(aC (fun K3 hK3=>(aB (aE aA 1 rfl ?_)))))))))))
 refine oF rfl rfl rfl cS (fun b hb1=>?_)
 refine aD (hK3 _ (aO rfl (fun hc2=>?_) (fun hc2=>?_)))
 ·
  have hl0:l=[]:=by simpa using hb1 (by assumption)
  refine aC (fun K4 hK4=>(aB (jT hf 4 rfl rfl rfl (aD (hK4 _ (aN ?_))))))
  exact⟨2,[],by decide,rfl,rfl,by rw[hl0]; rfl⟩
 ·
  refine aP (hK2 _ (aC (fun K5 hK5=>(aB (cP hf rfl rfl rfl jQ rfl rfl rfl rfl (l2 rfl) ?_)))))
  refine aE aA 1 rfl (bZ hf rfl jQ rfl rfl rfl (.inl rfl) rfl rfl (by first | rfl | simp [eB,bV]) (by first | (simp only[maxLen,List.length_map,List.length_append,List.length_cons,List.length_nil]; omega) | (simp [maxLen] <;> omega)) (by first | (simp only[List.length_map,List.length_append,List.length_cons,List.length_nil]; omega) | (simp <;> omega)) ?_)
  refine bM (dY [7] rfl) (aE aA 1 rfl (aD (hK5 _ (aN ?_))))
  refine⟨5,(l.map stC),by decide,rfl,?_,rfl⟩
  show some (AV.own 5 4 0 (0+(l.map stC).length))=_
  rw[Nat.zero_add]
theorem aRe (n:Nat) (hn:n*32≤140737488355328) :DenO Tryz.prog 177 [.s (.slice none 0 0),.s (.int .i64 (n:Nat))] 4 (·=[]):=by
 refine fY Tryz.func177 rfl (Nat.le_of_ble_eq_true rfl) (fun w0 A hf=>?_)
 refine aC (fun K1 hK1=>(aB (aH rfl (bR) (aD (hK1 _ (aC (fun K2 hK2=>(aC (fun K3 hK3=>(aB (aE aA 2 rfl (aD (hK3 _ (aO rfl (fun hc1=>?_) (fun hc1=>?_)))))))))))))))
 ·
  simp only[bs] at hc1
  omega
 ·
  simp only[bs] at hc1
  refine aP (hK2 _ (aC (fun K4 hK4=>(aC (fun K5 hK5=>(aB (aE aA 2 rfl (aH rfl (nD rfl cS) (aE aA 2 rfl ?_)))))))))
  refine aH rfl (gF rfl rfl (by omega) (by omega)) ?_
  refine aH rfl (gF rfl rfl (by omega) (by omega)) ?_
  refine aE aA 1 rfl (aD (hK5 _ (aC (fun K6 hK6=>(aB (aE aA 2 rfl (aD (hK6 _ (aO rfl (fun hc2=>?_) (fun hc2=>?_))))))))))
  ·
   simp only[bs] at hc2
   refine aB (aE aA 2 rfl (aH rfl (nD rfl cS) ?_))
   refine aH rfl (rL rfl cS bH rfl) ?_
   refine aE aA 1 rfl (vM hf rfl rfl rfl jQ Tryz.underlying3 rfl rfl (by omega) (by omega) (by simp only[maxLen]; omega) ?_)
   refine aE aA 2 rfl ?_
   refine aH rfl (fL rfl cS bH rfl rfl (by omega) (by omega)) ?_
   refine aE aA 1 rfl (aD (hK4 _ (aC (fun K7 hK7=>(aB (aE aA 1 rfl ?_))))))
   refine aH rfl (uM rfl) ?_
   refine aD (hK7 _ (aN ?_))
   exact⟨22,[],by decide,rfl,rfl,rfl⟩
  ·
   simp only[bs] at hc2
   refine aP (hK4 _ (aC (fun K8 hK8=>(aB (aE aA 1 rfl ?_)))))
   refine aHq hf 4 rfl rfl rfl rfl ?_
   refine aD (hK8 _ (aN ?_))
   exact⟨4,[],by decide,rfl,rfl,rfl⟩
theorem aAy (rows:List (List cB)) (hl:rows.length≤9223372036854775807) (hb:rows.flatten.length*32≤140737488355328) :DenO Tryz.prog 118 [.sl 1 (rows.map fun r=>[AV.sl 4 (r.map stC)])] 4 (·=(rows.flatten.map stC)):=by
 refine fY Tryz.func118 rfl (Nat.le_of_ble_eq_true rfl) (fun w0 A hf=>?_)
 refine aC (fun K1 hK1=>(aB (aH rfl (bR) (aD (hK1 _ (aC (fun K2 hK2=>(aB (aE aA 1 rfl (aD (hK2 _ (aC (fun K3 hK3=>(aC (fun K4 hK4=>(aB ?_))))))))))))))))
 refine aE aA 3 rfl (aD (hK4 _ (aR (bY (ι:=Nat) (fun k=>⟨36,[(0,.sl 1 (rows.map fun r=>[AV.sl 4 (r.map stC)])),(3,.s (.int .i64 ((rows.take k).flatten.length:Nat))),(9,.sl 1 (rows.map fun r=>[AV.sl 4 (r.map stC)])),(10,.s (.int .i64 ((rows.map fun r=>[AV.sl 4 (r.map stC)]).length:Nat))),(11,.s (.int .i64 (k:Nat)))],[]⟩) (fun k=>k≤rows.length) (fun k=>rows.length - k) 0 ?_ ?_ ?_))))
 · exact Nat.zero_le _
 · exact cW rfl
 ·
  rintro k hC
  refine aC (fun K5 hK5=>(aB (aE aA 1 rfl (aD (hK5 _ (aC (fun K6 hK6=>(aO rfl (fun hc1=>?_) (fun hc1=>?_)))))))))
  ·
   simp only[bs] at hc1
   refine aP (hK6 _ (aC (fun K7 hK7=>(aR (aC (fun K8 hK8=>(aB ?_)))))))
   refine aH rfl (bA rfl rfl aHo vL (by first | exact ixm (by omega) | assumption | exact⟨by decide,rfl⟩)) ?_
   refine aE aA 2 rfl (aD (hK8 _ (aC (fun K9 hK9=>(aB ?_)))))
   have hk:k<rows.length:=by omega
   have e1:=congrArg List.length (iI rows k hk)
   rw[List.length_append] at e1
   have e2:=rO rows (k+1)
   have e3:(rows[k].map stC).length=rows[k].length:=List.length_map _
   refine aE aA 3 rfl ?_
   refine aH rfl (bS rfl rfl (by omega) (by omega)) ?_
   rw[show ((((rows.take k).flatten.length:Nat):Int)+(((rows[k].map stC).length:Nat):Int))=(((rows.take (k+1)).flatten.length:Nat):Int) from by omega]
   refine aE aA 1 rfl (aD (hK9 _ (aC (fun K10 hK10=>(aB (aE aA 2 rfl (aD (hK10 _ (aO rfl (fun hc2=>?_) (fun hc2=>?_))))))))))
   ·
    simp only[bs] at hc2
    omega
   ·
    simp only[bs] at hc2
    refine aP (hK7 _ (aB ?_))
    refine aH rfl (bS rfl rfl (by omega) (by omega)) ?_
    refine aE aA 1 rfl (aD ?_)
    exact⟨k+1,(by omega),by omega,cW rfl⟩
  ·
   simp only[bs] at hc1
   refine bF (hK3 _ (aC (fun K11 hK11=>(aB ?_))))
   rw[List.take_of_length_le (show rows.length≤k by omega)]
   refine aE aA 1 rfl (iP hf rfl rfl rfl rfl rfl aMy rfl (aRe rows.flatten.length (by omega)) ?_)
   rintro _ rfl
   refine aE aA 1 rfl (aD (hK11 _ (aC (fun K12 hK12=>(aC (fun K13 hK13=>(aB (aE aA 3 rfl (aD (hK13 _ (aR (bY (ι:=Nat) (fun j=>⟨36,[(6,.own 24 4 0 (rows.take j).flatten.length),(25,.sl 1 (rows.map fun r=>[AV.sl 4 (r.map stC)])),(26,.s (.int .i64 ((rows.map fun r=>[AV.sl 4 (r.map stC)]).length:Nat))),(27,.s (.int .i64 (j:Nat)))],[(24,.buf 4 ((rows.take j).flatten.map stC))]⟩) (fun j=>j≤rows.length) (fun j=>rows.length - j) 0 ?_ ?_ ?_))))))))))))
   · exact Nat.zero_le _
   · exact cW rfl
   ·
    rintro j hC
    refine aC (fun K14 hK14=>(aB (aE aA 1 rfl (aD (hK14 _ (aC (fun K15 hK15=>(aO rfl (fun hc3=>?_) (fun hc3=>?_)))))))))
    ·
     simp only[bs] at hc3
     refine aP (hK15 _ (aC (fun K16 hK16=>(aR (aC (fun K17 hK17=>(aB ?_)))))))
     refine aH rfl (bA rfl rfl aHo vL (by first | exact ixm (by omega) | assumption | exact⟨by decide,rfl⟩)) ?_
     refine aE aA 2 rfl (aD (hK17 _ (aB ?_)))
     have hj:j<rows.length:=by omega
     have e1:=congrArg List.length (iI rows j hj)
     rw[List.length_append] at e1
     have e2:=rO rows (j+1)
     have e3:(rows[j].map stC).length=rows[j].length:=List.length_map _
     refine aE aA 2 rfl (bZ hf rfl jQ rfl rfl rfl (.inl rfl) (by simp only[List.length_map]) rfl (by first | rfl | simp [eB,bV]) (by first | (simp only[maxLen,List.length_map,List.length_append,List.length_cons,List.length_nil]; omega) | (simp [maxLen] <;> omega)) (by first | (simp only[List.length_map,List.length_append,List.length_cons,List.length_nil]; omega) | (simp <;> omega)) ?_)
     refine bM (dY [25,26,27,33] rfl) ?_
     rw[show (rows.take j).flatten.length+(rows[j].map stC).length=(rows.take (j+1)).flatten.length from by omega,← List.map_append,← iI rows j hj]
     refine aE aA 1 rfl ?_
     refine bL ?_
     refine hK16 _ (aB ?_)
     refine aH rfl (bS rfl rfl (by omega) (by omega)) ?_
     refine aE aA 1 rfl (aD ?_)
     exact⟨j+1,(by omega),by omega,cW rfl⟩
    ·
     simp only[bs] at hc3
     refine bF (hK12 _ (aC (fun K18 hK18=>(aB (aE aA 2 rfl (aD (hK18 _ (aN ?_))))))))
     refine⟨24,(rows.flatten.map stC),by decide,?_,?_,rfl⟩
     · rw[List.take_of_length_le (show rows.length≤j by omega)]; rfl
     · rw[List.take_of_length_le (show rows.length≤j by omega)]
       show some (AV.own 24 4 0 rows.flatten.length)=_
       rw[List.length_map]
theorem aN5 (a b:List cB) (ha:a.length≤9223372036854775807) (hb:b.length≤9223372036854775807) :Den Tryz.prog 121 [.sl 4 (a.map stC),.sl 4 (b.map stC)]  (·=.s (.bool (decide (a=b)))):=by
 refine aY Tryz.func121 rfl (Nat.le_of_ble_eq_true rfl) (fun w0 A hf=>(aC (fun K1 hK1=>(aB (aE aA 1 rfl (aD (hK1 _ (aC (fun K2 hK2=>(aC (fun K3 hK3=>(aB (aE aA 5 rfl (aD (hK3 _ (aO rfl (fun hc1=>?_) (fun hc1=>?_)))))))))))))))))
 ·
  simp only[bs] at hc1
  refine aC (fun K4 hK4=>(aB (aE aA 1 rfl (aD (hK4 _ (aN ?_))))))
  refine⟨_,rfl,?_⟩
  refine aS ?_
  rw[nH (by omega)]
 ·
  simp only[bs] at hc1
  refine aP (hK2 _ (aC (fun K5 hK5=>(aC (fun K6 hK6=>(aB (aE aA 3 rfl (aD (hK6 _ (aR (bY (ι:=Nat) (fun k=>⟨26,[(0,.sl 4 (a.map stC)),(1,.sl 4 (b.map stC)),(12,.s (.int .i64 ((a.map stC).length:Nat))),(13,.s (.int .i64 (k:Nat)))],[]⟩) (fun k=>k≤a.length∧a.take k=b.take k) (fun k=>a.length - k) 0 ?_ ?_ ?_)))))))))))
  · exact⟨Nat.zero_le _,rfl⟩
  · exact cW rfl
  ·
   rintro k hC
   obtain ⟨h1,h2⟩:=hC
   refine aC (fun K7 hK7=>(aB (aE aA 1 rfl (aD (hK7 _ (aC (fun K8 hK8=>(aO rfl (fun hc2=>?_) (fun hc2=>?_)))))))))
   ·
    simp only[bs] at hc2
    refine aP (hK8 _ (aC (fun K9 hK9=>(aR (aC (fun K10 hK10=>(aB (aE aA 2 rfl (aD (hK10 _ (aC (fun K11 hK11=>(dM hf bN (by kernel_rfl) rfl (bG aA 2 rfl ?_))))))))))))))
    refine bX [(16,_),(17,_)] rfl rfl ⟨⟨rfl,rfl⟩,⟨rfl,rfl⟩,trivial⟩ rfl (bA rfl rfl cS bH (by first | exact ixm (by omega) | assumption | exact⟨by decide,rfl⟩)) ?_
    refine bG aA 3 rfl ?_
    refine bX [(20,_),(21,_)] rfl rfl ⟨⟨rfl,rfl⟩,⟨rfl,rfl⟩,trivial⟩ rfl (bA rfl rfl cS bH (by first | exact ixm (by omega) | assumption | exact⟨by decide,rfl⟩)) ?_
    refine bG aA 1 rfl (bX [(19,_),(23,_)] rfl rfl ⟨⟨rfl,rfl⟩,⟨rfl,rfl⟩,trivial⟩ rfl (pP rfl rfl aSq rfl) ?_)
    rw[stC_eq]
    refine dQ [0,1,12,13,24] rfl rfl rfl (hK11 _ (aO rfl (fun hc3=>?_) (fun hc3=>?_)))
    ·
     simp only[bs] at hc3
     refine aC (fun K12 hK12=>(aB (aE aA 1 rfl (aD (hK12 _ (aN ?_))))))
     refine⟨_,rfl,?_⟩
     refine aS ?_
     rw[lG (by omega) (by omega) (by assumption)]
    ·
     simp only[bs] at hc3
     refine aP (hK9 _ (aB ?_))
     refine aH rfl (bS rfl rfl (by omega) (by omega)) ?_
     refine aE aA 1 rfl (aD ?_)
     exact⟨k+1,⟨by omega,jC (by omega) (by omega) h2 (by assumption)⟩,by omega,cW rfl⟩
   ·
    simp only[bs] at hc2
    refine bF (hK5 _ (aC (fun K13 hK13=>(aB (aE aA 1 rfl (aD (hK13 _ (aN ?_))))))))
    refine⟨_,rfl,?_⟩
    refine aS ?_
    rw[kK (by omega) (by omega) h2]
theorem aTq (a b c d:Int) :Den Tryz.prog 167 [.s (.int .i64 a),.s (.int .i64 b),.s (.int .i64 c),.s (.int .i64 d)]  (·=.agg (stC ((a,b),(c,d)))):=by
 refine aY Tryz.func167 rfl (Nat.le_of_ble_eq_true rfl) (fun w0 A hf=>(aC (fun K1 hK1=>(aB (aX hf rfl rfl rfl eY (aD (hK1 _ (aC (fun K2 hK2=>(aB (aE aA 2 rfl (aH rfl (cK rfl wA tQ (l3 rfl) rfl) (aE aA 2 rfl (aH rfl (cK rfl eY tP (l3 rfl) rfl) (aZ hf rfl rfl bH rfl rfl (l1 rfl) (l4 rfl) rfl ?_)))))))))))))))
 refine aD (hK2 _ (aN ?_))
 refine⟨_,rfl,?_⟩
 rfl
theorem aTy (s:cB) :Den Tryz.prog 100 [.agg (stC s)]  (·=.agg (stC s)):=by
 refine aY Tryz.func100 rfl (Nat.le_of_ble_eq_true rfl) (fun w0 A hf=>(aC (fun K1 hK1=>(aB (aM hf rfl (cT rfl rfl (lf rfl)) (aX hf rfl rfl rfl eY (aD (hK1 _ (aC (fun K2 hK2=>(aB (aE aA 8 rfl (aM hf rfl (aQ rfl rfl aM3 rfl (aTq _ _ _ _)) (aZ hf rfl rfl bH rfl rfl (l1 rfl) (l4 rfl) rfl (aD ?_)))))))))))))))
 refine hK2 _ (aN ?_)
 refine⟨_,rfl,?_⟩
 rfl
theorem aTs (s:cB) :Den Tryz.prog 66 [.agg (stC s)]  (·=.agg (stC s)):=by
 refine aY Tryz.func66 rfl (Nat.le_of_ble_eq_true rfl) (fun w0 A hf=>(aC (fun K1 hK1=>(aB (aM hf rfl (cT rfl rfl (lf rfl)) (aX hf rfl rfl rfl iN (aD (hK1 _ (aC (fun K2 hK2=>(aB (aE aA 10 rfl (aH rfl (cK rfl iN tR (l3 rfl) rfl) (aZ hf rfl rfl eL rfl rfl (l1 rfl) (l4 rfl) rfl (aD ?_)))))))))))))))
 refine hK2 _ (aN ?_)
 refine⟨_,rfl,?_⟩
 rfl
theorem aLj (a b:cB) :Den Tryz.prog 117 [.agg (stC a),.agg (stC b)]  (·=.s (.int .i64 (jH a b))):=by
 refine aY Tryz.func117 rfl (Nat.le_of_ble_eq_true rfl) (fun w0 A hf=>(aC (fun K1 hK1=>(aB (aM hf rfl (cT rfl rfl (lf rfl)) (aM hf rfl (cT rfl rfl (lf rfl)) (aE aA 1 rfl (aD (hK1 _ (aC (fun K2 hK2=>(dM hf bN (by kernel_rfl) rfl (bG aA 6 rfl (cC [(7,_),(10,_)] rfl rfl ⟨⟨rfl,rfl⟩,⟨rfl,rfl⟩,trivial⟩ rfl (aQ rfl rfl oO rfl (jU _ _)) (bG aA 6 rfl ?_)))))))))))))))
 refine cC [(14,_),(17,_)] rfl rfl ⟨⟨rfl,rfl⟩,⟨rfl,rfl⟩,trivial⟩ rfl (aQ rfl rfl oO rfl (jU _ _)) (bG aA 4 rfl (cC [(20,_),(22,_)] rfl rfl ⟨⟨rfl,rfl⟩,⟨rfl,rfl⟩,trivial⟩ rfl (aQ rfl rfl oO rfl (jU _ _)) (bG aA 4 rfl (cC [(25,_),(27,_)] rfl rfl ⟨⟨rfl,rfl⟩,⟨rfl,rfl⟩,trivial⟩ rfl (aQ rfl rfl oO rfl (jU _ _)) (cC [(11,_),(18,_),(23,_),(28,_)] rfl rfl ⟨⟨rfl,rfl⟩,⟨rfl,rfl⟩,⟨rfl,rfl⟩,⟨rfl,rfl⟩,trivial⟩ rfl (bD xY rfl rfl rfl rfl (l2 rfl)) (cC [(29,_)] rfl rfl ⟨⟨rfl,rfl⟩,trivial⟩ rfl (aQ rfl rfl vF rfl (Nm.or_den [_,_,_,_] (by simp))) ?_))))))
 refine bG aA 1 rfl (dQ [4] rfl rfl rfl (hK2 _ (aN ?_)))
 refine⟨_,rfl,?_⟩
 rfl
theorem aE6 (a b:cB) :Den Tryz.prog 119 [.agg (stC a),.agg (stC b)]  (·=.s (.bool (decide (jH a b<0)))):=by
 refine aY Tryz.func119 rfl (Nat.le_of_ble_eq_true rfl) (fun w0 A hf=>(aC (fun K1 hK1=>(aB (aM hf rfl (cT rfl rfl (lf rfl)) (aM hf rfl (cT rfl rfl (lf rfl)) (aE aA 1 rfl (aD (hK1 _ (aC (fun K2 hK2=>(aC (fun K3 hK3=>(aB (aE aA 5 rfl (aD ?_))))))))))))))))
 refine hK3 _ (aO rfl (fun hc1=>?_) (fun hc1=>?_))
 ·
  simp only[bs] at hc1
  refine aC (fun K4 hK4=>(aB (aE aA 6 rfl (aD (hK4 _ (aN ?_))))))
  refine⟨_,rfl,?_⟩
  exact aS (ah1 (by assumption))
 ·
  simp only[bs] at hc1
  refine aP (hK2 _ (aC (fun K5 hK5=>(aC (fun K6 hK6=>(aB (aE aA 5 rfl (aD (hK6 _ (aO rfl (fun hc2=>?_) (fun hc2=>?_)))))))))))
  ·
   simp only[bs] at hc2
   refine aC (fun K7 hK7=>(aB (aE aA 6 rfl (aD (hK7 _ (aN ?_))))))
   refine⟨_,rfl,?_⟩
   exact aS (ah2 (by assumption) (by assumption))
  ·
   simp only[bs] at hc2
   refine aP (hK5 _ (aC (fun K8 hK8=>(aC (fun K9 hK9=>(aB (aE aA 5 rfl (aD (hK9 _ (aO rfl (fun hc3=>?_) (fun hc3=>?_)))))))))))
   ·
    simp only[bs] at hc3
    refine aC (fun K10 hK10=>(aB (aE aA 6 rfl (aD (hK10 _ (aN ?_))))))
    refine⟨_,rfl,?_⟩
    exact aS (ah3 (by assumption) (by assumption) (by assumption))
   ·
    simp only[bs] at hc3
    refine aP (hK8 _ (aC (fun K11 hK11=>(aB (aE aA 6 rfl (aD (hK11 _ (aN ?_))))))))
    refine⟨_,rfl,?_⟩
    exact aS (ah4 (by assumption) (by assumption) (by assumption))
end Go.Proofs.YtijnkglkchhomaaGreat
namespace Go.Abs
open Go
theorem aNw {c:AV} (h:Ty (.int .i64) [c]):∃ n:Int,c=.s (.int .i64 n)∧-9223372036854775808≤n∧n≤9223372036854775807:=by
  simp only[Ty] at h
  obtain ⟨n,hx,hw⟩:=h
  simp only[List.cons.injEq,and_true] at hx
  exact⟨n,hx,wf_i64 hw⟩
theorem aNv {c:AV} (h:Ty .str [c]):∃ s:ByteArray,c=.s (.string s)∧s.size≤140737488351232:=by
  simp only[Ty] at h
  obtain ⟨s,hx,hw⟩:=h
  simp only[List.cons.injEq,and_true] at hx
  exact⟨s,hx,hw⟩
end Go.Abs
set_option linter.unusedVariables false
set_option linter.unusedSimpArgs false
namespace Go.Abs
theorem prC_eq (x y:Pr):(x.1.toList == y.1.toList&&(x.2.toList == y.2.toList&&true))=decide (x=y):=by
  rw[Bool.eq_iff_iff]
  simp only[Bool.and_eq_true,beq_iff_eq,toList_inj,and_true,decide_eq_true_eq,Prod.ext_iff]
theorem enC_eq (x y:En):((x.1.1.toList == y.1.1.toList&&(x.1.2.toList == y.1.2.toList&&true))&&((x.2.1 == y.2.1&&(x.2.2 == y.2.2&&true))&&true))=decide (x=y):=by
  rw[Bool.eq_iff_iff]
  simp only[Bool.and_eq_true,beq_iff_eq,toList_inj,and_true,decide_eq_true_eq,Prod.ext_iff]
theorem enC_eqF (x y:En):(x.1.1.toList == y.1.1.toList&&(x.1.2.toList == y.1.2.toList&&(x.2.1 == y.2.1&&(x.2.2 == y.2.2&&true))))=decide (x=y):=by
  rw[Bool.eq_iff_iff]
  simp only[Bool.and_eq_true,beq_iff_eq,toList_inj,and_true,decide_eq_true_eq,Prod.ext_iff,and_assoc]
def RevI (l:List En) (n:Nat) (t:Int) (k:Nat) (out:List En):Prop :=
  k≤l.length∧∃ hn:n<l.length,(k≤n∧out=l.take k)∨(n<k∧out=l.take n++(qG l[n] t++(l.take k).drop (n+1)))
theorem RevI.start {l:List En} {n:Nat} (t:Int) (hn:n<l.length):RevI l n t 0 []:=⟨Nat.zero_le _,hn,.inl ⟨Nat.zero_le _,rfl⟩⟩
theorem RevI.len {l:List En} {n:Nat} {t:Int} {k:Nat} {out:List En} (h:RevI l n t k out):out.length≤k:=by
  obtain ⟨hk,hn,⟨h1,rfl⟩ | ⟨h1,rfl⟩⟩:=h
  · simp; omega
  · simp only[List.length_append,List.length_take,List.length_drop,qG]
    split <;> simp <;> omega
theorem aGt {α:Type} {l:List α} {k:Nat} (h:k<l.length):l.take (k+1)=l.take k++[l[k]]:=(List.take_append_getElem h).symm
theorem RevI.ne {l:List En} {n:Nat} {t:Int} {k:Nat} {out:List En} (h:RevI l n t k out) (hk:k<l.length) (hne:k≠n):RevI l n t (k+1) (out++[l[k]]):=by
  obtain ⟨_,hn,⟨h1,rfl⟩ | ⟨h1,rfl⟩⟩:=h
  · exact⟨hk,hn,.inl ⟨by omega,(aGt hk).symm⟩⟩
  · refine⟨hk,hn,.inr ⟨by omega,?_⟩⟩
    rw[aGt hk,List.drop_append_of_le_length (by simp; omega)]
    simp [List.append_assoc]
theorem RevI.keep {l:List En} {n:Nat} {t:Int} {k:Nat} {out:List En} (h:RevI l n t k out) (hk:k<l.length) (he:k=n) (ht:l[k].2.1<t):RevI l n t (k+1) (out++[(l[k].1,(l[k].2.1,t))]):=by
  subst he
  obtain ⟨_,hn,⟨h1,rfl⟩ | ⟨h1,rfl⟩⟩:=h
  · refine⟨hk,hn,.inr ⟨by omega,?_⟩⟩
    rw[qG,if_neg (by omega),List.drop_eq_nil_of_le (by simp; omega),List.append_nil]
  · omega
theorem RevI.gone {l:List En} {n:Nat} {t:Int} {k:Nat} {out:List En} (h:RevI l n t k out) (hk:k<l.length) (he:k=n) (ht:t≤l[k].2.1):RevI l n t (k+1) out:=by
  subst he
  obtain ⟨_,hn,⟨h1,rfl⟩ | ⟨h1,rfl⟩⟩:=h
  · refine⟨hk,hn,.inr ⟨by omega,?_⟩⟩
    rw[qG,if_pos ht,List.drop_eq_nil_of_le (by simp; omega),List.append_nil,List.append_nil]
  · omega
theorem RevI.fin {l:List En} {p:Pr} {n:Nat} {t:Int} {k:Nat} {out:List En} (h:RevI l n t k out) (hk:l.length≤k) (h1:∀ (j:Nat) (hj:j<l.length),j<n→eS p l[j]=false) (h2:∀ hn:n<l.length,eS p l[n]=true):out=jG l p t:=by
  obtain ⟨_,hn,⟨h3,rfl⟩ | ⟨h3,rfl⟩⟩:=h
  · omega
  · rw[aCp p t l n hn h1 (h2 hn),List.take_of_length_le hk]
theorem rev_set {l:List En} {p:Pr} {t:Int} {k:Nat} (hk:k<l.length) (h1:∀ (j:Nat) (hj:j<l.length),j<k→eS p l[j]=false) (h2:eS p l[k]=true) (ht:l[k].2.1<t):l.set k (l[k].1,(l[k].2.1,t))=jG l p t:=by
  rw[aCp p t l k hk h1 h2,qG,if_neg (by omega),List.set_eq_take_append_cons_drop,if_pos hk]; rfl
theorem rev_del {l:List En} {p:Pr} {t:Int} {k:Nat} {v:En} (hk:k<l.length) (h1:∀ (j:Nat) (hj:j<l.length),j<k→eS p l[j]=false) (h2:eS p l[k]=true) (ht:t≤l[k].2.1):(l.set k v).take k++(l.set k v).drop (k+1)=jG l p t:=by
  rw[aCp p t l k hk h1 h2,qG,if_pos ht,List.take_set_of_le (Nat.le_refl _),List.drop_set_of_lt (by omega)]; rfl
theorem aQl {l:List En} {p:Pr} (h:nQ (eS p) l<0):onB l p=false:=by
  rw[onB,← aEn]; simp; omega
theorem onB_t {l:List En} {p:Pr} (h:0≤nQ (eS p) l):onB l p=true:=by
  rw[onB,← aEn]; simp; omega
theorem aOd {l:List En} {p:Pr} {k:Nat} (hk:k<l.length) (h:eS p l[k]=true):onB l p=true:=List.any_eq_true.2 ⟨_,List.getElem_mem hk,h⟩
theorem aTv {e:En} (h:e.2.2≤e.2.1∨dA e.1.1=false∨dA e.1.2=false∨(dA e.1.1&&dA e.1.2)=false):okE e=false:=by
  rcases h with h | h | h | h
  · have:decide (e.2.1<e.2.2)=false:=by simp; omega
    rw[okE,this]; rfl
  · rw[okE,h]; simp
  · rw[okE,h]; simp
  · rw[okE,h]; simp
theorem aQm {e:En} (h:e.2.1<e.2.2) (h1:dA e.1.1=true) (h2:dA e.1.2=true):okE e=true:=by simp [okE,h,h1,h2]
theorem vX {a b:En}:aKf a b=true↔mF a b<0∧(a.1=b.1→a.2.2≤b.2.1):=by
  simp only[aKf,Bool.and_eq_true,decide_eq_true_eq,Bool.not_eq_true',Bool.and_eq_false_iff,decide_eq_false_iff_not]
  refine and_congr_right fun _=>?_
  by_cases e:a.1=b.1
  · simp only[e,not_true_eq_false,false_or,forall_const]; omega
  · simp [e]
theorem aQn {a b:En} (h:¬ mF a b<0∨(a.1=b.1∧b.2.1<a.2.2)):aKf a b=false:=by
  rw[Bool.eq_false_iff]; intro h0
  obtain ⟨h1,h2⟩:=vX.1 h0
  rcases h with h | ⟨h,h3⟩
  · omega
  · have:=h2 h; omega
theorem aTl {a b:Pr} (h1:a.1.toList=b.1.toList) (h2:a.2.toList=b.2.toList):a=b:=Prod.ext (toList_inj.1 h1) (toList_inj.1 h2)
theorem aIc {a b:Pr} (h:¬ a.1.toList=b.1.toList):a≠b:=fun e=>h (by rw[e])
theorem aIb {a b:Pr} (h:¬ a.2.toList=b.2.toList):a≠b:=fun e=>h (by rw[e])
theorem aT5 {u:ByteArray} {e:En} (h:e.1.1.toList=u.toList∨e.1.2.toList=u.toList):(!nG u e)=false:=by
  simp only[toList_inj] at h
  rcases h with h | h <;> simp [nG,kY,h]
theorem hasU_f {u:ByteArray} {e:En} (h1:¬ e.1.1.toList=u.toList) (h2:¬ e.1.2.toList=u.toList):(!nG u e)=true:=by
  simp only[toList_inj] at h1 h2
  simp [nG,kY,h1,h2]
end Go.Abs
set_option linter.unusedVariables false
set_option linter.unusedSimpArgs false
namespace Go.Abs
open Go Go.RowKit
variable {P:Program}
theorem fZ {f:Nat} {args:List AV} {x y:AV} (h:Den P f args (·=x)) (e:x=y):Den P f args (·=y):=e ▸ h
def RisR (a b:En):Prop:=mF a b<0∧(a.1=b.1→a.2.2≤b.2.1)
theorem RisR.trans {a b c:En} (hb:okE b=true) (h1:RisR a b) (h2:RisR b c):RisR a c:=by
  refine⟨ordE_tri.lt_tr h1.1 h2.1,fun e=>?_⟩
  have hab:sJ a.1 b.1≤0:=by
    have:=h1.1; rw[uN] at this; unfold uS at this; split at this <;> simp only[] at*<;> omega
  have hbc:sJ b.1 c.1≤0:=by
    have:=h2.1; rw[uN] at this; unfold uS at this; split at this <;> simp only[] at*<;> omega
  have hba:sJ b.1 a.1≤0:=by rw[e]; exact hbc
  have h0:sJ a.1 b.1=0:=by have:=pairC_tri.swap a.1 b.1; omega
  have e1:=aD6.1 h0
  have g1:=h1.2 e1
  have g2:=h2.2 (e1 ▸ e)
  have g3:b.2.1<b.2.2:=by
    simp only[okE,Bool.and_eq_true,decide_eq_true_eq] at hb; exact hb.1
  omega
theorem qE (l:List En):aFw l=true↔(∀ x∈l,okE x=true)∧l.Pairwise RisR:=by
  rw[aFw,sI RisR (fun x y=>vX) (fun x y z hy h1 h2=>RisR.trans hy h1 h2)]
  simp
theorem aJu {l:List En} (q:En→Bool) (h:aFw l=true):aFw (l.filter q)=true:=by
  rw[qE] at *
  exact⟨fun x hx=>h.1 x (List.mem_filter.1 hx).1,h.2.filter q⟩
end Go.Abs
set_option linter.unusedVariables false
set_option linter.unusedSimpArgs false
namespace Go.Abs
abbrev Se:=(Int×ByteArray)×(Int×Int)
def seC (e:Se):List AV:=[.s (.int .i64 e.1.1),.s (.string e.1.2),.s (.int .i64 e.2.1),.s (.int .i64 e.2.2)]
abbrev se0:Se:=((0,⟨#[]⟩),(0,0))
abbrev st0:cB:=((0,0),(0,0))
theorem aTe (x y:Se):(x.1.1 == y.1.1&&(x.1.2.toList == y.1.2.toList&&(x.2.1 == y.2.1&&(x.2.2 == y.2.2&&true))))=decide (x=y):=by
  rw[Bool.eq_iff_iff]
  simp only[Bool.and_eq_true,beq_iff_eq,toList_inj,and_true,decide_eq_true_eq,Prod.ext_iff,and_assoc]
def tV {α:Type} (q:α→Bool) (e:α):List α→List α
  | []=>[e]
  | x::l=>if q x=true then e::x::l else x::tV q e l
theorem yU {α:Type} (q:α→Bool) (e:α):∀ (l:List α) (k:Nat),k≤l.length→(∀ (j:Nat) (hj:j<l.length),j<k→q l[j]=false)→(∀ (h:k<l.length),q l[k]=true)→tV q e l=l.take k++e::l.drop k
  | [],k,hk,_,_=>by
                          have:k=0:=by simpa using hk
                          subst this; rfl
  | x::l,0,_,_,h=>by have:=h (by simp); simp only[List.getElem_cons_zero] at this; simp [tV,this]
  | x::l,k+1,hk,h1,h2=>by
    have hx:=h1 0 (by simp) (by omega)
    simp only[List.getElem_cons_zero] at hx
    rw[tV,if_neg (by simp [hx]),yU q e l k (by simpa using hk) (fun j hj hjk=>by have:=h1 (j+1) (by simpa using hj) (by omega); simpa using this) (fun h=>by have:=h2 (by simpa using h); simpa using this)]
    rfl
theorem aEm {α:Type} (q:α→Bool) (e:α):∀ l:List α,(tV q e l).length=l.length+1
  | []=>rfl
  | x::l=>by rw[tV]; split <;> simp [aEm q e l]
theorem yT {α:Type} {q:α→Bool} {e x:α}:∀ {l:List α},x∈tV q e l↔x=e∨x∈l
  | []=>by simp [tV]
  | y::l=>by
    rw[tV]; split
    · simp
    · simp only[List.mem_cons,yT (l:=l)]
      constructor
      · rintro (h | h | h) <;> simp [h]
      · rintro (h | h | h) <;> simp [h]
def isN (n:Int) (e:Se):Bool:=decide (e.1.1=n)
def aAj (l:List Se) (n:Int):Bool:=l.any (isN n)
def xJ:List Se→Int→Se
  | [],_=>se0
  | e::l,n=>if isN n e=true then e else xJ l n
def eW:List Se→Int→ByteArray→Int
  | [],_,_=>101
  | e::l,n,u=>if isN n e=true then (if e.1.2=u then 0 else 102) else eW l n u
def tY:List Se→Int→Int→Int→List Se
  | [],_,_,_=>[]
  | e::l,n,st,t=>if isN n e=true then (e.1,(st,t))::l else e::tY l n st t
def tX:List Se→Int→List Se
  | [],_=>[]
  | e::l,n=>if isN n e=true then l else e::tX l n
def atK (l:List Se) (n:Int):Nat:=l.findIdx (isN n)
theorem mT (n:Int) (u:ByteArray) (st t:Int):∀ (l:List Se) (k:Nat) (hk:k<l.length),(∀ (j:Nat) (hj:j<l.length),j<k→isN n l[j]=false)→isN n l[k]=true →
    atK l n=k∧xJ l n=l[k]∧eW l n u=(if l[k].1.2=u then 0 else 102)∧tY l n st t=l.set k (l[k].1,(st,t))∧tX l n=l.take k++l.drop (k+1)
  | [],k,hk,_,_=>by simp at hk
  | x::l,0,_,_,h=>by
    simp only[List.getElem_cons_zero] at h
    simp [atK,xJ,eW,tY,tX,h,List.findIdx_cons]
  | x::l,k+1,hk,h1,h2=>by
    have hx:=h1 0 (by simp) (by omega)
    simp only[List.getElem_cons_zero] at hx
    obtain ⟨e1,e2,e3,e4,e5⟩:=mT n u st t l k (by simpa using hk) (fun j hj hjk=>by have:=h1 (j+1) (by simpa using hj) (by omega); simpa using this) (by simpa using h2)
    have hx':¬ isN n x=true:=by simp [hx]
    refine⟨?_,?_,?_,?_,?_⟩
    · rw[atK] at *; rw[List.findIdx_cons,hx,e1]; rfl
    · rw[xJ,if_neg hx',e2]; rfl
    · rw[eW,if_neg hx',e3]; rfl
    · rw[tY,if_neg hx',e4]; rfl
    · rw[tX,if_neg hx',e5]; rfl
theorem zE (n:Int) (u:ByteArray):∀ (l:List Se),(∀ (j:Nat) (hj:j<l.length),isN n l[j]=false)→atK l n=l.length∧eW l n u=101∧aAj l n=false
  | [],_=>⟨rfl,rfl,rfl⟩
  | x::l,h=>by
    have hx:=h 0 (by simp)
    simp only[List.getElem_cons_zero] at hx
    obtain ⟨e1,e2,e3⟩:=zE n u l (fun j hj=>by have:=h (j+1) (by simpa using hj); simpa using this)
    refine⟨?_,?_,?_⟩
    · rw[atK] at *; rw[List.findIdx_cons,hx,e1]; rfl
    · rw[eW,if_neg (by simp [hx]),e2]
    · rw[aAj] at *; rw[List.any_cons,hx,e3]; rfl
theorem aEy (l:List Se) (n:Int) (u:ByteArray):(eW l n u=101∧aAj l n=false∧atK l n=l.length)∨(aAj l n=true∧eW l n u≠101∧∃ k,∃ hk:k<l.length,isN n l[k]=true∧(∀ (j:Nat) (hj:j<l.length),j<k→isN n l[j]=false)∧atK l n=k∧eW l n u=(if l[k].1.2=u then 0 else 102)):=by
  rcases dW (isN n) l with ⟨_,h⟩ | ⟨k,hk,_,h1,h2⟩
  · obtain ⟨e1,e2,e3⟩:=zE n u l (fun j hj=>h _ (List.getElem_mem hj))
    exact .inl ⟨e2,e3,e1⟩
  · obtain ⟨e1,_,e3,_⟩:=mT n u 0 0 l k hk h2 h1
    exact .inr ⟨List.any_eq_true.2 ⟨_,List.getElem_mem hk,h1⟩,by rw[e3]; split <;> decide,k,hk,h1,h2,e1,e3⟩
theorem zB {l:List Se} {n:Int} {u:ByteArray} (h:eW l n u=0):∃ k,∃ hk:k<l.length,atK l n=k∧isN n l[k]=true∧l[k].1.2=u∧∀ (j:Nat) (hj:j<l.length),j<k→isN n l[j]=false:=by
  rcases aEy l n u with ⟨e,_⟩ | ⟨_,_,k,hk,h1,h2,h3,h4⟩
  · omega
  · refine⟨k,hk,h3,h1,?_,h2⟩
    rw[h4] at h
    split at h
    · assumption
    · omega
theorem aLh {l:List Se} {n:Int} {u:ByteArray}:eW l n u=101↔aAj l n=false:=by
  rcases aEy l n u with ⟨e,h,_⟩ | ⟨e,h,_⟩
  · simp [e,h]
  · simp [e,h]
def nT (l:List Se) (e:Se):Int:=if aAj l e.1.1=true then 100 else if 16≤l.length then 103 else 0
def iB (n:Int) (x:Se):Bool:=decide (n<x.1.1)
def wH (l:List Se) (e:Se):List Se:=tV (iB e.1.1) e l
def gG (e:Se) (t:Int):cB:=((e.2.2,t),(e.1.1,e.2.1))
def jM (e:Se):Bool:=dA e.1.2&&(decide (1≤e.1.1)&&decide (e.1.1≤999)&&(decide (1≤e.2.1)&&decide (e.2.1≤4))&&(decide (0≤e.2.2)&&decide (e.2.2≤1099511627775)))
def mE (a b:Se):Bool:=decide (a.1.1<b.1.1)
def kW (l:List Se):Bool:=pO jM mE none l&&decide (l.length≤16)
theorem kG (l:List Se):kW l=true↔((∀ x∈l,jM x=true)∧l.Pairwise fun a b=>a.1.1<b.1.1)∧l.length≤16:=by
  rw[kW,Bool.and_eq_true,decide_eq_true_eq,sI (fun a b:Se=>a.1.1<b.1.1) (fun x y=>by simp [mE]) (fun x y z _ h1 h2=>Int.lt_trans h1 h2)]
  simp
theorem opn_ris {l:List Se} {e:Se} (h:kW l=true) (he:kW [e]=true) (ho:nT l e=0):kW (wH l e)=true:=by
  obtain ⟨⟨h1,h2⟩,h3⟩:=(kG l).1 h
  have h4:=((kG [e]).1 he).1.1 e (by simp)
  unfold nT at ho
  split at ho
  · omega
  · rename_i hn
    split at ho
    · omega
    · rename_i h16
      refine(kG _).2 ⟨⟨fun x hx=>?_,?_⟩,by rw[wH,aEm]; omega⟩
      · rcases yT.1 hx with rfl | hx
        · exact h4
        · exact h1 x hx
      · have hne:∀ x∈l,x.1.1≠e.1.1:=fun x hx hh=>hn (List.any_eq_true.2 ⟨x,hx,by simp [isN,hh]⟩)
        clear h1 h h3 h16 ho hn
        revert h2 hne
        induction l with
        | nil=>intro _ _; exact List.pairwise_singleton _ _
        | cons x l ih =>
          intro h2 hne
          obtain ⟨q1,q2⟩:=List.pairwise_cons.1 h2
          have hx:=hne x (by simp)
          rw[wH,tV]
          split
          · rename_i hq
            simp only[iB,decide_eq_true_eq] at hq
            refine List.pairwise_cons.2 ⟨fun y hy=>?_,h2⟩
            rcases List.mem_cons.1 hy with rfl | hy
            · exact hq
            · have:=q1 y hy; omega
          · rename_i hq
            simp only[iB,decide_eq_true_eq] at hq
            refine List.pairwise_cons.2 ⟨fun y hy=>?_,ih q2 (fun y hy=>hne y (by simp [hy]))⟩
            rcases yT.1 hy with rfl | hy
            · omega
            · exact q1 y hy
def pS (u:ByteArray) (e:Se):Bool:=decide (e.1.2=u)
def mH (l:List Se) (u:ByteArray) (t:Int):List cB:=l.flatMap fun e=>if pS u e=true∧¬ t≤e.2.2 then [gG e t] else []
def hY (l:List Se) (u:ByteArray) (t:Int):List cB:=aJn (mH l u t)
theorem aQ8 (l:List Se) (u:ByteArray) (t:Int):(hY l u t).length≤l.length:=by
  rw[hY,aRa]
  induction l with
  | nil=>simp [mH]
  | cons e l ih =>
    have:(if pS u e=true∧¬ t≤e.2.2 then [gG e t] else []).length≤1:=by split <;> simp
    simp only[mH,List.flatMap_cons,List.length_append,List.length_cons] at *
    omega
end Go.Abs
set_option linter.unusedVariables false
set_option linter.unusedSimpArgs false
namespace Go.Abs
open Go
theorem ty_st {cs:List AV} (h:Ty (.agg [.int .i64,.int .i64,.int .i64,.int .i64]) cs):∃ s:cB,cs=stC s∧True:=by
  simp only[Ty,TyL] at h
  obtain ⟨a,b,rfl,⟨w,rfl,_⟩,a',b',rfl,⟨u,rfl,_⟩,a2,b2,rfl,⟨n,rfl,_⟩,a3,b3,rfl,⟨m,rfl,_⟩,rfl⟩:=h
  exact⟨((w,u),(n,m)),rfl,trivial⟩
theorem ty_sts {c:AV} (h:Ty (.sl 32 (.agg [.int .i64,.int .i64,.int .i64,.int .i64])) [c]):∃ l:List cB,c=.sl 4 (l.map stC)∧l.length*32≤140737488351232:=by
  simp only[Ty] at h
  obtain ⟨xs,hx,_,hl,hxs⟩:=h
  obtain ⟨l,rfl,hr⟩:=tB stC (fun _=>True) (d:=.agg [.int .i64,.int .i64,.int .i64,.int .i64]) (fun cs h=>ty_st h) (xs:=xs) (fun x hx=>by simp only[Ty]; exact hxs x hx)
  simp only[List.cons.injEq,and_true] at hx
  exact⟨l,hx,by simpa using hl⟩
end Go.Abs
set_option linter.unusedVariables false
namespace Go.Abs
open Go
theorem ty_se {cs:List AV} (h:Ty (.agg [.int .i64,.str,.int .i64,.int .i64]) cs):∃ e:Se,cs=seC e∧TS e.1.2:=by
  simp only[Ty,TyL] at h
  obtain ⟨a,b,rfl,⟨n,rfl,_⟩,a',b',rfl,⟨u,rfl,hu⟩,a2,b2,rfl,⟨w,rfl,_⟩,a3,b3,rfl,⟨m,rfl,_⟩,rfl⟩:=h
  exact⟨((n,u),(w,m)),rfl,Nat.le_trans hu (by decide)⟩
theorem ty_ses {c:AV} (h:Ty (.sl 40 (.agg [.int .i64,.str,.int .i64,.int .i64])) [c]):∃ l:List Se,c=.sl 4 (l.map seC)∧l.length*40≤140737488351232∧∀ e∈l,TS e.1.2:=by
  simp only[Ty] at h
  obtain ⟨xs,hx,_,hl,hxs⟩:=h
  obtain ⟨l,rfl,hr⟩:=tB seC (fun e=>TS e.1.2) (d:=.agg [.int .i64,.str,.int .i64,.int .i64]) (fun cs h=>ty_se h) (xs:=xs) (fun x hx=>by simp only[Ty]; exact hxs x hx)
  simp only[List.cons.injEq,and_true] at hx
  exact⟨l,hx,by simpa using hl,hr⟩
theorem er_ne {l:List Se} {k n:Nat} (hk:k<l.length) (h:k≠n):(l.take (k+1)).eraseIdx n=(l.take k).eraseIdx n++[l[k]]:=by
  rw[List.take_succ_eq_append_getElem hk]
  have hl:(l.take k).length=k:=by rw[List.length_take]; omega
  by_cases hn:n<k
  · rw[List.eraseIdx_append_of_lt_length (by omega)]
  · rw[List.eraseIdx_of_length_le (by simp only[List.length_append,List.length_cons,List.length_nil]; omega),List.eraseIdx_of_length_le (by omega)]
theorem er_eq {l:List Se} {k:Nat} (hk:k<l.length):(l.take (k+1)).eraseIdx k=(l.take k).eraseIdx k:=by
  rw[List.take_succ_eq_append_getElem hk]
  have hl:(l.take k).length=k:=by rw[List.length_take]; omega
  rw[List.eraseIdx_append_of_length_le (by omega),hl,Nat.sub_self,List.eraseIdx_of_length_le (show (List.take k l).length≤k by omega)]
  simp
theorem er_end (l:List Se) (n:Nat):l.eraseIdx n=l.take n++l.drop (n+1):=List.eraseIdx_eq_take_drop_succ l n
abbrev mG (l:List Se) (e:Se):List Se:=if nT l e=0 then wH l e else []
abbrev mM (l:List Se) (n:Int) (u:ByteArray) (st t:Int):List Se:=if eW l n u=0 then tY l n st t else []
abbrev mL (l:List Se) (n:Int) (u:ByteArray):List Se:=if eW l n u=0 then tX l n else []
abbrev aIp (l:List Se) (n:Int) (u:ByteArray):Se:=if eW l n u=0 then xJ l n else se0
abbrev stR (l:List Se) (n:Int) (u:ByteArray) (t:Int):cB:=if eW l n u=0 then gG (xJ l n) t else st0
theorem aQt (n st t:Int):∀ l:List Se,(tY l n st t).length=l.length
  | []=>rfl
  | e::l=>by rw[tY]; split <;> simp [aQt n st t l]
theorem aQs (n:Int):∀ l:List Se,(tX l n).length≤l.length
  | []=>Nat.le_refl _
  | e::l=>by
    rw[tX]; split
    · simp
    · have:=aQs n l; simp only[List.length_cons]; omega
theorem aEc (l:List Se) (e:Se):(mG l e).length≤l.length+1:=by
  unfold mG; split
  · rw[wH,aEm]; omega
  · simp
theorem aE0 (l:List Se) (n:Int) (u:ByteArray) (st t:Int):(mM l n u st t).length≤l.length:=by
  unfold mM; split
  · rw[aQt]; omega
  · simp
theorem aEz (l:List Se) (n:Int) (u:ByteArray):(mL l n u).length≤l.length:=by
  unfold mL; split
  · exact aQs n l
  · simp
theorem aIo {l:List Se} {n:Int} {u:ByteArray} {k:Nat} (hk:k<l.length) (h1:isN n l[k]=true) (h2:l[k].1.2=u) (h3:∀ (j:Nat) (hj:j<l.length),j<k→isN n l[j]=false):eW l n u=0∧xJ l n=l[k]∧l[k].1=(n,u):=by
  obtain ⟨e1,e2,e3,_⟩:=mT n u 0 0 l k hk h3 h1
  simp only[isN,decide_eq_true_eq] at h1
  exact⟨by rw[e3,if_pos h2],e2,Prod.ext h1 h2⟩
end Go.Abs
set_option linter.unusedVariables false
set_option linter.unusedSimpArgs false
namespace Go.Proofs.YtijnkglkchhomaaGreat
open Go Go.Abs
theorem uA {g:Nat} {cap:List AV} (hent:∀ args w,(callFunc g args).run Tryz.prog w=.ok (.enter g args) w) (hcl:cleanL (fun _=>false) cap=true) (p:Se→Bool) (l:List Se) (hl:l.length≤9223372036854775807) (hp:∀ x∈l,Den Tryz.prog g (.agg (seC x)::cap) (·=.s (.bool (p x)))) :Den Tryz.prog 188 [.sl 4 (l.map seC),.fn g cap]  (·=.s (.int .i64 (nQ p l))):=by
 refine aY Tryz.func188 rfl (Nat.le_of_ble_eq_true rfl) (fun w0 A hf=>(aC (fun K1 hK1=>(aB (aE aA 1 rfl (aD (hK1 _ (aC (fun K2 hK2=>(aC (fun K3 hK3=>(aB (aE aA 3 rfl (aD (hK3 _ (aR ?_))))))))))))))))
 refine bY (ι:=Nat) (fun k=>⟨19,[(0,.sl 4 (l.map seC)),(1,.fn g cap),(7,.s (.int .i64 ((l.map seC).length:Nat))),(8,.s (.int .i64 (k:Nat)))],[]⟩) (fun k=>k≤l.length∧∀ (j:Nat) (hj:j<l.length),j<k→p l[j]=false) (fun k=>l.length - k) 0 ?_ ?_ ?_
 · exact⟨by omega,by omega⟩
 · exact cW rfl
 ·
  rintro k hC
  obtain ⟨h1,h2⟩:=hC
  refine aC (fun K4 hK4=>(aB (aE aA 1 rfl (aD (hK4 _ (aC (fun K5 hK5=>(aO rfl (fun hc1=>?_) (fun hc1=>?_)))))))))
  ·
   simp only[bs] at hc1
   refine aP (hK5 _ (aC (fun K6 hK6=>(aR (aC (fun K7 hK7=>(aB (aE aA 2 rfl (aD (hK7 _ (aC (fun K8 hK8=>(aB (aE aA 3 rfl ?_))))))))))))))
   refine aH rfl (bA rfl rfl eP dO (by first | exact ixm (by omega) | assumption | exact⟨by decide,rfl⟩)) ?_
   refine aE aA 1 rfl (aM hf rfl (aQ rfl rfl hent (by rw[hJ,hcl]; rfl) (hp _ (List.getElem_mem _))) ?_)
   refine aD (hK8 _ (aO rfl (fun hc2=>?_) (fun hc2=>?_)))
   ·
    refine aC (fun K9 hK9=>(aB (aE aA 2 rfl (aD (hK9 _ (aN ?_))))))
    refine⟨_,rfl,?_⟩
    refine eR ?_
    rw[jZ (by omega) h2 (by assumption)]
   ·
    refine aP (hK6 _ (aB ?_))
    refine aH rfl (bS rfl rfl (by omega) (by omega)) ?_
    refine aE aA 1 rfl (aD ?_)
    exact⟨k+1,⟨by omega,fun j hj hjk=>by
      by_cases e:j=k
      · subst e; simp_all
      · exact h2 j hj (by omega)⟩,by omega,cW rfl⟩
  ·
   simp only[bs] at hc1
   refine bF (hK2 _ (aC (fun K10 hK10=>(aB (aE aA 1 rfl (aD (hK10 _ (aN ?_))))))))
   refine⟨_,rfl,?_⟩
   refine eR ?_
   rw[oI (fun j hj=>h2 j hj (by omega))]
theorem aB3 {g:Nat} {cap:List AV} (hent:∀ args w,(callFunc g args).run Tryz.prog w=.ok (.enter g args) w) (hcl:cleanL (fun _=>false) cap=true) (hcv:∀ m,convL m cap=cap) (p:Se→Bool) (l:List Se) (n:Nat) (hn:n=l.length) (hl:l.length≤9223372036854775807) (hp:∀ x∈l,Den Tryz.prog g (.agg (seC x)::cap) (·=.s (.bool (p x)))) :DenM Tryz.prog 184 [.own E0 4 0 n,.fn g cap] 4 ((l.map seC)) (fun r ys=>r=.own E0 4 0 (l.filter fun x=>!p x).length∧ys=((l.filter fun x=>!p x).map seC)):=by
 subst hn
 have hq0:∀ j,((l.take j).filter fun x=>!p x).length≤j:=fun j=>jN _ l j
 have hq1:∀ j,((l.take j).filter fun x=>!p x).length≤l.length:=fun j=>iM _ l j
 refine iA Tryz.func184 rfl (Nat.le_of_ble_eq_true rfl) (fun w0 x0 A hf=>?_)
 refine aC (fun K1 hK1=>(aB (aH rfl (bR) (aD (hK1 _ (aC (fun K2 hK2=>(aB (aE aA 2 rfl (aM hf rfl (tI rfl rfl (by show [AV.conv _ _,AV.fn g (convL _ cap)]=_; rw[hcv,cE (g:=E0) rfl (by simp)]) aBt (uA hent hcl p l hl hp) rfl) ?_))))))))))
 refine aE aA 1 rfl (aD (hK2 _ (aC (fun K3 hK3=>(aC (fun K4 hK4=>(aB (aE aA 2 rfl (aD (hK4 _ (aO rfl (fun hc1=>?_) (fun hc1=>?_))))))))))))
 ·
  simp only[bs] at hc1
  refine aC (fun K5 hK5=>(aB (aE aA 2 rfl (aD (hK5 _ (aN ?_))))))
  have hno:nQ p l=-1:=by simpa using hc1
  rcases dW p l with ⟨_,hn⟩ | ⟨k,hk,e,_⟩
  · exact⟨_,.own E0 4 0 l.length,(l.map seC),Le.refl _,rfl,rfl,by rw[hH p l hn],by rw[hH p l hn]⟩
  · exfalso; omega
 ·
  simp only[bs] at hc1
  refine aP (hK3 _ (aC (fun K6 hK6=>(aC (fun K7 hK7=>(aB ?_))))))
  rcases dW p l with ⟨e0,_⟩ | ⟨k0,hk0,ek0,hpk0,hbef⟩
  · exact absurd e0 (by simpa using hc1)
  have hst:=nY (fun x=>!p x) l k0 hk0 (fun j hj hjk=>by simp [hbef j hj hjk]) (by simp [hpk0])
  rw[ek0]
  refine aE aA 1 rfl ?_
  refine aH rfl (bS rfl rfl (by omega) (by omega)) ?_
  refine aE aA 1 rfl (aD (hK7 _ (aR (bY (ι:=Nat) (fun j=>⟨42,[(0,.own E0 4 0 l.length),(1,.fn g cap),(5,.s (.int .i64 (((l.take j).filter fun x=>!p x).length:Nat))),(6,.s (.int .i64 (j:Nat)))],[(E0,.buf 4 ((kA (fun x=>!p x) l j).map seC))]⟩) (fun j=>j≤l.length) (fun j=>l.length - j) (k0+1) ?_ ?_ ?_))))
  · exact hk0
  · rw[hst.1,hst.2]; exact lE ⟨rfl,rfl,rfl,rfl,trivial⟩
  ·
   rintro j hC
   let q:=fun x=>!p x
   have hle:((l.take j).filter q).length≤j:=hq0 j
   have hle2:((l.take j).filter fun x=>!p x).length≤j:=hq0 j
   refine aC (fun K8 hK8=>(aC (fun K9 hK9=>(aB (aE aA 4 rfl (aD (hK9 _ (aO rfl (fun hc2=>?_) (fun hc2=>?_)))))))))
   ·
    simp only[bs] at hc2
    refine aP (hK8 _ (aC (fun K10 hK10=>(aR (aC (fun K11 hK11=>(aB (aE aA 2 rfl ?_))))))))
    refine aH rfl (cN rfl rfl eP dO (by omega)) ?_
    refine aH rfl (cD rfl aSu dO rfl (vW (c:=4) (k:=j) (enc:=seC) (by omega) (by rw[fH]; omega) rfl) (cs':=seC l[j]) (by rw[sK (c:=4) (k:=j) (enc:=seC) (by omega) (by rw[fH]; omega) rfl,sU q l j j (by omega) hle])) ?_
    refine cF hf rfl pZ rfl dO rfl rfl rfl rfl (lf rfl) (aD (hK11 _ (aC (fun K12 hK12=>(aB (aE aA 2 rfl (aM hf rfl (aQ rfl rfl hent (by rw[hJ,hcl]; rfl) (hp _ (List.getElem_mem _))) ?_)))))))
    refine aE aA 1 rfl (aD (hK12 _ (aO rfl (fun hc3=>?_) (fun hc3=>?_))))
    ·
     simp only[bs] at hc3
     refine aC (fun K13 hK13=>(aB (aE aA 3 rfl ?_)))
     refine aH rfl (cN rfl rfl eP dO (by omega)) ?_
     refine aZ hf rfl rfl dO rfl rfl (by simp [seC,AV.cells,AV.one,Value.oneCell',splice]) (by simp [seC,AV.cells,AV.leaf,Value.oneCell',splice]) (iK (c:=4) (k:=((l.take j).filter fun x=>!p x).length) (enc:=seC) (v:=l[j]) (by omega) (by rw[fH]; omega) rfl (Nat.le_refl _)) ?_
     refine aD (hK13 _ (aB ?_))
     rw[mJ (fun x=>!p x) l j (by omega) (by simp_all)]
     refine aE aA 1 rfl ?_
     refine aH rfl (bS rfl rfl (by omega) (by omega)) ?_
     rw[pD (fun x=>!p x) l j (by omega) (by simp_all)]
     refine aE aA 1 rfl ?_
     refine bL ?_
     refine hK10 _ (aB (aE aA 1 rfl ?_))
     refine aH rfl (bS rfl rfl (by omega) (by omega)) ?_
     refine aE aA 1 rfl (aD ?_)
     exact⟨j+1,(by omega),by omega,cW rfl⟩
    ·
     simp only[bs] at hc3
     rw[mK (fun x=>!p x) l j (by omega) (by simp_all),pE (fun x=>!p x) l j (by omega) (by simp_all)]
     refine aP (hK10 _ (aB (aE aA 1 rfl ?_)))
     refine aH rfl (bS rfl rfl (by omega) (by omega)) ?_
     refine aE aA 1 rfl (aD ?_)
     exact⟨j+1,(by omega),by omega,cW rfl⟩
   ·
    simp only[bs] at hc2
    refine bF (hK6 _ (aC (fun K14 hK14=>(aB (aE aA 2 rfl ?_)))))
    refine aH rfl (fL rfl eP dO rfl rfl (by omega) (by omega)) ?_
    refine xZ hf mB pZ (by simp [Value.oneCell']) rfl rfl ?_
    refine aD (hK14 _ (aC (fun K15 hK15=>(aB (aE aA 2 rfl ?_)))))
    refine aH rfl (fL rfl eP dO rfl rfl (by omega) (by omega)) ?_
    refine aE aA 1 rfl (aD (hK15 _ (aN ?_)))
    have hjl:l.length≤j:=by omega
    have he:=qX (fun x=>!p x) l j hjl
    refine⟨_,_,_,Le.refl _,rfl,rfl,?_,?_⟩
    · rw[List.take_of_length_le hjl]; rfl
    · rw[List.take_of_length_le hjl,Nat.zero_add,Int.toNat_natCast,← List.map_take,he]
theorem jA (l:List Se) (hl:l.length*40≤140737488355328) :DenO Tryz.prog 95 [.sl 4 (l.map seC)] 4 (·=(l.map seC)):=by
 refine fY Tryz.func95 rfl (Nat.le_of_ble_eq_true rfl) (fun w0 A hf=>?_)
 refine aC (fun K1 hK1=>(aB (aH rfl (bR) (aD (hK1 _ (aC (fun K2 hK2=>(aC (fun K3 hK3=>(aB (aE aA 1 rfl ?_)))))))))))
 refine oF rfl rfl rfl eP (fun b hb1=>?_)
 refine aD (hK3 _ (aO rfl (fun hc2=>?_) (fun hc2=>?_)))
 ·
  have hl0:l=[]:=by simpa using hb1 (by assumption)
  refine aC (fun K4 hK4=>(aB (jT hf 4 rfl rfl rfl (aD (hK4 _ (aN ?_))))))
  exact⟨2,[],by decide,rfl,rfl,by rw[hl0]; rfl⟩
 ·
  refine aP (hK2 _ (aC (fun K5 hK5=>(aB (cP hf rfl rfl rfl mB rfl rfl rfl rfl (l2 rfl) ?_)))))
  refine aE aA 1 rfl (bZ hf rfl mB rfl rfl rfl (.inl rfl) rfl rfl (by first | rfl | simp [eB,bV]) (by first | (simp only[maxLen,List.length_map,List.length_append,List.length_cons,List.length_nil]; omega) | (simp [maxLen] <;> omega)) (by first | (simp only[List.length_map,List.length_append,List.length_cons,List.length_nil]; omega) | (simp <;> omega)) ?_)
  refine bM (dY [7] rfl) (aE aA 1 rfl (aD (hK5 _ (aN ?_))))
  refine⟨5,(l.map seC),by decide,rfl,?_,rfl⟩
  show some (AV.own 5 4 0 (0+(l.map seC).length))=_
  rw[Nat.zero_add]
theorem aQ0 (n:Nat) (hn:n*40≤140737488355328) :DenO Tryz.prog 210 [.s (.slice none 0 0),.s (.int .i64 (n:Nat))] 4 (·=[]):=by
 refine fY Tryz.func210 rfl (Nat.le_of_ble_eq_true rfl) (fun w0 A hf=>?_)
 refine aC (fun K1 hK1=>(aB (aH rfl (bR) (aD (hK1 _ (aC (fun K2 hK2=>(aC (fun K3 hK3=>(aB (aE aA 2 rfl (aD (hK3 _ (aO rfl (fun hc1=>?_) (fun hc1=>?_)))))))))))))))
 ·
  simp only[bs] at hc1
  omega
 ·
  simp only[bs] at hc1
  refine aP (hK2 _ (aC (fun K4 hK4=>(aC (fun K5 hK5=>(aB (aE aA 2 rfl (aH rfl (nD rfl eP) (aE aA 2 rfl ?_)))))))))
  refine aH rfl (gF rfl rfl (by omega) (by omega)) ?_
  refine aH rfl (gF rfl rfl (by omega) (by omega)) ?_
  refine aE aA 1 rfl (aD (hK5 _ (aC (fun K6 hK6=>(aB (aE aA 2 rfl (aD (hK6 _ (aO rfl (fun hc2=>?_) (fun hc2=>?_))))))))))
  ·
   simp only[bs] at hc2
   refine aB (aE aA 2 rfl (aH rfl (nD rfl eP) ?_))
   refine aH rfl (rL rfl eP dO rfl) ?_
   refine aE aA 1 rfl (vM hf rfl rfl rfl mB Tryz.underlying3 rfl rfl (by omega) (by omega) (by simp only[maxLen]; omega) ?_)
   refine aE aA 2 rfl ?_
   refine aH rfl (fL rfl eP dO rfl rfl (by omega) (by omega)) ?_
   refine aE aA 1 rfl (aD (hK4 _ (aC (fun K7 hK7=>(aB (aE aA 1 rfl ?_))))))
   refine aH rfl (uM rfl) ?_
   refine aD (hK7 _ (aN ?_))
   exact⟨22,[],by decide,rfl,rfl,rfl⟩
  ·
   simp only[bs] at hc2
   refine aP (hK4 _ (aC (fun K8 hK8=>(aB (aE aA 1 rfl ?_)))))
   refine aHq hf 4 rfl rfl rfl rfl ?_
   refine aD (hK8 _ (aN ?_))
   exact⟨4,[],by decide,rfl,rfl,rfl⟩
theorem uB (rows:List (List Se)) (hl:rows.length≤9223372036854775807) (hb:rows.flatten.length*40≤140737488355328) :DenO Tryz.prog 161 [.sl 1 (rows.map fun r=>[AV.sl 4 (r.map seC)])] 4 (·=(rows.flatten.map seC)):=by
 refine fY Tryz.func161 rfl (Nat.le_of_ble_eq_true rfl) (fun w0 A hf=>?_)
 refine aC (fun K1 hK1=>(aB (aH rfl (bR) (aD (hK1 _ (aC (fun K2 hK2=>(aB (aE aA 1 rfl (aD (hK2 _ (aC (fun K3 hK3=>(aC (fun K4 hK4=>(aB ?_))))))))))))))))
 refine aE aA 3 rfl (aD (hK4 _ (aR (bY (ι:=Nat) (fun k=>⟨36,[(0,.sl 1 (rows.map fun r=>[AV.sl 4 (r.map seC)])),(3,.s (.int .i64 ((rows.take k).flatten.length:Nat))),(9,.sl 1 (rows.map fun r=>[AV.sl 4 (r.map seC)])),(10,.s (.int .i64 ((rows.map fun r=>[AV.sl 4 (r.map seC)]).length:Nat))),(11,.s (.int .i64 (k:Nat)))],[]⟩) (fun k=>k≤rows.length) (fun k=>rows.length - k) 0 ?_ ?_ ?_))))
 · exact Nat.zero_le _
 · exact cW rfl
 ·
  rintro k hC
  refine aC (fun K5 hK5=>(aB (aE aA 1 rfl (aD (hK5 _ (aC (fun K6 hK6=>(aO rfl (fun hc1=>?_) (fun hc1=>?_)))))))))
  ·
   simp only[bs] at hc1
   refine aP (hK6 _ (aC (fun K7 hK7=>(aR (aC (fun K8 hK8=>(aB ?_)))))))
   refine aH rfl (bA rfl rfl aHn mQ (by first | exact ixm (by omega) | assumption | exact⟨by decide,rfl⟩)) ?_
   refine aE aA 2 rfl (aD (hK8 _ (aC (fun K9 hK9=>(aB ?_)))))
   have hk:k<rows.length:=by omega
   have e1:=congrArg List.length (iI rows k hk)
   rw[List.length_append] at e1
   have e2:=rO rows (k+1)
   have e3:(rows[k].map seC).length=rows[k].length:=List.length_map _
   refine aE aA 3 rfl ?_
   refine aH rfl (bS rfl rfl (by omega) (by omega)) ?_
   rw[show ((((rows.take k).flatten.length:Nat):Int)+(((rows[k].map seC).length:Nat):Int))=(((rows.take (k+1)).flatten.length:Nat):Int) from by omega]
   refine aE aA 1 rfl (aD (hK9 _ (aC (fun K10 hK10=>(aB (aE aA 2 rfl (aD (hK10 _ (aO rfl (fun hc2=>?_) (fun hc2=>?_))))))))))
   ·
    simp only[bs] at hc2
    omega
   ·
    simp only[bs] at hc2
    refine aP (hK7 _ (aB ?_))
    refine aH rfl (bS rfl rfl (by omega) (by omega)) ?_
    refine aE aA 1 rfl (aD ?_)
    exact⟨k+1,(by omega),by omega,cW rfl⟩
  ·
   simp only[bs] at hc1
   refine bF (hK3 _ (aC (fun K11 hK11=>(aB ?_))))
   rw[List.take_of_length_le (show rows.length≤k by omega)]
   refine aE aA 1 rfl (iP hf rfl rfl rfl rfl rfl aMc rfl (aQ0 rows.flatten.length (by omega)) ?_)
   rintro _ rfl
   refine aE aA 1 rfl (aD (hK11 _ (aC (fun K12 hK12=>(aC (fun K13 hK13=>(aB (aE aA 3 rfl (aD (hK13 _ (aR (bY (ι:=Nat) (fun j=>⟨36,[(6,.own 24 4 0 (rows.take j).flatten.length),(25,.sl 1 (rows.map fun r=>[AV.sl 4 (r.map seC)])),(26,.s (.int .i64 ((rows.map fun r=>[AV.sl 4 (r.map seC)]).length:Nat))),(27,.s (.int .i64 (j:Nat)))],[(24,.buf 4 ((rows.take j).flatten.map seC))]⟩) (fun j=>j≤rows.length) (fun j=>rows.length - j) 0 ?_ ?_ ?_))))))))))))
   · exact Nat.zero_le _
   · exact cW rfl
   ·
    rintro j hC
    refine aC (fun K14 hK14=>(aB (aE aA 1 rfl (aD (hK14 _ (aC (fun K15 hK15=>(aO rfl (fun hc3=>?_) (fun hc3=>?_)))))))))
    ·
     simp only[bs] at hc3
     refine aP (hK15 _ (aC (fun K16 hK16=>(aR (aC (fun K17 hK17=>(aB ?_)))))))
     refine aH rfl (bA rfl rfl aHn mQ (by first | exact ixm (by omega) | assumption | exact⟨by decide,rfl⟩)) ?_
     refine aE aA 2 rfl (aD (hK17 _ (aB ?_)))
     have hj:j<rows.length:=by omega
     have e1:=congrArg List.length (iI rows j hj)
     rw[List.length_append] at e1
     have e2:=rO rows (j+1)
     have e3:(rows[j].map seC).length=rows[j].length:=List.length_map _
     refine aE aA 2 rfl (bZ hf rfl mB rfl rfl rfl (.inl rfl) (by simp only[List.length_map]) rfl (by first | rfl | simp [eB,bV]) (by first | (simp only[maxLen,List.length_map,List.length_append,List.length_cons,List.length_nil]; omega) | (simp [maxLen] <;> omega)) (by first | (simp only[List.length_map,List.length_append,List.length_cons,List.length_nil]; omega) | (simp <;> omega)) ?_)
     refine bM (dY [25,26,27,33] rfl) ?_
     rw[show (rows.take j).flatten.length+(rows[j].map seC).length=(rows.take (j+1)).flatten.length from by omega,← List.map_append,← iI rows j hj]
     refine aE aA 1 rfl ?_
     refine bL ?_
     refine hK16 _ (aB ?_)
     refine aH rfl (bS rfl rfl (by omega) (by omega)) ?_
     refine aE aA 1 rfl (aD ?_)
     exact⟨j+1,(by omega),by omega,cW rfl⟩
    ·
     simp only[bs] at hc3
     refine bF (hK12 _ (aC (fun K18 hK18=>(aB (aE aA 2 rfl (aD (hK18 _ (aN ?_))))))))
     refine⟨24,(rows.flatten.map seC),by decide,?_,?_,rfl⟩
     · rw[List.take_of_length_le (show rows.length≤j by omega)]; rfl
     · rw[List.take_of_length_le (show rows.length≤j by omega)]
       show some (AV.own 24 4 0 rows.flatten.length)=_
       rw[List.length_map]
theorem aNt (a b:List Se) (ha:a.length≤9223372036854775807) (hb:b.length≤9223372036854775807) :Den Tryz.prog 122 [.sl 4 (a.map seC),.sl 4 (b.map seC)]  (·=.s (.bool (decide (a=b)))):=by
 refine aY Tryz.func122 rfl (Nat.le_of_ble_eq_true rfl) (fun w0 A hf=>(aC (fun K1 hK1=>(aB (aE aA 1 rfl (aD (hK1 _ (aC (fun K2 hK2=>(aC (fun K3 hK3=>(aB (aE aA 5 rfl (aD (hK3 _ (aO rfl (fun hc1=>?_) (fun hc1=>?_)))))))))))))))))
 ·
  simp only[bs] at hc1
  refine aC (fun K4 hK4=>(aB (aE aA 1 rfl (aD (hK4 _ (aN ?_))))))
  refine⟨_,rfl,?_⟩
  refine aS ?_
  rw[nH (by omega)]
 ·
  simp only[bs] at hc1
  refine aP (hK2 _ (aC (fun K5 hK5=>(aC (fun K6 hK6=>(aB (aE aA 3 rfl (aD (hK6 _ (aR (bY (ι:=Nat) (fun k=>⟨26,[(0,.sl 4 (a.map seC)),(1,.sl 4 (b.map seC)),(12,.s (.int .i64 ((a.map seC).length:Nat))),(13,.s (.int .i64 (k:Nat)))],[]⟩) (fun k=>k≤a.length∧a.take k=b.take k) (fun k=>a.length - k) 0 ?_ ?_ ?_)))))))))))
  · exact⟨Nat.zero_le _,rfl⟩
  · exact cW rfl
  ·
   rintro k hC
   obtain ⟨h1,h2⟩:=hC
   refine aC (fun K7 hK7=>(aB (aE aA 1 rfl (aD (hK7 _ (aC (fun K8 hK8=>(aO rfl (fun hc2=>?_) (fun hc2=>?_)))))))))
   ·
    simp only[bs] at hc2
    refine aP (hK8 _ (aC (fun K9 hK9=>(aR (aC (fun K10 hK10=>(aB (aE aA 2 rfl (aD (hK10 _ (aC (fun K11 hK11=>(dM hf bN (by kernel_rfl) rfl (bG aA 2 rfl ?_))))))))))))))
    refine bX [(16,_),(17,_)] rfl rfl ⟨⟨rfl,rfl⟩,⟨rfl,rfl⟩,trivial⟩ rfl (bA rfl rfl eP dO (by first | exact ixm (by omega) | assumption | exact⟨by decide,rfl⟩)) ?_
    refine bG aA 3 rfl ?_
    refine bX [(20,_),(21,_)] rfl rfl ⟨⟨rfl,rfl⟩,⟨rfl,rfl⟩,trivial⟩ rfl (bA rfl rfl eP dO (by first | exact ixm (by omega) | assumption | exact⟨by decide,rfl⟩)) ?_
    refine bG aA 1 rfl (bX [(19,_),(23,_)] rfl rfl ⟨⟨rfl,rfl⟩,⟨rfl,rfl⟩,trivial⟩ rfl (pP rfl rfl aSn rfl) ?_)
    rw[aTe]
    refine dQ [0,1,12,13,24] rfl rfl rfl (hK11 _ (aO rfl (fun hc3=>?_) (fun hc3=>?_)))
    ·
     simp only[bs] at hc3
     refine aC (fun K12 hK12=>(aB (aE aA 1 rfl (aD (hK12 _ (aN ?_))))))
     refine⟨_,rfl,?_⟩
     refine aS ?_
     rw[lG (by omega) (by omega) (by assumption)]
    ·
     simp only[bs] at hc3
     refine aP (hK9 _ (aB ?_))
     refine aH rfl (bS rfl rfl (by omega) (by omega)) ?_
     refine aE aA 1 rfl (aD ?_)
     exact⟨k+1,⟨by omega,jC (by omega) (by omega) h2 (by assumption)⟩,by omega,cW rfl⟩
   ·
    simp only[bs] at hc2
    refine bF (hK5 _ (aC (fun K13 hK13=>(aB (aE aA 1 rfl (aD (hK13 _ (aN ?_))))))))
    refine⟨_,rfl,?_⟩
    refine aS ?_
    rw[kK (by omega) (by omega) h2]
theorem wY (e:Se) (t:Int) :Den Tryz.prog 114 [.agg (seC e),.s (.int .i64 t)]  (·=.agg (stC (gG e t))):=by
 refine aY Tryz.func114 rfl (Nat.le_of_ble_eq_true rfl) (fun w0 A hf=>(aC (fun K1 hK1=>(aB (aM hf rfl (cT rfl rfl (lf rfl)) (aX hf rfl rfl rfl eY (aD (hK1 _ (aC (fun K2 hK2=>(aB (aE aA 3 rfl (aH rfl (cK rfl wA tQ (l3 rfl) rfl) (aE aA 4 rfl (aH rfl (cK rfl eY tP (l3 rfl) rfl) ?_)))))))))))))))
 refine aZ hf rfl rfl bH rfl rfl (l1 rfl) (l4 rfl) rfl (aD (hK2 _ (aN ?_)))
 refine⟨_,rfl,?_⟩
 rfl
theorem wM (e:Se) (t:Int) :Den Tryz.prog 120 [.agg (seC e),.s (.int .i64 t)]  (·=.agg (stC (gG e t))):=by
 refine aY Tryz.func120 rfl (Nat.le_of_ble_eq_true rfl) (fun w0 A hf=>(aC (fun K1 hK1=>(aB (aM hf rfl (cT rfl rfl (lf rfl)) (aX hf rfl rfl rfl iN (aD (hK1 _ (aC (fun K2 hK2=>(aB (aE aA 7 rfl (aH rfl (cK rfl iN tR (l3 rfl) rfl) (aZ hf rfl rfl eL rfl rfl (l1 rfl) (l4 rfl) rfl (aD ?_)))))))))))))))
 refine hK2 _ (aN ?_)
 refine⟨_,rfl,?_⟩
 rfl
theorem aRn (x e:Se) :Den Tryz.prog 199 [.agg (seC x),.adr (seC e)]  (·=.s (.bool (iB e.1.1 x))):=by
 refine aY Tryz.func199 rfl (Nat.le_of_ble_eq_true rfl) (fun w0 A hf=>(aC (fun K1 hK1=>(aB (aM hf rfl (cT rfl rfl (lf rfl)) (aE aA 1 rfl (aD (hK1 _ (aC (fun K2 hK2=>(aB (aE aA 6 rfl (aD (hK2 _ (aN ?_)))))))))))))))
 refine⟨_,rfl,?_⟩
 rfl
theorem aB5 (e:Se) (u:ByteArray) :Den Tryz.prog 185 [.agg (seC e),.adr [.s (.string u)]]  (·=.s (.bool (pS u e))):=by
 refine aY Tryz.func185 rfl (Nat.le_of_ble_eq_true rfl) (fun w0 A hf=>(aC (fun K1 hK1=>(aB (aM hf rfl (cT rfl rfl (lf rfl)) (aE aA 1 rfl (aD (hK1 _ (aC (fun K2 hK2=>(aB (aE aA 5 rfl (aD (hK2 _ (aN ?_)))))))))))))))
 refine⟨_,rfl,?_⟩
 refine aS ?_
 unfold pS
 rw[Bool.eq_iff_iff]
 simp_all[toList_inj]
theorem aE3 (l:List Se) (n:Int) (u:ByteArray) (hl:l.length≤9223372036854775807) :Den Tryz.prog 160 [.sl 4 (l.map seC),.s (.int .i64 n),.s (.string u)]  (·=.tup [.s (.int .i64 (atK l n:Nat)),.s (.int .i64 (eW l n u))]):=by
 refine aY Tryz.func160 rfl (Nat.le_of_ble_eq_true rfl) (fun w0 A hf=>(aC (fun K1 hK1=>(aB (aE aA 2 rfl (aD (hK1 _ (aUi (aC (fun K2 hK2=>(aUj (hK2 _ (aC (fun K3 hK3=>(aC (fun K4 hK4=>(aB ?_)))))))))))))))))
 refine aE aA 3 rfl (aD (hK4 _ (aR (bY (ι:=Nat) (fun k=>⟨32,[(0,.sl 4 (l.map seC)),(1,.s (.int .i64 n)),(2,.s (.string u)),(10,.sl 4 (l.map seC)),(11,.s (.int .i64 ((l.map seC).length:Nat))),(12,.s (.int .i64 (k:Nat)))],[]⟩) (fun k=>k≤l.length∧∀ (j:Nat) (hj:j<l.length),j<k→isN n l[j]=false) (fun k=>l.length - k) 0 ?_ ?_ ?_))))
 · exact⟨Nat.zero_le _,by omega⟩
 · exact cW rfl
 ·
  rintro k hC
  obtain ⟨h1,h2⟩:=hC
  refine aC (fun K5 hK5=>(aB (aE aA 1 rfl (aD (hK5 _ (aC (fun K6 hK6=>(aO rfl (fun hc1=>?_) (fun hc1=>?_)))))))))
  ·
   simp only[bs] at hc1
   refine aP (hK6 _ (aC (fun K7 hK7=>(aR (aC (fun K8 hK8=>(aB (aE aA 1 rfl ?_))))))))
   refine aH rfl (bA rfl rfl eP dO (by first | exact ixm (by omega) | assumption | exact⟨by decide,rfl⟩)) ?_
   refine aE aA 1 rfl (aX hf rfl rfl rfl pZ (aE aA 1 rfl (aZ hf rfl rfl dO rfl rfl (l1 rfl) (l4 rfl) rfl (bM (lU (nee 9) (sl':=[(0,_),(1,_),(2,_),(8,_),(9,_),(10,_),(11,_),(12,_)]) (m':=[]) ⟨⟨_,rfl,rfl⟩,⟨_,rfl,rfl⟩,⟨_,rfl,rfl⟩,⟨_,rfl,rfl⟩,⟨_,rfl,rfl⟩,⟨_,rfl,rfl⟩,⟨_,rfl,rfl⟩,⟨_,rfl,rfl⟩,trivial⟩ rfl) (aD (hK8 _ (aC (fun K9 hK9=>(aR (aC (fun K10 hK10=>(aB (aE aA 5 rfl (aD ?_))))))))))))))
   refine hK10 _ (aO rfl (fun hc2=>?_) (fun hc2=>?_))
   ·
    simp only[bs] at hc2
    refine bF (hK7 _ (aB ?_))
    refine aH rfl (bS rfl rfl (by omega) (by omega)) ?_
    refine aE aA 1 rfl (aD ?_)
    exact⟨k+1,⟨by omega,fun j hj hjk=>by
     by_cases e:j=k
     · subst e; simp_all[isN]
     · exact h2 j hj (by omega)⟩,by omega,cW rfl⟩
   ·
    simp only[bs] at hc2
    obtain ⟨e1,_,e3,_⟩:=mT n u 0 0 l k (by omega) h2 (by simp_all[isN])
    refine aC (fun K11 hK11=>(aB (aE aA 5 rfl (aD (hK11 _ (aO rfl (fun hc3=>?_) (fun hc3=>?_)))))))
    ·
     simp only[bs] at hc3
     refine aC (fun K12 hK12=>(aB (aE aA 3 rfl (aD (hK12 _ (aN ?_))))))
     refine⟨_,rfl,?_⟩
     rw[e1,e3,if_neg (by simp_all[toList_inj])]; rfl
    ·
     simp only[bs] at hc3
     refine aP (hK9 _ (aC (fun K13 hK13=>(aB (aE aA 3 rfl (aD (hK13 _ (aN ?_))))))))
     refine⟨_,rfl,?_⟩
     rw[e1,e3,if_pos (by simp_all[toList_inj])]; rfl
  ·
   simp only[bs] at hc1
   refine bF (hK3 _ (aC (fun K14 hK14=>(aB (aE aA 4 rfl (aD (hK14 _ (aN ?_))))))))
   refine⟨_,rfl,?_⟩
   obtain ⟨e1,e2,_⟩:=zE n u l (fun j hj=>h2 j hj (by omega))
   rw[e1,e2,List.length_map]; rfl
theorem rK (l:List Se) (n:Int) (hl:l.length≤9223372036854775807) :Den Tryz.prog 212 [.sl 4 (l.map seC),.s (.int .i64 n)]  (·=.s (.int .i64 (nQ (isN n) l))):=by
 refine aY Tryz.func212 rfl (Nat.le_of_ble_eq_true rfl) (fun w0 A hf=>(aC (fun K1 hK1=>(aB (aE aA 1 rfl (aD (hK1 _ (aC (fun K2 hK2=>(aC (fun K3 hK3=>(aB (aE aA 1 rfl (aD (hK3 _ (aR ?_))))))))))))))))
 refine bY (ι:=Nat) (fun k=>⟨20,[(0,.sl 4 (l.map seC)),(1,.s (.int .i64 n)),(5,.s (.int .i64 (k:Nat)))],[]⟩) (fun k=>k≤l.length∧∀ (j:Nat) (hj:j<l.length),j<k→isN n l[j]=false) (fun k=>l.length - k) 0 ?_ ?_ ?_
 · exact⟨Nat.zero_le _,by omega⟩
 · exact cW rfl
 ·
  rintro k hC
  obtain ⟨h1,h2⟩:=hC
  refine aC (fun K4 hK4=>(aC (fun K5 hK5=>(aB (aE aA 4 rfl (aD (hK5 _ (aO rfl (fun hc1=>?_) (fun hc1=>?_)))))))))
  ·
   simp only[bs] at hc1
   refine aP (hK4 _ (aC (fun K6 hK6=>(aR (aC (fun K7 hK7=>(aB (aE aA 2 rfl ?_))))))))
   refine aH rfl (bA rfl rfl fS eH (by first | exact ixm (by omega) | assumption | exact⟨by decide,rfl⟩)) ?_
   refine aE aA 4 rfl (aD (hK7 _ (aO rfl (fun hc2=>?_) (fun hc2=>?_))))
   ·
    simp only[bs] at hc2
    refine aC (fun K8 hK8=>(aB (aE aA 2 rfl (aD (hK8 _ (aN ?_))))))
    refine⟨_,rfl,?_⟩
    refine eR ?_
    rw[jZ (by omega) h2 (by simp_all[isN])]
   ·
    simp only[bs] at hc2
    refine aP (hK6 _ (aB (aE aA 1 rfl ?_)))
    refine aH rfl (bS rfl rfl (by omega) (by omega)) ?_
    refine aE aA 1 rfl (aD ?_)
    exact⟨k+1,⟨by omega,fun j hj hjk=>by
     by_cases e:j=k
     · subst e; simp_all[isN]
     · exact h2 j hj (by omega)⟩,by omega,cW rfl⟩
  ·
   simp only[bs] at hc1
   refine bF (hK2 _ (aC (fun K9 hK9=>(aB (aE aA 1 rfl (aD (hK9 _ (aN ?_))))))))
   refine⟨_,rfl,?_⟩
   refine eR ?_
   rw[oI (fun j hj=>h2 j hj (by omega))]
end Go.Proofs.YtijnkglkchhomaaGreat
set_option linter.unusedVariables false
set_option linter.unusedSimpArgs false
namespace Go.Proofs.YtijnkglkchhomaaGreat
open Go Go.Abs
end Go.Proofs.YtijnkglkchhomaaGreat
set_option linter.unusedVariables false
set_option linter.unusedSimpArgs false
namespace Go.Proofs.YtijnkglkchhomaaGreat
open Go Go.Abs
end Go.Proofs.YtijnkglkchhomaaGreat
set_option linter.unusedVariables false
set_option linter.unusedSimpArgs false
namespace Go.Proofs.YtijnkglkchhomaaGreat
open Go Go.Abs
end Go.Proofs.YtijnkglkchhomaaGreat
set_option linter.unusedVariables false
set_option linter.unusedSimpArgs false
namespace Go.Proofs.YtijnkglkchhomaaGreat.Nm
open Go Go.Abs
theorem pairCmp_den (a b c d:ByteArray) :Den Tryz.prog 228 [.agg [.s (.string a),.s (.string b)],.agg [.s (.string c),.s (.string d)]]  (·=.s (.int .i64 (vV a b c d))):=by
 refine aY Tryz.func228 rfl (Nat.le_of_ble_eq_true rfl) (fun w0 A hf=>(aC (fun K1 hK1=>(aB (aM hf rfl (cT rfl rfl (lf rfl)) (aM hf rfl (cT rfl rfl (lf rfl)) (aE aA 1 rfl (aD (hK1 _ (aC (fun K2 hK2=>(dM hf bN (by kernel_rfl) rfl (bG aA 4 rfl (cC [(6,_),(8,_)] rfl rfl ⟨⟨rfl,rfl⟩,⟨rfl,rfl⟩,trivial⟩ rfl (aQ rfl rfl rZ rfl (cmp_den _ _)) (bG aA 4 rfl ?_)))))))))))))))
 refine cC [(11,_),(13,_)] rfl rfl ⟨⟨rfl,rfl⟩,⟨rfl,rfl⟩,trivial⟩ rfl (aQ rfl rfl rZ rfl (cmp_den _ _)) (cC [(9,_),(14,_)] rfl rfl ⟨⟨rfl,rfl⟩,⟨rfl,rfl⟩,trivial⟩ rfl (bD xY rfl rfl rfl rfl (l2 rfl)) (cC [(15,_)] rfl rfl ⟨⟨rfl,rfl⟩,trivial⟩ rfl (aQ rfl rfl vF rfl (or_den [_,_] (by simp))) ?_))
 refine bG aA 1 rfl (dQ [4] rfl rfl rfl (hK2 _ (aN ?_)))
 refine⟨_,rfl,?_⟩
 rfl
theorem pairHas_den (a b s:ByteArray) :Den Tryz.prog 187 [.agg [.s (.string a),.s (.string b)],.s (.string s)]  (·=.s (.bool (kY a b s))):=by
 refine aY Tryz.func187 rfl (Nat.le_of_ble_eq_true rfl) (fun w0 A hf=>(aC (fun K1 hK1=>(aB (aM hf rfl (cT rfl rfl (lf rfl)) (aE aA 1 rfl (aD (hK1 _ (aC (fun K2 hK2=>(aB (aE aA 5 rfl (bC rfl rfl rfl (fun hg1=>?_) (fun hg1=>?_))))))))))))))
 ·
  simp only[bs,jL,dG,List.length_cons,List.length_nil] at hg1
  refine aH rfl (bQ rfl aLy cU rfl) ?_
  refine aE aA 5 rfl (aD (hK2 _ (aN ?_)))
  refine⟨_,rfl,?_⟩
  refine aS ?_
  unfold kY
  rw[Bool.eq_iff_iff]
  simp only[Bool.or_eq_true,decide_eq_true_eq,← toList_inj,beq_iff_eq,true_iff]
  simp_all
 ·
  simp only[bs,jL,dG,List.length_cons,List.length_nil] at hg1
  refine aE aA 5 rfl (aD (hK2 _ (aN ?_)))
  refine⟨_,rfl,?_⟩
  refine aS ?_
  unfold kY
  rw[Bool.eq_iff_iff]
  simp only[Bool.or_eq_true,decide_eq_true_eq,← toList_inj,beq_iff_eq,true_iff]
  simp_all
end Go.Proofs.YtijnkglkchhomaaGreat.Nm
set_option linter.unusedVariables false
set_option linter.unusedSimpArgs false
namespace Go.Proofs.YtijnkglkchhomaaGreat
open Go Go.Abs
theorem qV {g:Nat} {cap:List AV} (hent:∀ args w,(callFunc g args).run Tryz.prog w=.ok (.enter g args) w) (hcl:cleanL (fun _=>false) cap=true) (p:En→Bool) (l:List En) (hl:l.length≤9223372036854775807) (hp:∀ x∈l,Den Tryz.prog g (.agg (enC x)::cap) (·=.s (.bool (p x)))) :Den Tryz.prog 194 [.sl 4 (l.map enC),.fn g cap]  (·=.s (.int .i64 (nQ p l))):=by
 refine aY Tryz.func194 rfl (Nat.le_of_ble_eq_true rfl) (fun w0 A hf=>(aC (fun K1 hK1=>(aB (aE aA 1 rfl (aD (hK1 _ (aC (fun K2 hK2=>(aC (fun K3 hK3=>(aB (aE aA 3 rfl (aD (hK3 _ (aR ?_))))))))))))))))
 refine bY (ι:=Nat) (fun k=>⟨19,[(0,.sl 4 (l.map enC)),(1,.fn g cap),(7,.s (.int .i64 ((l.map enC).length:Nat))),(8,.s (.int .i64 (k:Nat)))],[]⟩) (fun k=>k≤l.length∧∀ (j:Nat) (hj:j<l.length),j<k→p l[j]=false) (fun k=>l.length - k) 0 ?_ ?_ ?_
 · exact⟨by omega,by omega⟩
 · exact cW rfl
 ·
  rintro k hC
  obtain ⟨h1,h2⟩:=hC
  refine aC (fun K4 hK4=>(aB (aE aA 1 rfl (aD (hK4 _ (aC (fun K5 hK5=>(aO rfl (fun hc1=>?_) (fun hc1=>?_)))))))))
  ·
   simp only[bs] at hc1
   refine aP (hK5 _ (aC (fun K6 hK6=>(aR (aC (fun K7 hK7=>(aB (aE aA 2 rfl (aD (hK7 _ (aC (fun K8 hK8=>(aB (aE aA 3 rfl ?_))))))))))))))
   refine aH rfl (bA rfl rfl gC eK (by first | exact ixm (by omega) | assumption | exact⟨by decide,rfl⟩)) ?_
   refine aE aA 1 rfl (aM hf rfl (aQ rfl rfl hent (by rw[hJ,hcl]; rfl) (hp _ (List.getElem_mem _))) ?_)
   refine aD (hK8 _ (aO rfl (fun hc2=>?_) (fun hc2=>?_)))
   ·
    refine aC (fun K9 hK9=>(aB (aE aA 2 rfl (aD (hK9 _ (aN ?_))))))
    refine⟨_,rfl,?_⟩
    refine eR ?_
    rw[jZ (by omega) h2 (by assumption)]
   ·
    refine aP (hK6 _ (aB ?_))
    refine aH rfl (bS rfl rfl (by omega) (by omega)) ?_
    refine aE aA 1 rfl (aD ?_)
    exact⟨k+1,⟨by omega,fun j hj hjk=>by
      by_cases e:j=k
      · subst e; simp_all
      · exact h2 j hj (by omega)⟩,by omega,cW rfl⟩
  ·
   simp only[bs] at hc1
   refine bF (hK2 _ (aC (fun K10 hK10=>(aB (aE aA 1 rfl (aD (hK10 _ (aN ?_))))))))
   refine⟨_,rfl,?_⟩
   refine eR ?_
   rw[oI (fun j hj=>h2 j hj (by omega))]
theorem aCi {g:Nat} {cap:List AV} (hent:∀ args w,(callFunc g args).run Tryz.prog w=.ok (.enter g args) w) (hcl:cleanL (fun _=>false) cap=true) (hcv:∀ m,convL m cap=cap) (p:En→Bool) (l:List En) (n:Nat) (hn:n=l.length) (hl:l.length≤9223372036854775807) (hp:∀ x∈l,Den Tryz.prog g (.agg (enC x)::cap) (·=.s (.bool (p x)))) :DenM Tryz.prog 165 [.own E0 4 0 n,.fn g cap] 4 ((l.map enC)) (fun r ys=>r=.own E0 4 0 (l.filter fun x=>!p x).length∧ys=((l.filter fun x=>!p x).map enC)):=by
 subst hn
 have hq0:∀ j,((l.take j).filter fun x=>!p x).length≤j:=fun j=>jN _ l j
 have hq1:∀ j,((l.take j).filter fun x=>!p x).length≤l.length:=fun j=>iM _ l j
 refine iA Tryz.func165 rfl (Nat.le_of_ble_eq_true rfl) (fun w0 x0 A hf=>?_)
 refine aC (fun K1 hK1=>(aB (aH rfl (bR) (aD (hK1 _ (aC (fun K2 hK2=>(aB (aE aA 2 rfl (aM hf rfl (tI rfl rfl (by show [AV.conv _ _,AV.fn g (convL _ cap)]=_; rw[hcv,cE (g:=E0) rfl (by simp)]) vE (qV hent hcl p l hl hp) rfl) ?_))))))))))
 refine aE aA 1 rfl (aD (hK2 _ (aC (fun K3 hK3=>(aC (fun K4 hK4=>(aB (aE aA 2 rfl (aD (hK4 _ (aO rfl (fun hc1=>?_) (fun hc1=>?_))))))))))))
 ·
  simp only[bs] at hc1
  refine aC (fun K5 hK5=>(aB (aE aA 2 rfl (aD (hK5 _ (aN ?_))))))
  have hno:nQ p l=-1:=by simpa using hc1
  rcases dW p l with ⟨_,hn⟩ | ⟨k,hk,e,_⟩
  · exact⟨_,.own E0 4 0 l.length,(l.map enC),Le.refl _,rfl,rfl,by rw[hH p l hn],by rw[hH p l hn]⟩
  · exfalso; omega
 ·
  simp only[bs] at hc1
  refine aP (hK3 _ (aC (fun K6 hK6=>(aC (fun K7 hK7=>(aB ?_))))))
  rcases dW p l with ⟨e0,_⟩ | ⟨k0,hk0,ek0,hpk0,hbef⟩
  · exact absurd e0 (by simpa using hc1)
  have hst:=nY (fun x=>!p x) l k0 hk0 (fun j hj hjk=>by simp [hbef j hj hjk]) (by simp [hpk0])
  rw[ek0]
  refine aE aA 1 rfl ?_
  refine aH rfl (bS rfl rfl (by omega) (by omega)) ?_
  refine aE aA 1 rfl (aD (hK7 _ (aR (bY (ι:=Nat) (fun j=>⟨42,[(0,.own E0 4 0 l.length),(1,.fn g cap),(5,.s (.int .i64 (((l.take j).filter fun x=>!p x).length:Nat))),(6,.s (.int .i64 (j:Nat)))],[(E0,.buf 4 ((kA (fun x=>!p x) l j).map enC))]⟩) (fun j=>j≤l.length) (fun j=>l.length - j) (k0+1) ?_ ?_ ?_))))
  · exact hk0
  · rw[hst.1,hst.2]; exact lE ⟨rfl,rfl,rfl,rfl,trivial⟩
  ·
   rintro j hC
   let q:=fun x=>!p x
   have hle:((l.take j).filter q).length≤j:=hq0 j
   have hle2:((l.take j).filter fun x=>!p x).length≤j:=hq0 j
   refine aC (fun K8 hK8=>(aC (fun K9 hK9=>(aB (aE aA 4 rfl (aD (hK9 _ (aO rfl (fun hc2=>?_) (fun hc2=>?_)))))))))
   ·
    simp only[bs] at hc2
    refine aP (hK8 _ (aC (fun K10 hK10=>(aR (aC (fun K11 hK11=>(aB (aE aA 2 rfl ?_))))))))
    refine aH rfl (cN rfl rfl gC eK (by omega)) ?_
    refine aH rfl (cD rfl aSv eK rfl (vW (c:=4) (k:=j) (enc:=enC) (by omega) (by rw[fH]; omega) rfl) (cs':=enC l[j]) (by rw[sK (c:=4) (k:=j) (enc:=enC) (by omega) (by rw[fH]; omega) rfl,sU q l j j (by omega) hle])) ?_
    refine cF hf rfl nK rfl eK rfl rfl rfl rfl (lf rfl) (aD (hK11 _ (aC (fun K12 hK12=>(aB (aE aA 2 rfl (aM hf rfl (aQ rfl rfl hent (by rw[hJ,hcl]; rfl) (hp _ (List.getElem_mem _))) ?_)))))))
    refine aE aA 1 rfl (aD (hK12 _ (aO rfl (fun hc3=>?_) (fun hc3=>?_))))
    ·
     simp only[bs] at hc3
     refine aC (fun K13 hK13=>(aB (aE aA 3 rfl ?_)))
     refine aH rfl (cN rfl rfl gC eK (by omega)) ?_
     refine aZ hf rfl rfl eK rfl rfl (by simp [enC,AV.cells,AV.one,Value.oneCell',splice]) (by simp [enC,AV.cells,AV.leaf,Value.oneCell',splice]) (iK (c:=4) (k:=((l.take j).filter fun x=>!p x).length) (enc:=enC) (v:=l[j]) (by omega) (by rw[fH]; omega) rfl (Nat.le_refl _)) ?_
     refine aD (hK13 _ (aB ?_))
     rw[mJ (fun x=>!p x) l j (by omega) (by simp_all)]
     refine aE aA 1 rfl ?_
     refine aH rfl (bS rfl rfl (by omega) (by omega)) ?_
     rw[pD (fun x=>!p x) l j (by omega) (by simp_all)]
     refine aE aA 1 rfl ?_
     refine bL ?_
     refine hK10 _ (aB (aE aA 1 rfl ?_))
     refine aH rfl (bS rfl rfl (by omega) (by omega)) ?_
     refine aE aA 1 rfl (aD ?_)
     exact⟨j+1,(by omega),by omega,cW rfl⟩
    ·
     simp only[bs] at hc3
     rw[mK (fun x=>!p x) l j (by omega) (by simp_all),pE (fun x=>!p x) l j (by omega) (by simp_all)]
     refine aP (hK10 _ (aB (aE aA 1 rfl ?_)))
     refine aH rfl (bS rfl rfl (by omega) (by omega)) ?_
     refine aE aA 1 rfl (aD ?_)
     exact⟨j+1,(by omega),by omega,cW rfl⟩
   ·
    simp only[bs] at hc2
    refine bF (hK6 _ (aC (fun K14 hK14=>(aB (aE aA 2 rfl ?_)))))
    refine aH rfl (fL rfl gC eK rfl rfl (by omega) (by omega)) ?_
    refine xZ hf kM nK (by simp [Value.oneCell']) rfl rfl ?_
    refine aD (hK14 _ (aC (fun K15 hK15=>(aB (aE aA 2 rfl ?_)))))
    refine aH rfl (fL rfl gC eK rfl rfl (by omega) (by omega)) ?_
    refine aE aA 1 rfl (aD (hK15 _ (aN ?_)))
    have hjl:l.length≤j:=by omega
    have he:=qX (fun x=>!p x) l j hjl
    refine⟨_,_,_,Le.refl _,rfl,rfl,?_,?_⟩
    · rw[List.take_of_length_le hjl]; rfl
    · rw[List.take_of_length_le hjl,Nat.zero_add,Int.toNat_natCast,← List.map_take,he]
theorem qW (l:List En) (hl:l.length*48≤140737488355328) :DenO Tryz.prog 97 [.sl 4 (l.map enC)] 4 (·=(l.map enC)):=by
 refine fY Tryz.func97 rfl (Nat.le_of_ble_eq_true rfl) (fun w0 A hf=>?_)
 refine aC (fun K1 hK1=>(aB (aH rfl (bR) (aD (hK1 _ (aC (fun K2 hK2=>(aC (fun K3 hK3=>(aB (aE aA 1 rfl ?_)))))))))))
 refine oF rfl rfl rfl gC (fun b hb1=>?_)
 refine aD (hK3 _ (aO rfl (fun hc2=>?_) (fun hc2=>?_)))
 ·
  have hl0:l=[]:=by simpa using hb1 (by assumption)
  refine aC (fun K4 hK4=>(aB (jT hf 4 rfl rfl rfl (aD (hK4 _ (aN ?_))))))
  exact⟨2,[],by decide,rfl,rfl,by rw[hl0]; rfl⟩
 ·
  refine aP (hK2 _ (aC (fun K5 hK5=>(aB (cP hf rfl rfl rfl kM rfl rfl rfl rfl (l2 rfl) ?_)))))
  refine aE aA 1 rfl (bZ hf rfl kM rfl rfl rfl (.inl rfl) rfl rfl (by first | rfl | simp [eB,bV]) (by first | (simp only[maxLen,List.length_map,List.length_append,List.length_cons,List.length_nil]; omega) | (simp [maxLen] <;> omega)) (by first | (simp only[List.length_map,List.length_append,List.length_cons,List.length_nil]; omega) | (simp <;> omega)) ?_)
  refine bM (dY [7] rfl) (aE aA 1 rfl (aD (hK5 _ (aN ?_))))
  refine⟨5,(l.map enC),by decide,rfl,?_,rfl⟩
  show some (AV.own 5 4 0 (0+(l.map enC).length))=_
  rw[Nat.zero_add]
theorem aR3 (n:Nat) (hn:n*48≤140737488355328) :DenO Tryz.prog 230 [.s (.slice none 0 0),.s (.int .i64 (n:Nat))] 4 (·=[]):=by
 refine fY Tryz.func230 rfl (Nat.le_of_ble_eq_true rfl) (fun w0 A hf=>?_)
 refine aC (fun K1 hK1=>(aB (aH rfl (bR) (aD (hK1 _ (aC (fun K2 hK2=>(aC (fun K3 hK3=>(aB (aE aA 2 rfl (aD (hK3 _ (aO rfl (fun hc1=>?_) (fun hc1=>?_)))))))))))))))
 ·
  simp only[bs] at hc1
  omega
 ·
  simp only[bs] at hc1
  refine aP (hK2 _ (aC (fun K4 hK4=>(aC (fun K5 hK5=>(aB (aE aA 2 rfl (aH rfl (nD rfl gC) (aE aA 2 rfl ?_)))))))))
  refine aH rfl (gF rfl rfl (by omega) (by omega)) ?_
  refine aH rfl (gF rfl rfl (by omega) (by omega)) ?_
  refine aE aA 1 rfl (aD (hK5 _ (aC (fun K6 hK6=>(aB (aE aA 2 rfl (aD (hK6 _ (aO rfl (fun hc2=>?_) (fun hc2=>?_))))))))))
  ·
   simp only[bs] at hc2
   refine aB (aE aA 2 rfl (aH rfl (nD rfl gC) ?_))
   refine aH rfl (rL rfl gC eK rfl) ?_
   refine aE aA 1 rfl (vM hf rfl rfl rfl kM Tryz.underlying3 rfl rfl (by omega) (by omega) (by simp only[maxLen]; omega) ?_)
   refine aE aA 2 rfl ?_
   refine aH rfl (fL rfl gC eK rfl rfl (by omega) (by omega)) ?_
   refine aE aA 1 rfl (aD (hK4 _ (aC (fun K7 hK7=>(aB (aE aA 1 rfl ?_))))))
   refine aH rfl (uM rfl) ?_
   refine aD (hK7 _ (aN ?_))
   exact⟨22,[],by decide,rfl,rfl,rfl⟩
  ·
   simp only[bs] at hc2
   refine aP (hK4 _ (aC (fun K8 hK8=>(aB (aE aA 1 rfl ?_)))))
   refine aHq hf 4 rfl rfl rfl rfl ?_
   refine aD (hK8 _ (aN ?_))
   exact⟨4,[],by decide,rfl,rfl,rfl⟩
theorem aBc (rows:List (List En)) (hl:rows.length≤9223372036854775807) (hb:rows.flatten.length*48≤140737488355328) :DenO Tryz.prog 202 [.sl 1 (rows.map fun r=>[AV.sl 4 (r.map enC)])] 4 (·=(rows.flatten.map enC)):=by
 refine fY Tryz.func202 rfl (Nat.le_of_ble_eq_true rfl) (fun w0 A hf=>?_)
 refine aC (fun K1 hK1=>(aB (aH rfl (bR) (aD (hK1 _ (aC (fun K2 hK2=>(aB (aE aA 1 rfl (aD (hK2 _ (aC (fun K3 hK3=>(aC (fun K4 hK4=>(aB ?_))))))))))))))))
 refine aE aA 3 rfl (aD (hK4 _ (aR (bY (ι:=Nat) (fun k=>⟨36,[(0,.sl 1 (rows.map fun r=>[AV.sl 4 (r.map enC)])),(3,.s (.int .i64 ((rows.take k).flatten.length:Nat))),(9,.sl 1 (rows.map fun r=>[AV.sl 4 (r.map enC)])),(10,.s (.int .i64 ((rows.map fun r=>[AV.sl 4 (r.map enC)]).length:Nat))),(11,.s (.int .i64 (k:Nat)))],[]⟩) (fun k=>k≤rows.length) (fun k=>rows.length - k) 0 ?_ ?_ ?_))))
 · exact Nat.zero_le _
 · exact cW rfl
 ·
  rintro k hC
  refine aC (fun K5 hK5=>(aB (aE aA 1 rfl (aD (hK5 _ (aC (fun K6 hK6=>(aO rfl (fun hc1=>?_) (fun hc1=>?_)))))))))
  ·
   simp only[bs] at hc1
   refine aP (hK6 _ (aC (fun K7 hK7=>(aR (aC (fun K8 hK8=>(aB ?_)))))))
   refine aH rfl (bA rfl rfl aHl oD (by first | exact ixm (by omega) | assumption | exact⟨by decide,rfl⟩)) ?_
   refine aE aA 2 rfl (aD (hK8 _ (aC (fun K9 hK9=>(aB ?_)))))
   have hk:k<rows.length:=by omega
   have e1:=congrArg List.length (iI rows k hk)
   rw[List.length_append] at e1
   have e2:=rO rows (k+1)
   have e3:(rows[k].map enC).length=rows[k].length:=List.length_map _
   refine aE aA 3 rfl ?_
   refine aH rfl (bS rfl rfl (by omega) (by omega)) ?_
   rw[show ((((rows.take k).flatten.length:Nat):Int)+(((rows[k].map enC).length:Nat):Int))=(((rows.take (k+1)).flatten.length:Nat):Int) from by omega]
   refine aE aA 1 rfl (aD (hK9 _ (aC (fun K10 hK10=>(aB (aE aA 2 rfl (aD (hK10 _ (aO rfl (fun hc2=>?_) (fun hc2=>?_))))))))))
   ·
    simp only[bs] at hc2
    omega
   ·
    simp only[bs] at hc2
    refine aP (hK7 _ (aB ?_))
    refine aH rfl (bS rfl rfl (by omega) (by omega)) ?_
    refine aE aA 1 rfl (aD ?_)
    exact⟨k+1,(by omega),by omega,cW rfl⟩
  ·
   simp only[bs] at hc1
   refine bF (hK3 _ (aC (fun K11 hK11=>(aB ?_))))
   rw[List.take_of_length_le (show rows.length≤k by omega)]
   refine aE aA 1 rfl (iP hf rfl rfl rfl rfl rfl aL7 rfl (aR3 rows.flatten.length (by omega)) ?_)
   rintro _ rfl
   refine aE aA 1 rfl (aD (hK11 _ (aC (fun K12 hK12=>(aC (fun K13 hK13=>(aB (aE aA 3 rfl (aD (hK13 _ (aR (bY (ι:=Nat) (fun j=>⟨36,[(6,.own 24 4 0 (rows.take j).flatten.length),(25,.sl 1 (rows.map fun r=>[AV.sl 4 (r.map enC)])),(26,.s (.int .i64 ((rows.map fun r=>[AV.sl 4 (r.map enC)]).length:Nat))),(27,.s (.int .i64 (j:Nat)))],[(24,.buf 4 ((rows.take j).flatten.map enC))]⟩) (fun j=>j≤rows.length) (fun j=>rows.length - j) 0 ?_ ?_ ?_))))))))))))
   · exact Nat.zero_le _
   · exact cW rfl
   ·
    rintro j hC
    refine aC (fun K14 hK14=>(aB (aE aA 1 rfl (aD (hK14 _ (aC (fun K15 hK15=>(aO rfl (fun hc3=>?_) (fun hc3=>?_)))))))))
    ·
     simp only[bs] at hc3
     refine aP (hK15 _ (aC (fun K16 hK16=>(aR (aC (fun K17 hK17=>(aB ?_)))))))
     refine aH rfl (bA rfl rfl aHl oD (by first | exact ixm (by omega) | assumption | exact⟨by decide,rfl⟩)) ?_
     refine aE aA 2 rfl (aD (hK17 _ (aB ?_)))
     have hj:j<rows.length:=by omega
     have e1:=congrArg List.length (iI rows j hj)
     rw[List.length_append] at e1
     have e2:=rO rows (j+1)
     have e3:(rows[j].map enC).length=rows[j].length:=List.length_map _
     refine aE aA 2 rfl (bZ hf rfl kM rfl rfl rfl (.inl rfl) (by simp only[List.length_map]) rfl (by first | rfl | simp [eB,bV]) (by first | (simp only[maxLen,List.length_map,List.length_append,List.length_cons,List.length_nil]; omega) | (simp [maxLen] <;> omega)) (by first | (simp only[List.length_map,List.length_append,List.length_cons,List.length_nil]; omega) | (simp <;> omega)) ?_)
     refine bM (dY [25,26,27,33] rfl) ?_
     rw[show (rows.take j).flatten.length+(rows[j].map enC).length=(rows.take (j+1)).flatten.length from by omega,← List.map_append,← iI rows j hj]
     refine aE aA 1 rfl ?_
     refine bL ?_
     refine hK16 _ (aB ?_)
     refine aH rfl (bS rfl rfl (by omega) (by omega)) ?_
     refine aE aA 1 rfl (aD ?_)
     exact⟨j+1,(by omega),by omega,cW rfl⟩
    ·
     simp only[bs] at hc3
     refine bF (hK12 _ (aC (fun K18 hK18=>(aB (aE aA 2 rfl (aD (hK18 _ (aN ?_))))))))
     refine⟨24,(rows.flatten.map enC),by decide,?_,?_,rfl⟩
     · rw[List.take_of_length_le (show rows.length≤j by omega)]; rfl
     · rw[List.take_of_length_le (show rows.length≤j by omega)]
       show some (AV.own 24 4 0 rows.flatten.length)=_
       rw[List.length_map]
theorem aOx (a b:List En) (ha:a.length≤9223372036854775807) (hb:b.length≤9223372036854775807) :Den Tryz.prog 123 [.sl 4 (a.map enC),.sl 4 (b.map enC)]  (·=.s (.bool (decide (a=b)))):=by
 refine aY Tryz.func123 rfl (Nat.le_of_ble_eq_true rfl) (fun w0 A hf=>(aC (fun K1 hK1=>(aB (aE aA 1 rfl (aD (hK1 _ (aC (fun K2 hK2=>(aC (fun K3 hK3=>(aB (aE aA 5 rfl (aD (hK3 _ (aO rfl (fun hc1=>?_) (fun hc1=>?_)))))))))))))))))
 ·
  simp only[bs] at hc1
  refine aC (fun K4 hK4=>(aB (aE aA 1 rfl (aD (hK4 _ (aN ?_))))))
  refine⟨_,rfl,?_⟩
  refine aS ?_
  rw[nH (by omega)]
 ·
  simp only[bs] at hc1
  refine aP (hK2 _ (aC (fun K5 hK5=>(aC (fun K6 hK6=>(aB (aE aA 3 rfl (aD (hK6 _ (aR (bY (ι:=Nat) (fun k=>⟨26,[(0,.sl 4 (a.map enC)),(1,.sl 4 (b.map enC)),(12,.s (.int .i64 ((a.map enC).length:Nat))),(13,.s (.int .i64 (k:Nat)))],[]⟩) (fun k=>k≤a.length∧a.take k=b.take k) (fun k=>a.length - k) 0 ?_ ?_ ?_)))))))))))
  · exact⟨Nat.zero_le _,rfl⟩
  · exact cW rfl
  ·
   rintro k hC
   obtain ⟨h1,h2⟩:=hC
   refine aC (fun K7 hK7=>(aB (aE aA 1 rfl (aD (hK7 _ (aC (fun K8 hK8=>(aO rfl (fun hc2=>?_) (fun hc2=>?_)))))))))
   ·
    simp only[bs] at hc2
    refine aP (hK8 _ (aC (fun K9 hK9=>(aR (aC (fun K10 hK10=>(aB (aE aA 2 rfl (aD (hK10 _ (aC (fun K11 hK11=>(dM hf bN (by kernel_rfl) rfl (bG aA 2 rfl ?_))))))))))))))
    refine bX [(16,_),(17,_)] rfl rfl ⟨⟨rfl,rfl⟩,⟨rfl,rfl⟩,trivial⟩ rfl (bA rfl rfl gC eK (by first | exact ixm (by omega) | assumption | exact⟨by decide,rfl⟩)) ?_
    refine bG aA 3 rfl ?_
    refine bX [(20,_),(21,_)] rfl rfl ⟨⟨rfl,rfl⟩,⟨rfl,rfl⟩,trivial⟩ rfl (bA rfl rfl gC eK (by first | exact ixm (by omega) | assumption | exact⟨by decide,rfl⟩)) ?_
    refine bG aA 1 rfl (bX [(19,_),(23,_)] rfl rfl ⟨⟨rfl,rfl⟩,⟨rfl,rfl⟩,trivial⟩ rfl (pP rfl rfl aSo rfl) ?_)
    rw[enC_eq]
    refine dQ [0,1,12,13,24] rfl rfl rfl (hK11 _ (aO rfl (fun hc3=>?_) (fun hc3=>?_)))
    ·
     simp only[bs] at hc3
     refine aC (fun K12 hK12=>(aB (aE aA 1 rfl (aD (hK12 _ (aN ?_))))))
     refine⟨_,rfl,?_⟩
     refine aS ?_
     rw[lG (by omega) (by omega) (by assumption)]
    ·
     simp only[bs] at hc3
     refine aP (hK9 _ (aB ?_))
     refine aH rfl (bS rfl rfl (by omega) (by omega)) ?_
     refine aE aA 1 rfl (aD ?_)
     exact⟨k+1,⟨by omega,jC (by omega) (by omega) h2 (by assumption)⟩,by omega,cW rfl⟩
   ·
    simp only[bs] at hc2
    refine bF (hK5 _ (aC (fun K13 hK13=>(aB (aE aA 1 rfl (aD (hK13 _ (aN ?_))))))))
    refine⟨_,rfl,?_⟩
    refine aS ?_
    rw[kK (by omega) (by omega) h2]
theorem one_den (w u:ByteArray) (f t:Int) :Den Tryz.prog 99 [.s (.string w),.s (.string u),.s (.int .i64 f),.s (.int .i64 t)]  (·=.agg (enC ((w,u),(f,t)))):=by
 refine aY Tryz.func99 rfl (Nat.le_of_ble_eq_true rfl) (fun w0 A hf=>(aC (fun K1 hK1=>(aB (aX hf rfl rfl rfl nK (aD (hK1 _ (aC (fun K2 hK2=>(aB (aE aA 2 rfl (aH rfl (cK rfl iC nM (l3 rfl) rfl) (aE aA 2 rfl (aH rfl (cK rfl wA tQ (l3 rfl) rfl) (aH rfl (cK rfl nK aFc (l3 rfl) rfl) ?_)))))))))))))))
 refine aZ hf rfl rfl eK rfl rfl (l1 rfl) (l4 rfl) rfl (aD (hK2 _ (aN ?_)))
 refine⟨_,rfl,?_⟩
 rfl
theorem aOp (e:En) (p:Pr) :Den Tryz.prog 231 [.agg (enC e),.adr (prC p)]  (·=.s (.bool (eS p e))):=by
 refine aY Tryz.func231 rfl (Nat.le_of_ble_eq_true rfl) (fun w0 A hf=>(aC (fun K1 hK1=>(aB (aM hf rfl (cT rfl rfl (lf rfl)) (aE aA 1 rfl (aD (hK1 _ (aC (fun K2 hK2=>(aB (aE aA 3 rfl (aH rfl (jJ rfl rfl aU1 rfl) ?_)))))))))))))
 rw[prC_eq]
 refine aE aA 1 rfl (bC rfl rfl rfl (fun hg1=>?_) (fun hg1=>?_))
 ·
  simp only[bs] at hg1
  refine aH rfl (bQ rfl aI3 aAu rfl) ?_
  refine aE aA 5 rfl (aD (hK2 _ (aN ?_)))
  refine⟨_,rfl,?_⟩
  refine aS ?_
  (simp_all[eS]; rfl)
 ·
  simp only[bs] at hg1
  refine aE aA 5 rfl (aD (hK2 _ (aN ?_)))
  refine⟨_,rfl,?_⟩
  refine aS ?_
  (simp_all[eS]; done)
theorem aHe (l:List En) (p:Pr) (hl:l.length≤9223372036854775807) :Den Tryz.prog 203 [.sl 4 (l.map enC),.agg (prC p)]  (·=.s (.int .i64 (nQ (eS p) l))):=by
 refine aY Tryz.func203 rfl (Nat.le_of_ble_eq_true rfl) (fun w0 A hf=>(aC (fun K1 hK1=>(aB (aM hf rfl (cT rfl rfl (lf rfl)) (aE aA 1 rfl (aD (hK1 _ (aC (fun K2 hK2=>(aB (aE aA 1 rfl (aH rfl (jB rfl) (aM hf rfl (aQ rfl rfl vE rfl (qV aL6 rfl (eS p) l hl (fun x _=>aOp x p))) (aE aA 1 rfl ?_)))))))))))))))
 refine aD (hK2 _ (aN ?_))
 refine⟨_,rfl,?_⟩
 rfl
theorem aKz (l:List En) (p:Pr) (hl:l.length≤9223372036854775807) :Den Tryz.prog 200 [.sl 4 (l.map enC),.agg (prC p)]  (·=.s (.bool (onB l p))):=by
 refine aY Tryz.func200 rfl (Nat.le_of_ble_eq_true rfl) (fun w0 A hf=>(aC (fun K1 hK1=>(aB (aM hf rfl (cT rfl rfl (lf rfl)) (aE aA 1 rfl (aD (hK1 _ (aC (fun K2 hK2=>(aB (aE aA 2 rfl (aM hf rfl (aQ rfl rfl aBr rfl (aHe _ _ (by omega))) (aE aA 2 rfl (aD ?_)))))))))))))))
 refine hK2 _ (aN ?_)
 refine⟨_,rfl,?_⟩
 refine aS ?_
 exact aEn _ _
theorem aRm (a b:En) :Den Tryz.prog 193 [.agg (enC a),.agg (enC b)]  (·=.s (.int .i64 (mF a b))):=by
 refine aY Tryz.func193 rfl (Nat.le_of_ble_eq_true rfl) (fun w0 A hf=>(aC (fun K1 hK1=>(aB (aM hf rfl (cT rfl rfl (lf rfl)) (aM hf rfl (cT rfl rfl (lf rfl)) (aE aA 1 rfl (aD (hK1 _ (aC (fun K2 hK2=>(dM hf bN (by kernel_rfl) rfl (bG aA 4 rfl (cC [(6,_),(8,_)] rfl rfl ⟨⟨rfl,rfl⟩,⟨rfl,rfl⟩,trivial⟩ rfl (aQ rfl rfl aL9 rfl (Nm.pairCmp_den _ _ _ _)) (bG aA 6 rfl ?_)))))))))))))))
 refine cC [(12,_),(15,_)] rfl rfl ⟨⟨rfl,rfl⟩,⟨rfl,rfl⟩,trivial⟩ rfl (aQ rfl rfl oO rfl (jU _ _)) (cC [(9,_),(16,_)] rfl rfl ⟨⟨rfl,rfl⟩,⟨rfl,rfl⟩,trivial⟩ rfl (bD xY rfl rfl rfl rfl (l2 rfl)) (cC [(17,_)] rfl rfl ⟨⟨rfl,rfl⟩,trivial⟩ rfl (aQ rfl rfl vF rfl (Nm.or_den [_,_] (by simp))) ?_))
 refine bG aA 1 rfl (dQ [4] rfl rfl rfl (hK2 _ (aN ?_)))
 refine⟨_,rfl,?_⟩
 rfl
theorem aOn (x e:En) :Den Tryz.prog 201 [.agg (enC x),.adr (enC e)]  (·=.s (.bool (decide (0<mF x e)))):=by
 refine aY Tryz.func201 rfl (Nat.le_of_ble_eq_true rfl) (fun w0 A hf=>(aC (fun K1 hK1=>(aB (aM hf rfl (cT rfl rfl (lf rfl)) (aE aA 1 rfl (aD (hK1 _ (aC (fun K2 hK2=>(aB (aE aA 2 rfl (aM hf rfl (aQ rfl rfl aMq rfl (aRm _ _)) (aE aA 2 rfl (aD ?_)))))))))))))))
 refine hK2 _ (aN ?_)
 refine⟨_,rfl,?_⟩
 rfl
theorem aHu (e:En) (u:ByteArray) :Den Tryz.prog 186 [.agg (enC e),.adr [.s (.string u)]]  (·=.s (.bool (nG u e))):=by
 refine aY Tryz.func186 rfl (Nat.le_of_ble_eq_true rfl) (fun w0 A hf=>(aC (fun K1 hK1=>(aB (aM hf rfl (cT rfl rfl (lf rfl)) (aE aA 1 rfl (aD (hK1 _ (aC (fun K2 hK2=>(aB (aE aA 3 rfl (aM hf rfl (aQ rfl rfl aMs rfl (Nm.pairHas_den _ _ _)) (aE aA 1 rfl (aD ?_)))))))))))))))
 refine hK2 _ (aN ?_)
 refine⟨_,rfl,?_⟩
 rfl
end Go.Proofs.YtijnkglkchhomaaGreat
set_option linter.unusedVariables false
set_option linter.unusedSimpArgs false
namespace Go.Abs
theorem aRx {l:List En} {p:Pr} {t:Int}:(gT l p t).length=l.length+1:=aKx _ _
theorem aJy (p:Pr) (t:Int):∀ l:List En,(jG l p t).length≤l.length
  | []=>Nat.le_refl _
  | e::l=>by
    rw[jG]; split
    · have:(qG e t).length≤1:=by unfold qG; split <;> simp
      simp only[List.length_append,List.length_cons]; omega
    · have:=aJy p t l
      simp only[List.length_cons]; omega
theorem aKo (l:List En) (p:Pr) (t:Int):(if onB l p=true then [] else gT l p t).length≤l.length+1:=by
  split
  · simp
  · rw[aRx]; omega
theorem aKn (l:List En) (p:Pr) (t:Int):(if onB l p=true then jG l p t else []).length≤l.length:=by
  split
  · exact aJy p t l
  · simp
end Go.Abs
set_option linter.unusedVariables false
set_option linter.unusedSimpArgs false
namespace Go.Abs
abbrev Us:=ByteArray×List cB
abbrev Tm:=ByteArray×Int
def usC (x:Us):List AV:=[.s (.string x.1),.sl 4 (x.2.map stC)]
def tmC (x:Tm):List AV:=[.s (.string x.1),.s (.int .i64 x.2)]
theorem tmC_eq (x y:Tm):(x.1.toList == y.1.toList&&(x.2 == y.2&&true))=decide (x=y):=by
  rw[Bool.eq_iff_iff]
  simp only[Bool.and_eq_true,beq_iff_eq,toList_inj,and_true,decide_eq_true_eq,Prod.ext_iff,and_assoc]
structure Sta where
  now:Int
  hor:Int
  opn:List Se
  usr:List Us
  sub:List En
  tmb:List Tm
  deriving DecidableEq
def aJ:Sta:=⟨0,0,[],[],[],[]⟩
def aL (s:Sta):List AV:=[.s (.int .i64 s.now),.s (.int .i64 s.hor),.sl 4 (s.opn.map seC),.sl 2 (s.usr.map usC),.sl 4 (s.sub.map enC),.sl 2 (s.tmb.map tmC)]
def eX (s:Sta) (a b:Nat):List AV:=[.s (.int .i64 s.now),.s (.int .i64 s.hor),.sl 4 (s.opn.map seC),.own a 2 0 (s.usr.map usC).length,.sl 4 (s.sub.map enC),.own b 2 0 (s.tmb.map tmC).length]
structure SzS (n:Nat) (s:Sta):Prop where
  o:s.opn.length*40≤n
  u:s.usr.length*40≤n
  b:s.sub.length*48≤n
  t:s.tmb.length*24≤n
  y:∀ x∈s.usr,x.2.length*32≤n
theorem SzS.mono {n m:Nat} {s:Sta} (h:SzS n s) (hm:n≤m):SzS m s:=⟨Nat.le_trans h.o hm,Nat.le_trans h.u hm,Nat.le_trans h.b hm,Nat.le_trans h.t hm,fun x hx=>Nat.le_trans (h.y x hx) hm⟩
section
variable {α:Type} (key:α→ByteArray)
def isK (u:ByteArray) (x:α):Bool:=decide (key x=u)
def loK (u:ByteArray) (x:α):Bool:=decide (eA (key x) u<0)
def hiK (u:ByteArray) (x:α):Bool:=decide (0<eA (key x) u)
def cX (l:List α):Prop:=l.Pairwise fun a b=>eA (key a) (key b)<0
def yF (l:List α) (u:ByteArray) (ys:List α):List α:=l.filter (loK key u)++(ys++l.filter (hiK key u))
def dS (l:List α) (u:ByteArray):Nat:=(l.filter (loK key u)).length
def mI (l:List α) (u:ByteArray):Bool:=l.any (isK key u)
end
section
variable {α:Type} {key:α→ByteArray}
theorem nZ (u:ByteArray):eA u u=0:=(lY u u).2 rfl
theorem aHg (x u:ByteArray):(eA x u<0∧x≠u)∨x=u∨(0<eA x u∧x≠u):=by
  by_cases h:x=u
  · exact .inr (.inl h)
  · have h0:eA x u≠0:=fun e=>h ((lY x u).1 e)
    by_cases h1:eA x u<0
    · exact .inl ⟨h1,h⟩
    · exact .inr (.inr ⟨by omega,h⟩)
theorem sH {u:ByteArray}:∀ {l:List α},cX key l→l=l.filter (loK key u)++(l.filter (isK key u)++l.filter (hiK key u))∧(l.filter (isK key u)).length≤1
  | [],_=>⟨rfl,by simp⟩
  | x::l,h=>by
    obtain ⟨h1,h2⟩:=List.pairwise_cons.1 h
    obtain ⟨e1,e2⟩:=sH (u:=u) h2
    rcases aHg (key x) u with ⟨a,b⟩ | a | ⟨a,b⟩
    · have c1:loK key u x=true:=by simp [loK,a]
      have c2:isK key u x=false:=by simp [isK,b]
      have c3:hiK key u x=false:=by simp only[hiK,decide_eq_false_iff_not]; omega
      simp only[List.filter_cons,c1,c2,c3,if_true,Bool.false_eq_true,if_false,List.cons_append]
      exact⟨by rw[← e1],e2⟩
    · have hlo:l.filter (loK key u)=[]:=List.filter_eq_nil_iff.2 fun y hy=>by
        have:=h1 y hy
        have:=oL (key x) (key y)
        rw[a] at *
        simp only[loK,decide_eq_true_eq]; omega
      have hm:l.filter (isK key u)=[]:=List.filter_eq_nil_iff.2 fun y hy=>by
        have:=h1 y hy
        rw[a] at this
        simp only[isK,decide_eq_true_eq]
        intro e
        rw[e,nZ] at this
        omega
      have c1:loK key u x=false:=by simp [loK,a,nZ]
      have c2:isK key u x=true:=by simp [isK,a]
      have c3:hiK key u x=false:=by simp [hiK,a,nZ]
      simp only[List.filter_cons,c1,c2,c3,if_true,Bool.false_eq_true,if_false,hlo,hm] at e1 ⊢
      exact⟨by simpa using e1,by simp⟩
    · have hlo:l.filter (loK key u)=[]:=List.filter_eq_nil_iff.2 fun y hy=>by
        have:=h1 y hy
        have h3:=oL u (key x)
        have h4:=oL u (key y)
        have:=gI (a:=u) (b:=key x) (c:=key y) (by omega) this
        simp only[loK,decide_eq_true_eq]; omega
      have hm:l.filter (isK key u)=[]:=List.filter_eq_nil_iff.2 fun y hy=>by
        have:=h1 y hy
        have h3:=oL u (key x)
        have h5:=gI (a:=u) (b:=key x) (c:=key y) (by omega) this
        simp only[isK,decide_eq_true_eq]
        intro e
        rw[e,nZ] at h5
        omega
      have c1:loK key u x=false:=by simp only[loK,decide_eq_false_iff_not]; omega
      have c2:isK key u x=false:=by simp [isK,b]
      have c3:hiK key u x=true:=by simp [hiK,a]
      simp only[List.filter_cons,c1,c2,c3,if_true,Bool.false_eq_true,if_false,hlo,hm] at e1 ⊢
      exact⟨by simp only[List.nil_append] at e1 ⊢; rw[← e1],by simp⟩
theorem gU {l:List α} (h:cX key l) (q:α→Bool):cX key (l.filter q):=h.filter q
theorem vS {l:List α} {u:ByteArray} {ys:List α} (h:cX key l) (hy:∀ y∈ys,key y=u) (h1:ys.length≤1):cX key (yF key l u ys):=by
  have hb:∀ x∈l.filter (loK key u),eA (key x) u<0:=fun x hx=>by have:=(List.mem_filter.1 hx).2; simpa [loK] using this
  have ha:∀ x∈l.filter (hiK key u),eA u (key x)<0:=fun x hx=>by
    have:=(List.mem_filter.1 hx).2
    have h2:=oL u (key x)
    simp only[hiK,decide_eq_true_eq] at this; omega
  refine List.pairwise_append.2 ⟨gU h _,List.pairwise_append.2 ⟨?_,gU h _,fun y hm z hz=>by rw[hy y hm]; exact ha z hz⟩,fun x hx z hz=>?_⟩
  · match ys,h1 with
    | [],_=>exact List.Pairwise.nil
    | [y],_=>exact List.pairwise_singleton _ _
  · rcases List.mem_append.1 hz with hz | hz
    · rw[hy z hz]; exact hb x hx
    · exact gI (hb x hx) (ha z hz)
theorem jW {l:List α} {u:ByteArray} {ys:List α} {x:α}:x∈yF key l u ys↔(x∈l∧key x≠u)∨x∈ys:=by
  simp only[yF,List.mem_append,List.mem_filter,loK,hiK,decide_eq_true_eq]
  constructor
  · rintro (⟨h,h1⟩ | h | ⟨h,h1⟩)
    · exact .inl ⟨h,fun e=>by rw[e,nZ] at h1; omega⟩
    · exact .inr h
    · exact .inl ⟨h,fun e=>by rw[e,nZ] at h1; omega⟩
  · rintro (⟨h,h1⟩ | h)
    · rcases aHg (key x) u with ⟨a,_⟩ | a | ⟨a,_⟩
      · exact .inl ⟨h,a⟩
      · exact absurd a h1
      · exact .inr (.inr ⟨h,a⟩)
    · exact .inr (.inl h)
theorem kU:∀ {a b:List α},cX key a→cX key b→(∀ x,x∈a↔x∈b)→a=b
  | [],[],_,_,_=>rfl
  | [],y::b,_,_,h=>absurd ((h y).2 (by simp)) (by simp)
  | x::a,[],_,_,h=>absurd ((h x).1 (by simp)) (by simp)
  | x::a,y::b,ha,hb,h=>by
    obtain ⟨a1,a2⟩:=List.pairwise_cons.1 ha
    obtain ⟨b1,b2⟩:=List.pairwise_cons.1 hb
    have irr:∀ z:α,¬ eA (key z) (key z)<0:=fun z=>by rw[nZ]; omega
    have hxy:x=y:=by
      rcases List.mem_cons.1 ((h x).1 (by simp)) with e | e
      · exact e
      · rcases List.mem_cons.1 ((h y).2 (by simp)) with e' | e'
        · exact e'.symm
        · exact absurd (gI (b1 x e) (a1 y e')) (irr y)
    subst hxy
    rw[kU a2 b2 fun z=>?_]
    have:=h z
    simp only[List.mem_cons] at this
    constructor
    · intro hz
      rcases this.1 (.inr hz) with e | e
      · subst e; exact absurd (a1 z hz) (irr z)
      · exact e
    · intro hz
      rcases this.2 (.inr hz) with e | e
      · subst e; exact absurd (b1 z hz) (irr z)
      · exact e
theorem yN (l:List α) (u:ByteArray):dS key l u≤l.length:=List.length_filter_le _ _
theorem qK {l:List α} (h:cX key l) (u:ByteArray):l.take (dS key l u)=l.filter (loK key u)∧l.drop (dS key l u)=l.filter (isK key u)++l.filter (hiK key u):=by
  have e:=(sH (u:=u) h).1
  constructor
  · have:l.take (dS key l u)=(l.filter (loK key u)++(l.filter (isK key u)++l.filter (hiK key u))).take (l.filter (loK key u)).length:=by rw[← e]; rfl
    rw[this,List.take_left]
  · have:l.drop (dS key l u)=(l.filter (loK key u)++(l.filter (isK key u)++l.filter (hiK key u))).drop (l.filter (loK key u)).length:=by rw[← e]; rfl
    rw[this,List.drop_left]
theorem aOl {l:List α} {u:ByteArray} (h:mI key l u=false):l.filter (isK key u)=[]:=by
  rw[mI,List.any_eq_false] at h
  exact List.filter_eq_nil_iff.2 h
theorem aOm {l:List α} (h:cX key l) {u:ByteArray} (hh:mI key l u=true):∃ hk:dS key l u<l.length,key (l[dS key l u])=u∧l.filter (isK key u)=[l[dS key l u]]:=by
  obtain ⟨x,hx,hxu⟩:=List.any_eq_true.1 hh
  have h1:x∈l.filter (isK key u):=List.mem_filter.2 ⟨hx,hxu⟩
  obtain ⟨e1,e2⟩:=sH (u:=u) h
  have e3:l.filter (isK key u)=[x]:=by
    match hl:l.filter (isK key u),h1,e2 with
    | [],h1,_=>cases h1
    | [y],h1,_=>rw[List.mem_singleton.1 h1]
    | y::z::r,_,e2=>simp at e2
  have hd:=(qK h u).2
  rw[e3] at hd
  have hlt:dS key l u<l.length:=by
    have:=congrArg List.length hd
    simp only[List.length_drop,List.length_append,List.length_cons,List.length_nil] at this
    omega
  have hg:l[dS key l u]=x:=by
    have:=congrArg (fun r=>r[0]?) hd
    simp only[List.getElem?_drop,Nat.add_zero,List.cons_append,List.getElem?_cons_zero] at this
    rw[List.getElem?_eq_getElem hlt] at this
    exact Option.some.inj this
  refine⟨hlt,?_,?_⟩
  · rw[hg]; simpa [isK] using hxu
  · rw[e3,hg]
theorem aJ9 {l:List α} (h:cX key l) {u:ByteArray} (hh:mI key l u=true):l.drop (dS key l u+1)=l.filter (hiK key u):=by
  obtain ⟨hk,_,e⟩:=aOm h hh
  have hd:=(qK h u).2
  rw[e] at hd
  rw[← List.drop_drop,hd]; rfl
theorem aHy {l:List α} (h:cX key l) {u:ByteArray} (hh:mI key l u=true) (y:α):l.set (dS key l u) y=yF key l u [y]:=by
  obtain ⟨hk,_,_⟩:=aOm h hh
  rw[List.set_eq_take_append_cons_drop,if_pos hk,(qK h u).1,aJ9 h hh]; rfl
theorem aQe {l:List α} (h:cX key l) {u:ByteArray} (hh:mI key l u=false) (y:α):l.take (dS key l u)++y::l.drop (dS key l u)=yF key l u [y]:=by
  rw[(qK h u).1,(qK h u).2,aOl hh]; rfl
theorem aDj {l:List α} (h:cX key l) (u:ByteArray):l.filter (fun x=>!isK key u x)=yF key l u []:=by
  refine kU (key:=key) (gU h _) (vS h (by simp) (by simp)) fun x=>?_
  rw[jW,List.mem_filter]
  simp [isK]
theorem has_set {l:List α} {u v:ByteArray} {ys:List α} (hy:∀ y∈ys,key y=u):mI key (yF key l u ys) v=if v=u then !ys.isEmpty else mI key l v:=by
  rw[Bool.eq_iff_iff]
  simp only[mI,List.any_eq_true,jW,isK,decide_eq_true_eq]
  by_cases hv:v=u
  · subst hv
    rw[if_pos rfl]
    constructor
    · rintro ⟨x,⟨_,h⟩ | h,e⟩
      · exact absurd e h
      · cases ys with
        | nil=>cases h
        | cons y r=>rfl
    · intro h
      cases ys with
      | nil=>cases h
      | cons y r=>exact⟨y,.inr (by simp),hy y (by simp)⟩
  · rw[if_neg hv,List.any_eq_true]
    constructor
    · rintro ⟨x,⟨h,_⟩ | h,e⟩
      · exact⟨x,h,by simp [isK,e]⟩
      · exact absurd ((hy x h).symm.trans e).symm hv
    · rintro ⟨x,h,e⟩
      have e':key x=v:=by simpa [isK] using e
      exact⟨x,.inl ⟨h,by rw[e']; exact hv⟩,e'⟩
end
abbrev cZ:Us→ByteArray:=Prod.fst
abbrev dR:Tm→ByteArray:=Prod.fst
def ofU (l:List Us) (u:ByteArray):List cB:=((l.find? (isK cZ u)).map Prod.snd).getD []
def tU (u:ByteArray) (ys:List cB):List Us:=if ys=[] then [] else [(u,ys)]
def kE (l:List Us) (u:ByteArray) (ys:List cB):List Us:=yF cZ l u (tU u ys)
theorem aDp {u:ByteArray} {ys:List cB}:∀ y∈tU u ys,cZ y=u:=by
  intro y hy; unfold tU at hy; split at hy
  · cases hy
  · rw[List.mem_singleton.1 hy]
theorem aJs {u:ByteArray} {ys:List cB}:(tU u ys).length≤1:=by unfold tU; split <;> simp
theorem sF {l:List Us} {u:ByteArray} {ys:List cB} (h:cX cZ l):cX cZ (kE l u ys):=vS h aDp aJs
theorem qN {l:List Us} {u:ByteArray} (h:mI cZ l u=false):ofU l u=[]:=by
  rw[mI,List.any_eq_false] at h
  rw[ofU,List.find?_eq_none.2 h]; rfl
theorem aCq {l:List Us} (h:cX cZ l) {x:Us} (hx:x∈l):ofU l x.1=x.2:=by
  have:l.find? (isK cZ x.1)=some x:=by
    have hs:(l.find? (isK cZ x.1)).isSome=true:=List.find?_isSome.2 ⟨x,hx,by simp [isK]⟩
    obtain ⟨y,hy⟩:=Option.isSome_iff_exists.1 hs
    have h1:=List.mem_of_find?_eq_some hy
    have h2:=List.find?_some hy
    simp only[isK,decide_eq_true_eq] at h2
    rw[hy]
    have e:=(sH (u:=x.1) h).2
    have m1:x∈l.filter (isK cZ x.1):=List.mem_filter.2 ⟨hx,by simp [isK]⟩
    have m2:y∈l.filter (isK cZ x.1):=List.mem_filter.2 ⟨h1,by simp [isK,h2]⟩
    match hl:l.filter (isK cZ x.1),m1,m2,e with
    | [z],m1,m2,_=>rw[List.mem_singleton.1 m1,List.mem_singleton.1 m2]
    | z::z'::r,_,_,e=>simp at e
  rw[ofU,this]; rfl
theorem aAd {l:List Us} (h:cX cZ l) {u:ByteArray} (hh:mI cZ l u=true):∃ hk:dS cZ l u<l.length,l[dS cZ l u]=(u,ofU l u):=by
  obtain ⟨hk,e,_⟩:=aOm h hh
  have:=aCq h (List.getElem_mem hk)
  have e':l[dS cZ l u].1=u:=e
  rw[e'] at this
  exact⟨hk,Prod.ext e' this.symm⟩
theorem lP {l:List Us} (h:cX cZ l) {u v:ByteArray} {ys:List cB}:ofU (kE l u ys) v=if v=u then ys else ofU l v:=by
  by_cases hh:mI cZ (kE l u ys) v=true
  · obtain ⟨hk,e⟩:=aAd (sF h) hh
    have hm:=List.getElem_mem hk
    rw[e,kE,jW] at hm
    by_cases hv:v=u
    · subst hv
      rw[if_pos rfl]
      rcases hm with ⟨_,h2⟩ | hm
      · exact absurd rfl h2
      · unfold tU at hm
        split at hm
        · cases hm
        · have:=(Prod.ext_iff.1 (List.mem_singleton.1 hm)).2
          simpa [kE,tU, *] using this
    · rw[if_neg hv]
      rcases hm with ⟨h1,_⟩ | hm
      · exact(aCq h h1).symm
      · exact absurd (aDp _ hm) hv
  · have hf:=Bool.eq_false_iff.2 hh
    rw[qN hf]
    rw[kE,has_set aDp] at hf
    by_cases hv:v=u
    · rw[if_pos hv] at hf ⊢
      unfold tU at hf
      split at hf
      · rename_i e; exact e.symm
      · simp at hf
    · rw[if_neg hv] at hf ⊢
      exact(qN hf).symm
def mN (l:List Us) (u:ByteArray) (x:cB):List Us:=if x.1.2≤x.1.1 then l else kE l u (iU (ofU l u) x)
def mC (l:List Tm) (u:ByteArray) (t:Int):List Tm:=yF dR l u [(u,t)]
def lA (s:Sta) (x:cB):Bool:=!(s.opn.any fun e=>decide (e.1.1=x.2.1)&&decide (e.2.2<x.1.2))&&(decide (0≤x.1.1)&&(decide (x.1.2≤s.now)&&(decide (1≤x.2.1)&&(decide (x.2.1≤999)&&(decide (1≤x.2.2)&&decide (x.2.2≤4))))))
def aCe (s:Sta) (x:Us):Bool:=!x.2.isEmpty&&(zV x.2&&x.2.all (lA s))
def aEd (s:Sta) (e:En):Bool:=decide (0≤e.2.1)&&(decide (e.2.1≤s.now)&&(decide (e.2.2≤s.now)||decide (e.2.2=1099511627776)))
def aTt (s:Sta) (x:Tm):Bool:=decide (0≤x.2)&&decide (x.2≤s.now)
def nxK {α:Type} (key:α→ByteArray) (a b:α):Bool:=decide (eA (key a) (key b)<0)
def risN {α:Type} (key:α→ByteArray) (l:List α):Bool:=pO (fun x=>dA (key x)) (nxK key) none l
def qF (s:Sta):Bool:=decide (0≤s.now)&&(decide (s.now<1099511627776)&&(decide (0≤s.hor)&&(decide (s.hor<1099511627776)&&(kW s.opn&&(s.opn.all (fun e=>decide (e.2.2≤s.now))&&(risN cZ s.usr&&(s.usr.all (aCe s)&&(aFw s.sub&&(s.sub.all (aEd s)&&(risN dR s.tmb&&s.tmb.all (aTt s)))))))))))
theorem aTf {α:Type} {key:α→ByteArray} (l:List α):risN key l=true↔(∀ x∈l,dA (key x)=true)∧cX key l:=by
  rw[risN,sI (fun a b=>eA (key a) (key b)<0) (fun x y=>by simp [nxK]) (fun x y z _ h1 h2=>gI h1 h2)]
  simp [cX]
structure RightP (s:Sta):Prop where
  n0:0≤s.now
  n1:s.now<1099511627776
  h0:0≤s.hor
  h1:s.hor<1099511627776
  opn:kW s.opn=true
  late:∀ e∈s.opn,e.2.2≤s.now
  unm:∀ x∈s.usr,dA x.1=true
  usr:cX cZ s.usr
  uok:∀ x∈s.usr,aCe s x=true
  sub:aFw s.sub=true
  sok:∀ e∈s.sub,aEd s e=true
  tnm:∀ x∈s.tmb,dA x.1=true
  tmb:cX dR s.tmb
  tok:∀ x∈s.tmb,aTt s x=true
theorem pV {s:Sta}:qF s=true↔RightP s:=by
  simp only[qF,Bool.and_eq_true,decide_eq_true_eq,List.all_eq_true,aTf]
  constructor
  · rintro ⟨a,b,c,d,e,f,⟨g,g'⟩,h,i,j,⟨k,k'⟩,l⟩
    exact⟨a,b,c,d,e,f,g,g',h,i,j,k,k',l⟩
  · rintro ⟨a,b,c,d,e,f,g,g',h,i,j,k,k',l⟩
    exact⟨a,b,c,d,e,f,⟨g,g'⟩,h,i,j,⟨k,k'⟩,l⟩
structure Ev where
  kind:Int
  at':Int
  user:ByteArray
  other:ByteArray
  n:Int
  st:Int
  deriving DecidableEq
def evC (e:Ev):List AV:=[.s (.int .i64 e.kind),.s (.int .i64 e.at'),.s (.string e.user),.s (.string e.other),.s (.int .i64 e.n),.s (.int .i64 e.st)]
abbrev bs0:ByteArray:=⟨#[]⟩
def eF (e:Ev):Bool:=decide (1≤e.n)&&(decide (e.n≤999)&&(dA e.user&&decide (e.other=bs0)))
def bU (e:Ev):Bool:=decide (0≤e.at')&&(decide (e.at'<1099511627776)&&(
  if e.kind=1∨e.kind=2 then eF e&&(decide (1≤e.st)&&decide (e.st≤4))
  else if e.kind=3 then eF e&&decide (e.st=0)
  else if e.kind=4∨e.kind=5 then dA e.user&&(dA e.other&&(decide (e.n=0)&&decide (e.st=0)))
  else if e.kind=6 then decide (e.user=bs0)&&(decide (e.other=bs0)&&(decide (e.st=0)&&(decide (0≤e.n)&&decide (e.n<1099511627776))))
  else if e.kind=7 then dA e.user&&(decide (e.other=bs0)&&(decide (e.n=0)&&decide (e.st=0)))
  else false))
def fX (s:Sta) (u:ByteArray) (t:Int):Sta:=⟨s.now,s.hor,s.opn.filter (fun e=>!pS u e),kE s.usr u [],s.sub.filter (fun e=>!nG u e),mC s.tmb u t⟩
def bO (s:Sta) (e:Ev):Sta×Int :=
  if e.kind=1 then ({ s with opn:=mG s.opn ((e.n,e.user),(e.st,e.at')) },nT s.opn ((e.n,e.user),(e.st,e.at')))
  else if e.kind=2 then ({ s with opn:=mM s.opn e.n e.user e.st e.at',usr:=mN s.usr e.user (stR s.opn e.n e.user e.at') },eW s.opn e.n e.user)
  else if e.kind=3 then ({ s with opn:=mL s.opn e.n e.user,usr:=mN s.usr e.user (stR s.opn e.n e.user e.at') },eW s.opn e.n e.user)
  else if e.kind=4 then ({ s with sub:=if onB s.sub (e.user,e.other)=true then [] else gT s.sub (e.user,e.other) e.at' },if onB s.sub (e.user,e.other)=true then 90 else 0)
  else if e.kind=5 then ({ s with sub:=if onB s.sub (e.user,e.other)=true then jG s.sub (e.user,e.other) e.at' else [] },if onB s.sub (e.user,e.other)=true then 0 else 91)
  else if e.kind=6 then ({ s with hor:=max s.hor e.n },0)
  else (fX s e.user e.at',0)
def bT (s:Sta) (e:Ev):Sta×Int :=
  if bU e=true then (if e.at'<s.now then (aJ,111) else (if (bO s e).2=0 then ({ (bO s e).1 with now:=e.at' },0) else (aJ,(bO s e).2))) else (aJ,110)
def aJk (s:Sta) (u:ByteArray) (t:Int):List cB:=(hY s.opn u t).foldl iU (ofU s.usr u)
def xL (l:List Us):Nat:=(l.map fun x=>x.2.length).sum
def aEw (s:Sta):Nat:=s.opn.length+s.sub.length+s.tmb.length+xL s.usr
section
variable {α:Type} {key:α→ByteArray}
def BsI (l:List α) (key:α→ByteArray) (u:ByteArray) (i j:Nat):Prop:=i≤j∧j≤l.length∧(∀ (q:Nat) (hq:q<l.length),q<i→eA (key l[q]) u<0)∧(∀ (q:Nat) (hq:q<l.length),j≤q→¬ eA (key l[q]) u<0)
theorem BsI.start (l:List α) (u:ByteArray):BsI l key u 0 l.length:=⟨Nat.zero_le _,Nat.le_refl _,fun _ _ h=>absurd h (Nat.not_lt_zero _),fun q hq h=>absurd hq (by omega)⟩
theorem BsI.lo {l:List α} {u:ByteArray} {i j m:Nat} (h:BsI l key u i j) (hr:cX key l) (h1:i≤m) (h2:m<j) (hm:m<l.length) (hc:eA (key l[m]) u<0):BsI l key u (m+1) j:=by
  refine⟨h2,h.2.1,fun q hq hqm=>?_,h.2.2.2⟩
  by_cases e:q=m
  · subst e; exact hc
  · exact gI (List.pairwise_iff_getElem.1 hr q m hq hm (by omega)) hc
theorem BsI.hi {l:List α} {u:ByteArray} {i j m:Nat} (h:BsI l key u i j) (hr:cX key l) (h1:i≤m) (h2:m<j) (hm:m<l.length) (hc:¬ eA (key l[m]) u<0):BsI l key u i m:=by
  refine⟨h1,by have:=h.2.1; omega,h.2.2.1,fun q hq hqm=>?_⟩
  by_cases e:q=m
  · subst e; exact hc
  · have h3:=List.pairwise_iff_getElem.1 hr m q hm hq (by omega)
    intro h4
    exact hc (gI h3 h4)
theorem BsI.fin {l:List α} {u:ByteArray} {i j:Nat} (h:BsI l key u i j) (hr:cX key l) (hij:j≤i):dS key l u=i∧mI key l u=(decide (i<l.length)&&decide (∃ hi:i<l.length,eA (key l[i]) u=0)):=by
  have e:i=j:=by have:=h.1; omega
  subst e
  obtain ⟨_,h1,h2,h3⟩:=h
  have hp:l.filter (loK key u)=l.take i:=by
    conv=>lhs; rw[← List.take_append_drop i l]
    rw[List.filter_append]
    have a:(l.take i).filter (loK key u)=l.take i:=List.filter_eq_self.2 fun x hx=>by
      obtain ⟨q,hq,rfl⟩:=List.getElem_of_mem hx
      rw[List.length_take] at hq
      rw[List.getElem_take]
      simp only[loK,decide_eq_true_eq]
      exact h2 q (by omega) (by omega)
    have b:(l.drop i).filter (loK key u)=[]:=List.filter_eq_nil_iff.2 fun x hx=>by
      obtain ⟨q,hq,rfl⟩:=List.getElem_of_mem hx
      rw[List.length_drop] at hq
      rw[List.getElem_drop]
      simp only[loK,decide_eq_true_eq]
      exact h3 (i+q) (by omega) (by omega)
    rw[a,b,List.append_nil]
  refine⟨by rw[dS,hp,List.length_take]; omega,?_⟩
  rw[Bool.eq_iff_iff]
  simp only[mI,List.any_eq_true,isK,decide_eq_true_eq,Bool.and_eq_true]
  constructor
  · rintro ⟨x,hx,e⟩
    obtain ⟨q,hq,rfl⟩:=List.getElem_of_mem hx
    have hc:eA (key l[q]) u=0:=(lY _ _).2 e
    have hqi:i≤q:=by
      rcases Nat.lt_or_ge q i with h | h
      · have:=h2 q hq h; omega
      · exact h
    have hil:i<l.length:=by omega
    refine⟨hil,hil,?_⟩
    by_cases e2:q=i
    · subst e2; exact hc
    · exfalso
      have h4:=List.pairwise_iff_getElem.1 hr i q hil hq (by omega)
      have h5:=h3 i hil (Nat.le_refl _)
      have h6:=wK h4 (show eA (key l[q]) u≤0 by omega)
      exact h5 h6
  · rintro ⟨_,hi,e⟩
    exact⟨l[i],List.getElem_mem _,(lY _ _).1 e⟩
theorem BsI.fin_t {l:List α} {u:ByteArray} {i j:Nat} (h:BsI l key u i j) (hr:cX key l) (hij:j≤i) (hi:i<l.length):mI key l u=(eA (key l[i]) u == 0):=by
  rw[(h.fin hr hij).2,Bool.eq_iff_iff]
  simp only[Bool.and_eq_true,decide_eq_true_eq,beq_iff_eq]
  exact⟨fun⟨_,_,e⟩=>e,fun e=>⟨hi,hi,e⟩⟩
theorem BsI.fin_f {l:List α} {u:ByteArray} {i j:Nat} (h:BsI l key u i j) (hr:cX key l) (hij:j≤i) (hi:¬ i<l.length):mI key l u=false:=by
  rw[(h.fin hr hij).2]
  simp [hi]
end
def eC (s:Sta) (u:ByteArray) (x:cB):Sta:={ s with usr:=mN s.usr u x }
theorem iT {s:Sta} {u:ByteArray} {x:cB} (h:x.1.2≤x.1.1):eC s u x=s:=by rw[eC,mN,if_pos h]
theorem aQy {l:List cB} {x:cB} (h:¬ x.1.2≤x.1.1):iU l x≠[]:=fun e=>by
  have h1:=aEk l x
  rw[iU,if_neg h] at e
  rw[e] at h1; simp at h1
theorem aQx {l:List Us} {u:ByteArray} {x:cB} (hr:cX cZ l) (hh:mI cZ l u=true) (h:¬ x.1.2≤x.1.1) (hk:dS cZ l u<l.length):l.set (dS cZ l u) (l[dS cZ l u].1,iU l[dS cZ l u].2 x)=mN l u x:=by
  obtain ⟨_,e⟩:=aAd hr hh
  rw[e,mN,if_neg h,kE,tU,if_neg (aQy h),aHy hr hh]
theorem aUx {x:cB} (h:¬ x.1.2≤x.1.1):iU [] x=[x]:=by
  rw[iU,if_neg h]
  have h1:=iL x []
  exact List.perm_singleton.1 h1
theorem aUu {l:List Us} {u:ByteArray} {x:cB} (hr:cX cZ l) (hh:mI cZ l u=false) (h:¬ x.1.2≤x.1.1):List.flatten [l.take (dS cZ l u),[(u,[x])],l.drop (dS cZ l u)]=mN l u x:=by
  rw[mN,if_neg h,kE,tU,if_neg (aQy h),qN hh,aUx h,← aQe hr hh]
  simp
end Go.Abs
set_option linter.unusedVariables false
set_option linter.unusedSimpArgs false
namespace Go.Proofs.YtijnkglkchhomaaGreat
open Go Go.Abs
theorem aC9 {g:Nat} {cap:List AV} (hent:∀ args w,(callFunc g args).run Tryz.prog w=.ok (.enter g args) w) (hcl:cleanL (fun _=>false) cap=true) (p:Tm→Bool) (l:List Tm) (hl:l.length≤9223372036854775807) (hp:∀ x∈l,Den Tryz.prog g (.agg (tmC x)::cap) (·=.s (.bool (p x)))) :Den Tryz.prog 195 [.sl 2 (l.map tmC),.fn g cap]  (·=.s (.int .i64 (nQ p l))):=by
 refine aY Tryz.func195 rfl (Nat.le_of_ble_eq_true rfl) (fun w0 A hf=>(aC (fun K1 hK1=>(aB (aE aA 1 rfl (aD (hK1 _ (aC (fun K2 hK2=>(aC (fun K3 hK3=>(aB (aE aA 3 rfl (aD (hK3 _ (aR ?_))))))))))))))))
 refine bY (ι:=Nat) (fun k=>⟨19,[(0,.sl 2 (l.map tmC)),(1,.fn g cap),(7,.s (.int .i64 ((l.map tmC).length:Nat))),(8,.s (.int .i64 (k:Nat)))],[]⟩) (fun k=>k≤l.length∧∀ (j:Nat) (hj:j<l.length),j<k→p l[j]=false) (fun k=>l.length - k) 0 ?_ ?_ ?_
 · exact⟨by omega,by omega⟩
 · exact cW rfl
 ·
  rintro k hC
  obtain ⟨h1,h2⟩:=hC
  refine aC (fun K4 hK4=>(aB (aE aA 1 rfl (aD (hK4 _ (aC (fun K5 hK5=>(aO rfl (fun hc1=>?_) (fun hc1=>?_)))))))))
  ·
   simp only[bs] at hc1
   refine aP (hK5 _ (aC (fun K6 hK6=>(aR (aC (fun K7 hK7=>(aB (aE aA 2 rfl (aD (hK7 _ (aC (fun K8 hK8=>(aB (aE aA 3 rfl ?_))))))))))))))
   refine aH rfl (bA rfl rfl iZ fT (by first | exact ixm (by omega) | assumption | exact⟨by decide,rfl⟩)) ?_
   refine aE aA 1 rfl (aM hf rfl (aQ rfl rfl hent (by rw[hJ,hcl]; rfl) (hp _ (List.getElem_mem _))) ?_)
   refine aD (hK8 _ (aO rfl (fun hc2=>?_) (fun hc2=>?_)))
   ·
    refine aC (fun K9 hK9=>(aB (aE aA 2 rfl (aD (hK9 _ (aN ?_))))))
    refine⟨_,rfl,?_⟩
    refine eR ?_
    rw[jZ (by omega) h2 (by assumption)]
   ·
    refine aP (hK6 _ (aB ?_))
    refine aH rfl (bS rfl rfl (by omega) (by omega)) ?_
    refine aE aA 1 rfl (aD ?_)
    exact⟨k+1,⟨by omega,fun j hj hjk=>by
      by_cases e:j=k
      · subst e; simp_all
      · exact h2 j hj (by omega)⟩,by omega,cW rfl⟩
  ·
   simp only[bs] at hc1
   refine bF (hK2 _ (aC (fun K10 hK10=>(aB (aE aA 1 rfl (aD (hK10 _ (aN ?_))))))))
   refine⟨_,rfl,?_⟩
   refine eR ?_
   rw[oI (fun j hj=>h2 j hj (by omega))]
theorem aB7 {g:Nat} {cap:List AV} (hent:∀ args w,(callFunc g args).run Tryz.prog w=.ok (.enter g args) w) (hcl:cleanL (fun _=>false) cap=true) (hcv:∀ m,convL m cap=cap) (p:Tm→Bool) (l:List Tm) (n:Nat) (hn:n=l.length) (hl:l.length≤9223372036854775807) (hp:∀ x∈l,Den Tryz.prog g (.agg (tmC x)::cap) (·=.s (.bool (p x)))) :DenM Tryz.prog 207 [.own E0 2 0 n,.fn g cap] 2 ((l.map tmC)) (fun r ys=>r=.own E0 2 0 (l.filter fun x=>!p x).length∧ys=((l.filter fun x=>!p x).map tmC)):=by
 subst hn
 have hq0:∀ j,((l.take j).filter fun x=>!p x).length≤j:=fun j=>jN _ l j
 have hq1:∀ j,((l.take j).filter fun x=>!p x).length≤l.length:=fun j=>iM _ l j
 refine iA Tryz.func207 rfl (Nat.le_of_ble_eq_true rfl) (fun w0 x0 A hf=>?_)
 refine aC (fun K1 hK1=>(aB (aH rfl (bR) (aD (hK1 _ (aC (fun K2 hK2=>(aB (aE aA 2 rfl (aM hf rfl (tI rfl rfl (by show [AV.conv _ _,AV.fn g (convL _ cap)]=_; rw[hcv,cE (g:=E0) rfl (by simp)]) aMp (aC9 hent hcl p l hl hp) rfl) ?_))))))))))
 refine aE aA 1 rfl (aD (hK2 _ (aC (fun K3 hK3=>(aC (fun K4 hK4=>(aB (aE aA 2 rfl (aD (hK4 _ (aO rfl (fun hc1=>?_) (fun hc1=>?_))))))))))))
 ·
  simp only[bs] at hc1
  refine aC (fun K5 hK5=>(aB (aE aA 2 rfl (aD (hK5 _ (aN ?_))))))
  have hno:nQ p l=-1:=by simpa using hc1
  rcases dW p l with ⟨_,hn⟩ | ⟨k,hk,e,_⟩
  · exact⟨_,.own E0 2 0 l.length,(l.map tmC),Le.refl _,rfl,rfl,by rw[hH p l hn],by rw[hH p l hn]⟩
  · exfalso; omega
 ·
  simp only[bs] at hc1
  refine aP (hK3 _ (aC (fun K6 hK6=>(aC (fun K7 hK7=>(aB ?_))))))
  rcases dW p l with ⟨e0,_⟩ | ⟨k0,hk0,ek0,hpk0,hbef⟩
  · exact absurd e0 (by simpa using hc1)
  have hst:=nY (fun x=>!p x) l k0 hk0 (fun j hj hjk=>by simp [hbef j hj hjk]) (by simp [hpk0])
  rw[ek0]
  refine aE aA 1 rfl ?_
  refine aH rfl (bS rfl rfl (by omega) (by omega)) ?_
  refine aE aA 1 rfl (aD (hK7 _ (aR (bY (ι:=Nat) (fun j=>⟨42,[(0,.own E0 2 0 l.length),(1,.fn g cap),(5,.s (.int .i64 (((l.take j).filter fun x=>!p x).length:Nat))),(6,.s (.int .i64 (j:Nat)))],[(E0,.buf 2 ((kA (fun x=>!p x) l j).map tmC))]⟩) (fun j=>j≤l.length) (fun j=>l.length - j) (k0+1) ?_ ?_ ?_))))
  · exact hk0
  · rw[hst.1,hst.2]; exact lE ⟨rfl,rfl,rfl,rfl,trivial⟩
  ·
   rintro j hC
   let q:=fun x=>!p x
   have hle:((l.take j).filter q).length≤j:=hq0 j
   have hle2:((l.take j).filter fun x=>!p x).length≤j:=hq0 j
   refine aC (fun K8 hK8=>(aC (fun K9 hK9=>(aB (aE aA 4 rfl (aD (hK9 _ (aO rfl (fun hc2=>?_) (fun hc2=>?_)))))))))
   ·
    simp only[bs] at hc2
    refine aP (hK8 _ (aC (fun K10 hK10=>(aR (aC (fun K11 hK11=>(aB (aE aA 2 rfl ?_))))))))
    refine aH rfl (cN rfl rfl iZ fT (by omega)) ?_
    refine aH rfl (cD rfl aSx fT rfl (vW (c:=2) (k:=j) (enc:=tmC) (by omega) (by rw[fH]; omega) rfl) (cs':=tmC l[j]) (by rw[sK (c:=2) (k:=j) (enc:=tmC) (by omega) (by rw[fH]; omega) rfl,sU q l j j (by omega) hle])) ?_
    refine cF hf rfl wB rfl fT rfl rfl rfl rfl (lf rfl) (aD (hK11 _ (aC (fun K12 hK12=>(aB (aE aA 2 rfl (aM hf rfl (aQ rfl rfl hent (by rw[hJ,hcl]; rfl) (hp _ (List.getElem_mem _))) ?_)))))))
    refine aE aA 1 rfl (aD (hK12 _ (aO rfl (fun hc3=>?_) (fun hc3=>?_))))
    ·
     simp only[bs] at hc3
     refine aC (fun K13 hK13=>(aB (aE aA 3 rfl ?_)))
     refine aH rfl (cN rfl rfl iZ fT (by omega)) ?_
     refine aZ hf rfl rfl fT rfl rfl (by simp [tmC,AV.cells,AV.one,Value.oneCell',splice]) (by simp [tmC,AV.cells,AV.leaf,Value.oneCell',splice]) (iK (c:=2) (k:=((l.take j).filter fun x=>!p x).length) (enc:=tmC) (v:=l[j]) (by omega) (by rw[fH]; omega) rfl (Nat.le_refl _)) ?_
     refine aD (hK13 _ (aB ?_))
     rw[mJ (fun x=>!p x) l j (by omega) (by simp_all)]
     refine aE aA 1 rfl ?_
     refine aH rfl (bS rfl rfl (by omega) (by omega)) ?_
     rw[pD (fun x=>!p x) l j (by omega) (by simp_all)]
     refine aE aA 1 rfl ?_
     refine bL ?_
     refine hK10 _ (aB (aE aA 1 rfl ?_))
     refine aH rfl (bS rfl rfl (by omega) (by omega)) ?_
     refine aE aA 1 rfl (aD ?_)
     exact⟨j+1,(by omega),by omega,cW rfl⟩
    ·
     simp only[bs] at hc3
     rw[mK (fun x=>!p x) l j (by omega) (by simp_all),pE (fun x=>!p x) l j (by omega) (by simp_all)]
     refine aP (hK10 _ (aB (aE aA 1 rfl ?_)))
     refine aH rfl (bS rfl rfl (by omega) (by omega)) ?_
     refine aE aA 1 rfl (aD ?_)
     exact⟨j+1,(by omega),by omega,cW rfl⟩
   ·
    simp only[bs] at hc2
    refine bF (hK6 _ (aC (fun K14 hK14=>(aB (aE aA 2 rfl ?_)))))
    refine aH rfl (fL rfl iZ fT rfl rfl (by omega) (by omega)) ?_
    refine xZ hf mA wB (by simp [Value.oneCell']) rfl rfl ?_
    refine aD (hK14 _ (aC (fun K15 hK15=>(aB (aE aA 2 rfl ?_)))))
    refine aH rfl (fL rfl iZ fT rfl rfl (by omega) (by omega)) ?_
    refine aE aA 1 rfl (aD (hK15 _ (aN ?_)))
    have hjl:l.length≤j:=by omega
    have he:=qX (fun x=>!p x) l j hjl
    refine⟨_,_,_,Le.refl _,rfl,rfl,?_,?_⟩
    · rw[List.take_of_length_le hjl]; rfl
    · rw[List.take_of_length_le hjl,Nat.zero_add,Int.toNat_natCast,← List.map_take,he]
theorem aDa (l:List Tm) (hl:l.length*24≤140737488355328) :DenO Tryz.prog 98 [.sl 2 (l.map tmC)] 2 (·=(l.map tmC)):=by
 refine fY Tryz.func98 rfl (Nat.le_of_ble_eq_true rfl) (fun w0 A hf=>?_)
 refine aC (fun K1 hK1=>(aB (aH rfl (bR) (aD (hK1 _ (aC (fun K2 hK2=>(aC (fun K3 hK3=>(aB (aE aA 1 rfl ?_)))))))))))
 refine oF rfl rfl rfl iZ (fun b hb1=>?_)
 refine aD (hK3 _ (aO rfl (fun hc2=>?_) (fun hc2=>?_)))
 ·
  have hl0:l=[]:=by simpa using hb1 (by assumption)
  refine aC (fun K4 hK4=>(aB (jT hf 2 rfl rfl rfl (aD (hK4 _ (aN ?_))))))
  exact⟨2,[],by decide,rfl,rfl,by rw[hl0]; rfl⟩
 ·
  refine aP (hK2 _ (aC (fun K5 hK5=>(aB (cP hf rfl rfl rfl mA rfl rfl rfl rfl (l2 rfl) ?_)))))
  refine aE aA 1 rfl (bZ hf rfl mA rfl rfl rfl (.inl rfl) rfl rfl (by first | rfl | simp [eB,bV]) (by first | (simp only[maxLen,List.length_map,List.length_append,List.length_cons,List.length_nil]; omega) | (simp [maxLen] <;> omega)) (by first | (simp only[List.length_map,List.length_append,List.length_cons,List.length_nil]; omega) | (simp <;> omega)) ?_)
  refine bM (dY [7] rfl) (aE aA 1 rfl (aD (hK5 _ (aN ?_))))
  refine⟨5,(l.map tmC),by decide,rfl,?_,rfl⟩
  show some (AV.own 5 2 0 (0+(l.map tmC).length))=_
  rw[Nat.zero_add]
theorem aN0 (a b:List Tm) (ha:a.length≤9223372036854775807) (hb:b.length≤9223372036854775807) :Den Tryz.prog 82 [.sl 2 (a.map tmC),.sl 2 (b.map tmC)]  (·=.s (.bool (decide (a=b)))):=by
 refine aY Tryz.func82 rfl (Nat.le_of_ble_eq_true rfl) (fun w0 A hf=>(aC (fun K1 hK1=>(aB (aE aA 1 rfl (aD (hK1 _ (aC (fun K2 hK2=>(aC (fun K3 hK3=>(aB (aE aA 5 rfl (aD (hK3 _ (aO rfl (fun hc1=>?_) (fun hc1=>?_)))))))))))))))))
 ·
  simp only[bs] at hc1
  refine aC (fun K4 hK4=>(aB (aE aA 1 rfl (aD (hK4 _ (aN ?_))))))
  refine⟨_,rfl,?_⟩
  refine aS ?_
  rw[nH (by omega)]
 ·
  simp only[bs] at hc1
  refine aP (hK2 _ (aC (fun K5 hK5=>(aC (fun K6 hK6=>(aB (aE aA 3 rfl (aD (hK6 _ (aR (bY (ι:=Nat) (fun k=>⟨26,[(0,.sl 2 (a.map tmC)),(1,.sl 2 (b.map tmC)),(12,.s (.int .i64 ((a.map tmC).length:Nat))),(13,.s (.int .i64 (k:Nat)))],[]⟩) (fun k=>k≤a.length∧a.take k=b.take k) (fun k=>a.length - k) 0 ?_ ?_ ?_)))))))))))
  · exact⟨Nat.zero_le _,rfl⟩
  · exact cW rfl
  ·
   rintro k hC
   obtain ⟨h1,h2⟩:=hC
   refine aC (fun K7 hK7=>(aB (aE aA 1 rfl (aD (hK7 _ (aC (fun K8 hK8=>(aO rfl (fun hc2=>?_) (fun hc2=>?_)))))))))
   ·
    simp only[bs] at hc2
    refine aP (hK8 _ (aC (fun K9 hK9=>(aR (aC (fun K10 hK10=>(aB (aE aA 2 rfl (aD (hK10 _ (aC (fun K11 hK11=>(dM hf bN (by kernel_rfl) rfl (bG aA 2 rfl ?_))))))))))))))
    refine bX [(16,_),(17,_)] rfl rfl ⟨⟨rfl,rfl⟩,⟨rfl,rfl⟩,trivial⟩ rfl (bA rfl rfl iZ fT (by first | exact ixm (by omega) | assumption | exact⟨by decide,rfl⟩)) ?_
    refine bG aA 3 rfl ?_
    refine bX [(20,_),(21,_)] rfl rfl ⟨⟨rfl,rfl⟩,⟨rfl,rfl⟩,trivial⟩ rfl (bA rfl rfl iZ fT (by first | exact ixm (by omega) | assumption | exact⟨by decide,rfl⟩)) ?_
    refine bG aA 1 rfl (bX [(19,_),(23,_)] rfl rfl ⟨⟨rfl,rfl⟩,⟨rfl,rfl⟩,trivial⟩ rfl (pP rfl rfl aSs rfl) ?_)
    rw[tmC_eq]
    refine dQ [0,1,12,13,24] rfl rfl rfl (hK11 _ (aO rfl (fun hc3=>?_) (fun hc3=>?_)))
    ·
     simp only[bs] at hc3
     refine aC (fun K12 hK12=>(aB (aE aA 1 rfl (aD (hK12 _ (aN ?_))))))
     refine⟨_,rfl,?_⟩
     refine aS ?_
     rw[lG (by omega) (by omega) (by assumption)]
    ·
     simp only[bs] at hc3
     refine aP (hK9 _ (aB ?_))
     refine aH rfl (bS rfl rfl (by omega) (by omega)) ?_
     refine aE aA 1 rfl (aD ?_)
     exact⟨k+1,⟨by omega,jC (by omega) (by omega) h2 (by assumption)⟩,by omega,cW rfl⟩
   ·
    simp only[bs] at hc2
    refine bF (hK5 _ (aC (fun K13 hK13=>(aB (aE aA 1 rfl (aD (hK13 _ (aN ?_))))))))
    refine⟨_,rfl,?_⟩
    refine aS ?_
    rw[kK (by omega) (by omega) h2]
end Go.Proofs.YtijnkglkchhomaaGreat
set_option linter.unusedVariables false
set_option linter.unusedSimpArgs false
namespace Go.Proofs.YtijnkglkchhomaaGreat
open Go Go.Abs
theorem aRs (l:List cB) (hl:l.length*32+32≤140737488355328) :Den Tryz.prog 53 [.sl 4 (l.map stC)]  (·=.sl 4 (l.map stC)):=by
 refine aY Tryz.func53 rfl (Nat.le_of_ble_eq_true rfl) (fun w0 A hf=>(aC (fun K1 hK1=>(aB (aH rfl (bR) (aD (hK1 _ (aC (fun K2 hK2=>(aB (jT hf 4 rfl rfl rfl (aD (hK2 _ (aC (fun K3 hK3=>(aC (fun K4 hK4=>?_)))))))))))))))))
 refine aB (aE aA 3 rfl (aD (hK4 _ (aR (bY (ι:=Nat) (fun k=>⟨19,[(3,.own 3 4 0 (l.take k).length),(6,.sl 4 (l.map stC)),(7,.s (.int .i64 ((l.map stC).length:Nat))),(8,.s (.int .i64 (k:Nat)))],[(3,.buf 4 ((l.take k).map stC))]⟩) (fun k=>k≤l.length) (fun k=>l.length - k) 0 ?_ ?_ ?_)))))
 · exact Nat.zero_le _
 · exact cW rfl
 ·
  rintro k hC
  refine aC (fun K5 hK5=>(aB (aE aA 1 rfl (aD (hK5 _ (aC (fun K6 hK6=>(aO rfl (fun hc1=>?_) (fun hc1=>?_)))))))))
  ·
   simp only[bs] at hc1
   refine aP (hK6 _ (aC (fun K7 hK7=>(aR (aC (fun K8 hK8=>(aB ?_)))))))
   refine aH rfl (bA rfl rfl lL eL (by first | exact ixm (by omega) | assumption | exact⟨by decide,rfl⟩)) ?_
   refine aE aA 1 rfl (cF hf rfl iN rfl eL rfl rfl rfl rfl (lf rfl) (aD (hK8 _ (aB ?_))))
   have htl:(l.take k).length=k:=by rw[List.length_take]; omega
   refine aE aA 2 rfl (aM hf rfl (aQ rfl rfl aNr rfl (aTy l[k])) (aM hf rfl (bD jQ rfl rfl rfl rfl (l2 rfl)) (bZ hf rfl jQ rfl rfl rfl (.inl rfl) (by rw[List.length_map]) rfl (by first | rfl | simp [eB,bV]) (by first | (simp only[maxLen,List.length_map,List.length_append,List.length_cons,List.length_nil]; omega) | (simp [maxLen] <;> omega)) (by first | (simp only[List.length_map,List.length_append,List.length_cons,List.length_nil]; omega) | (simp <;> omega)) ?_)))
   refine bM (dY [6,7,8,16] rfl) (aE aA 1 rfl ?_)
   refine bL ?_
   refine hK7 _ (aB ?_)
   refine aH rfl (bS rfl rfl (by omega) (by omega)) ?_
   refine aE aA 1 rfl (aD ?_)
   exact⟨k+1,by omega,by omega,cJ ⟨(by rw[iH l k (by omega)]; rfl),rfl,rfl,rfl,trivial⟩ (by rw[jK l stC k (by omega)]; rfl)⟩
  ·
   simp only[bs] at hc1
   refine bF (hK3 _ (aC (fun K9 hK9=>(aB (aE aA 2 rfl (aD (hK9 _ (aN ?_))))))))
   refine⟨_,rfl,?_⟩
   refine(cE (g:=3) rfl (by rw[List.length_map])).trans ?_
   rw[List.take_of_length_le (by omega)]
theorem aRo (l:List cB) (hl:l.length*32+32≤140737488355328) :Den Tryz.prog 29 [.sl 4 (l.map stC)]  (·=.sl 4 (l.map stC)):=by
 refine aY Tryz.func29 rfl (Nat.le_of_ble_eq_true rfl) (fun w0 A hf=>(aC (fun K1 hK1=>(aB (aH rfl (bR) (aD (hK1 _ (aC (fun K2 hK2=>(aB (jT hf 4 rfl rfl rfl (aD (hK2 _ (aC (fun K3 hK3=>(aC (fun K4 hK4=>?_)))))))))))))))))
 refine aB (aE aA 3 rfl (aD (hK4 _ (aR (bY (ι:=Nat) (fun k=>⟨19,[(3,.own 3 4 0 (l.take k).length),(6,.sl 4 (l.map stC)),(7,.s (.int .i64 ((l.map stC).length:Nat))),(8,.s (.int .i64 (k:Nat)))],[(3,.buf 4 ((l.take k).map stC))]⟩) (fun k=>k≤l.length) (fun k=>l.length - k) 0 ?_ ?_ ?_)))))
 · exact Nat.zero_le _
 · exact cW rfl
 ·
  rintro k hC
  refine aC (fun K5 hK5=>(aB (aE aA 1 rfl (aD (hK5 _ (aC (fun K6 hK6=>(aO rfl (fun hc1=>?_) (fun hc1=>?_)))))))))
  ·
   simp only[bs] at hc1
   refine aP (hK6 _ (aC (fun K7 hK7=>(aR (aC (fun K8 hK8=>(aB ?_)))))))
   refine aH rfl (bA rfl rfl cS bH (by first | exact ixm (by omega) | assumption | exact⟨by decide,rfl⟩)) ?_
   refine aE aA 1 rfl (cF hf rfl eY rfl bH rfl rfl rfl rfl (lf rfl) (aD (hK8 _ (aB ?_))))
   have htl:(l.take k).length=k:=by rw[List.length_take]; omega
   refine aE aA 2 rfl (aM hf rfl (aQ rfl rfl aPm rfl (aTs l[k])) (aM hf rfl (bD oS rfl rfl rfl rfl (l2 rfl)) (bZ hf rfl oS rfl rfl rfl (.inl rfl) (by rw[List.length_map]) rfl (by first | rfl | simp [eB,bV]) (by first | (simp only[maxLen,List.length_map,List.length_append,List.length_cons,List.length_nil]; omega) | (simp [maxLen] <;> omega)) (by first | (simp only[List.length_map,List.length_append,List.length_cons,List.length_nil]; omega) | (simp <;> omega)) ?_)))
   refine bM (dY [6,7,8,16] rfl) (aE aA 1 rfl ?_)
   refine bL ?_
   refine hK7 _ (aB ?_)
   refine aH rfl (bS rfl rfl (by omega) (by omega)) ?_
   refine aE aA 1 rfl (aD ?_)
   exact⟨k+1,by omega,by omega,cJ ⟨(by rw[iH l k (by omega)]; rfl),rfl,rfl,rfl,trivial⟩ (by rw[jK l stC k (by omega)]; rfl)⟩
  ·
   simp only[bs] at hc1
   refine bF (hK3 _ (aC (fun K9 hK9=>(aB (aE aA 2 rfl (aD (hK9 _ (aN ?_))))))))
   refine⟨_,rfl,?_⟩
   refine(cE (g:=3) rfl (by rw[List.length_map])).trans ?_
   rw[List.take_of_length_le (by omega)]
theorem aDx (l:List cB) (hl:l.length≤9223372036854775807) :Den Tryz.prog 94 [.sl 4 (l.map stC)]  (·=.s (.bool (zV l))):=by
 refine aY Tryz.func94 rfl (Nat.le_of_ble_eq_true rfl) (fun w0 A hf=>(aC (fun K1 hK1=>(aB (aE aA 1 rfl (aD (hK1 _ (aC (fun K2 hK2=>(aC (fun K3 hK3=>(aB (aE aA 1 rfl (aD (hK3 _ (aR ?_))))))))))))))))
 refine bY (ι:=Nat) (fun k=>⟨38,[(0,.sl 4 (l.map stC)),(3,.s (.int .i64 (k:Nat)))],[]⟩) (fun k=>k≤l.length∧zV l=pO okS aEe (kO l k) (l.drop k)) (fun k=>l.length - k) 0 ?_ ?_ ?_
 · exact⟨Nat.zero_le _,rfl⟩
 · exact cW rfl
 ·
  rintro k hC
  obtain ⟨h1,h2⟩:=hC
  refine aC (fun K4 hK4=>(aC (fun K5 hK5=>(aB (aE aA 4 rfl (aD (hK5 _ (aO rfl (fun hc1=>?_) (fun hc1=>?_)))))))))
  ·
   simp only[bs] at hc1
   refine aP (hK4 _ (aC (fun K6 hK6=>(aR (aC (fun K7 hK7=>(dM hf bN (by kernel_rfl) rfl (bG aA 2 rfl ?_))))))))
   refine bX [(10,_),(11,_)] rfl rfl ⟨⟨rfl,rfl⟩,⟨rfl,rfl⟩,trivial⟩ rfl (bA rfl rfl lL eL (by first | exact ixm (by omega) | assumption | exact⟨by decide,rfl⟩)) ?_
   refine bG aA 4 rfl ?_
   refine bX [(15,_),(16,_)] rfl rfl ⟨⟨rfl,rfl⟩,⟨rfl,rfl⟩,trivial⟩ rfl (bA rfl rfl lL eL (by first | exact ixm (by omega) | assumption | exact⟨by decide,rfl⟩)) ?_
   refine bG aA 4 rfl (gP 21 false rfl (fun hg2=>?_) (fun hg2=>?_))
   ·
    simp only[bs] at hg2
    refine bG aA 3 rfl (gP 24 true rfl (fun hg3=>?_) (fun hg3=>?_))
    ·
     simp only[bs] at hg3
     refine bG aA 2 rfl ?_
     refine bX [(26,_)] rfl rfl ⟨⟨rfl,rfl⟩,trivial⟩ rfl (gF rfl rfl (by omega) (by omega)) ?_
     refine bX [(25,_),(27,_)] rfl rfl ⟨⟨rfl,rfl⟩,⟨rfl,rfl⟩,trivial⟩ rfl (bA rfl rfl lL eL (mS (k:=k - 1) (by omega) (by omega))) (bG aA 3 rfl ?_)
     refine bX [(30,_),(31,_)] rfl rfl ⟨⟨rfl,rfl⟩,⟨rfl,rfl⟩,trivial⟩ rfl (bA rfl rfl lL eL (by first | exact ixm (by omega) | assumption | exact⟨by decide,rfl⟩)) ?_
     refine bG aA 1 rfl (cC [(29,_),(33,_)] rfl rfl ⟨⟨rfl,rfl⟩,⟨rfl,rfl⟩,trivial⟩ rfl (aQ rfl rfl aBy rfl (aE6 l[k - 1] l[k])) (bG aA 3 rfl (dQ [0,3,37] rfl rfl rfl (hK7 _ (aO rfl (fun hc4=>?_) (fun hc4=>?_))))))
     ·
      simp only[bs] at hc4
      refine aC (fun K8 hK8=>(aB (aE aA 1 rfl (aD (hK8 _ (aN ?_))))))
      refine⟨_,rfl,?_⟩
      refine aS ?_
      rw[kV h2 (by omega) (by omega) (show aEe _ _=false from by simp only[aEe,decide_eq_false_iff_not]; omega)]
     ·
      simp only[bs] at hc4
      refine aP (hK6 _ (aB (aE aA 1 rfl ?_)))
      refine aH rfl (bS rfl rfl (by omega) (by omega)) ?_
      refine aE aA 1 rfl (aD ?_)
      exact⟨k+1,⟨by omega,oY h2 (by omega) (show okS l[k]=true from by simp only[okS,decide_eq_true_eq]; omega) (fun h0=>by simp only[aEe,decide_eq_true_eq]; omega)⟩,by omega,cW rfl⟩
    ·
     simp only[bs] at hg3
     refine bG aA 13 rfl (dQ [0,3,37] rfl rfl rfl (hK7 _ (bJ rfl (aP (hK6 _ (aB (aE aA 1 rfl ?_)))))))
     refine aH rfl (bS rfl rfl (by omega) (by omega)) ?_
     refine aE aA 1 rfl (aD ?_)
     exact⟨k+1,⟨by omega,oY h2 (by omega) (show okS l[k]=true from by simp only[okS,decide_eq_true_eq]; omega) (fun h0=>by simp only[aEe,decide_eq_true_eq]; omega)⟩,by omega,cW rfl⟩
   ·
    simp only[bs] at hg2
    refine bG aA 3 rfl (cL rfl rfl ?_)
    refine cL rfl rfl ?_
    refine cL rfl rfl ?_
    refine cL rfl rfl ?_
    refine cL rfl rfl ?_
    refine cL rfl rfl ?_
    refine cL rfl rfl ?_
    refine cL rfl rfl ?_
    refine cL rfl rfl ?_
    refine cL rfl rfl ?_
    refine cL rfl rfl ?_
    refine bG aA 2 rfl (dQ [0,3,37] rfl rfl rfl (hK7 _ (bW rfl (aC (fun K9 hK9=>(aB (aE aA 1 rfl (aD (hK9 _ (aN ?_))))))))))
    refine⟨_,rfl,?_⟩
    refine aS ?_
    rw[kF h2 (by omega) (show okS l[k]=false from by simp only[okS,decide_eq_false_iff_not]; omega)]
  ·
   simp only[bs] at hc1
   refine bF (hK2 _ (aC (fun K10 hK10=>(aB (aE aA 1 rfl (aD (hK10 _ (aN ?_))))))))
   refine⟨_,rfl,?_⟩
   refine aS ?_
   rw[aDq h2 (by omega)]
theorem aRd (a b:List cB) (ha:a.length≤9223372036854775807) (hb:b.length≤9223372036854775807) :Den Tryz.prog 79 [.sl 4 (a.map stC),.sl 4 (b.map stC)]  (·=.s (.bool (decide (a=b)))):=by
 refine aY Tryz.func79 rfl (Nat.le_of_ble_eq_true rfl) (fun w0 A hf=>(aC (fun K1 hK1=>(aB (aE aA 1 rfl (aD (hK1 _ (aC (fun K2 hK2=>(aB (aE aA 2 rfl (aM hf rfl (aQ rfl rfl aNh rfl (aN5 a b ha hb)) (aE aA 1 rfl (aD (hK2 _ ?_)))))))))))))))
 refine aN ?_
 refine⟨_,rfl,?_⟩
 rfl
theorem aH3 (a b:List cB) (ha:a.length≤9223372036854775807) (hb:b.length≤9223372036854775807) :Den Tryz.prog 28 [.sl 4 (a.map stC),.sl 4 (b.map stC)]  (·=.s (.bool (decide (a=b)))):=by
 refine aY Tryz.func28 rfl (Nat.le_of_ble_eq_true rfl) (fun w0 A hf=>(aC (fun K1 hK1=>(aB (aE aA 1 rfl (aD (hK1 _ (aC (fun K2 hK2=>(aC (fun K3 hK3=>(aB (aE aA 5 rfl (aD (hK3 _ (aO rfl (fun hc1=>?_) (fun hc1=>?_)))))))))))))))))
 ·
  simp only[bs] at hc1
  refine aC (fun K4 hK4=>(aB (aE aA 1 rfl (aD (hK4 _ (aN ?_))))))
  refine⟨_,rfl,?_⟩
  refine aS ?_
  rw[nH (by omega)]
 ·
  simp only[bs] at hc1
  refine aP (hK2 _ (aC (fun K5 hK5=>(aC (fun K6 hK6=>(aB (aE aA 1 rfl (aD (hK6 _ (aR (bY (ι:=Nat) (fun k=>⟨26,[(0,.sl 4 (a.map stC)),(1,.sl 4 (b.map stC)),(5,.s (.int .i64 (k:Nat)))],[]⟩) (fun k=>k≤a.length∧a.take k=b.take k) (fun k=>a.length - k) 0 ?_ ?_ ?_)))))))))))
  · exact⟨Nat.zero_le _,rfl⟩
  · exact cW rfl
  ·
   rintro k hC
   obtain ⟨h1,h2⟩:=hC
   refine aC (fun K7 hK7=>(aC (fun K8 hK8=>(aB (aE aA 4 rfl (aD (hK8 _ (aO rfl (fun hc2=>?_) (fun hc2=>?_)))))))))
   ·
    simp only[bs] at hc2
    refine aP (hK7 _ (aC (fun K9 hK9=>(aR (aC (fun K10 hK10=>(dM hf bN (by kernel_rfl) rfl (bG aA 2 rfl ?_))))))))
    refine bX [(17,_),(18,_)] rfl rfl ⟨⟨rfl,rfl⟩,⟨rfl,rfl⟩,trivial⟩ rfl (bA rfl rfl lL eL (by first | exact ixm (by omega) | assumption | exact⟨by decide,rfl⟩)) ?_
    refine bG aA 3 rfl ?_
    refine bX [(21,_),(22,_)] rfl rfl ⟨⟨rfl,rfl⟩,⟨rfl,rfl⟩,trivial⟩ rfl (bA rfl rfl lL eL (by first | exact ixm (by omega) | assumption | exact⟨by decide,rfl⟩)) ?_
    refine bG aA 1 rfl (bX [(20,_),(24,_)] rfl rfl ⟨⟨rfl,rfl⟩,⟨rfl,rfl⟩,trivial⟩ rfl (pP rfl rfl aSr rfl) ?_)
    rw[stC_eqF]
    refine dQ [0,1,5,25] rfl rfl rfl (hK10 _ (aO rfl (fun hc3=>?_) (fun hc3=>?_)))
    ·
     simp only[bs] at hc3
     refine aC (fun K11 hK11=>(aB (aE aA 1 rfl (aD (hK11 _ (aN ?_))))))
     refine⟨_,rfl,?_⟩
     refine aS ?_
     rw[lG (by omega) (by omega) (by assumption)]
    ·
     simp only[bs] at hc3
     refine aP (hK9 _ (aB (aE aA 1 rfl ?_)))
     refine aH rfl (bS rfl rfl (by omega) (by omega)) ?_
     refine aE aA 1 rfl (aD ?_)
     exact⟨k+1,⟨by omega,jC (by omega) (by omega) h2 (by assumption)⟩,by omega,cW rfl⟩
   ·
    simp only[bs] at hc2
    refine bF (hK5 _ (aC (fun K12 hK12=>(aB (aE aA 1 rfl (aD (hK12 _ (aN ?_))))))))
    refine⟨_,rfl,?_⟩
    refine aS ?_
    rw[kK (by omega) (by omega) h2]
end Go.Proofs.YtijnkglkchhomaaGreat
set_option linter.unusedVariables false
set_option linter.unusedSimpArgs false
namespace Go.Proofs.YtijnkglkchhomaaGreat
open Go Go.Abs
theorem kQ (n a b:Int) :Den Tryz.prog 152 [.s (.int .i64 n),.s (.int .i64 a),.s (.int .i64 b)]  (·=.s (.bool (decide (a≤n)&&decide (n≤b)))):=by
 refine aY Tryz.func152 rfl (Nat.le_of_ble_eq_true rfl) (fun w0 A hf=>(aC (fun K1 hK1=>(aB (aE aA 1 rfl (aD (hK1 _ (aC (fun K2 hK2=>(aB (aE aA 4 rfl (bC rfl rfl rfl (fun hg1=>?_) (fun hg1=>?_)))))))))))))
 ·
  simp only[bs] at hg1
  refine aH rfl (fD rfl) (aE aA 4 rfl (aD (hK2 _ (aN ?_))))
  refine⟨_,rfl,?_⟩
  refine aS ?_
  rw[Bool.eq_iff_iff]
  simp only[Bool.and_eq_true,decide_eq_true_eq,true_iff,Bool.false_eq_true,false_iff]
  omega
 ·
  simp only[bs] at hg1
  refine aE aA 4 rfl (aD (hK2 _ (aN ?_)))
  refine⟨_,rfl,?_⟩
  refine aS ?_
  rw[Bool.eq_iff_iff]
  simp only[Bool.and_eq_true,decide_eq_true_eq,true_iff,Bool.false_eq_true,false_iff]
  omega
theorem aO1 (x:Us) :Den Tryz.prog 68 [.agg (usC x)]  (·=.s (.string x.1)):=by
 refine aY Tryz.func68 rfl (Nat.le_of_ble_eq_true rfl) (fun w0 A hf=>(aC (fun K1 hK1=>(aB (aM hf rfl (cT rfl rfl (lf rfl)) (aE aA 1 rfl (aD (hK1 _ (aC (fun K2 hK2=>(aB (aE aA 3 rfl (aD (hK2 _ (aN ?_)))))))))))))))
 refine⟨_,rfl,?_⟩
 rfl
theorem aNx (x:Tm) :Den Tryz.prog 132 [.agg (tmC x)]  (·=.s (.string x.1)):=by
 refine aY Tryz.func132 rfl (Nat.le_of_ble_eq_true rfl) (fun w0 A hf=>(aC (fun K1 hK1=>(aB (aM hf rfl (cT rfl rfl (lf rfl)) (aE aA 1 rfl (aD (hK1 _ (aC (fun K2 hK2=>(aB (aE aA 3 rfl (aD (hK2 _ (aN ?_)))))))))))))))
 refine⟨_,rfl,?_⟩
 rfl
theorem aN2 (x y:Us) (hx:x.2.length≤9223372036854775807) (hy:y.2.length≤9223372036854775807) :Den Tryz.prog 78 [.agg (usC x),.agg (usC y)]  (·=.s (.bool (decide (x=y)))):=by
 refine aY Tryz.func78 rfl (Nat.le_of_ble_eq_true rfl) (fun w0 A hf=>(aC (fun K1 hK1=>(aB (aM hf rfl (cT rfl rfl (lf rfl)) (aM hf rfl (cT rfl rfl (lf rfl)) (aE aA 1 rfl (aD (hK1 _ (aC (fun K2 hK2=>(aB (aE aA 6 rfl (bC rfl rfl rfl (fun hg1=>?_) (fun hg1=>?_)))))))))))))))
 ·
  simp only[bs] at hg1
  refine aH rfl (bQ rfl aI6 vL rfl) ?_
  refine aE aA 3 rfl (bP rfl rfl rfl (aM hf rfl (aQ rfl rfl aPg rfl (aRd x.2 y.2 hx hy)) (aE aA 2 rfl (aD (hK2 _ (aN ?_))))))
  refine⟨_,rfl,?_⟩
  refine aS ?_
  rw[Bool.eq_iff_iff]
  simp_all[Prod.ext_iff,toList_inj]
 ·
  simp only[bs] at hg1
  refine aE aA 6 rfl (aD (hK2 _ (aN ?_)))
  refine⟨_,rfl,?_⟩
  refine aS ?_
  rw[Bool.eq_iff_iff]
  simp_all[Prod.ext_iff,toList_inj]
end Go.Proofs.YtijnkglkchhomaaGreat
set_option linter.unusedVariables false
set_option linter.unusedSimpArgs false
namespace Go.Proofs.YtijnkglkchhomaaGreat
open Go Go.Abs
theorem aJb {g:Nat} {cap:List AV} (hent:∀ args w,(callFunc g args).run Tryz.prog w=.ok (.enter g args) w) (hcl:cleanL (fun _=>false) cap=true) (l:List Us) (u:ByteArray) (hl:l.length≤4611686018427387903) (hr:cX cZ l) (hp:∀ x∈l,Den Tryz.prog g (.agg (usC x)::.s (.string u)::cap) (·=.s (.int .i64 (eA x.1 u)))) :Den Tryz.prog 111 [.sl 2 (l.map usC),.s (.string u),.fn g cap]  (·=.tup [.s (.int .i64 (dS cZ l u:Nat)),.s (.bool (mI cZ l u))]):=by
 refine aY Tryz.func111 rfl (Nat.le_of_ble_eq_true rfl) (fun w0 A hf=>(aC (fun K1 hK1=>(aB (aE aA 2 rfl (aD (hK1 _ (aC (fun K2 hK2=>(aB (aE aA 3 rfl (aD (hK2 _ (aC (fun K3 hK3=>(aB ?_))))))))))))))))
 refine aE aA 3 rfl (aD (hK3 _ (aC (fun K4 hK4=>(aR (bY (ι:=Nat×Nat) (fun(⟨i,j⟩:Nat×Nat)=>⟨49,[(0,.sl 2 (l.map usC)),(1,.s (.string u)),(2,.fn g cap),(8,.s (.int .i64 (((l.map usC)).length:Nat))),(9,.s (.int .i64 (i:Nat))),(10,.s (.int .i64 (j:Nat)))],[]⟩) (fun(⟨i,j⟩:Nat×Nat)=>BsI l cZ u i j) (fun(⟨i,j⟩:Nat×Nat)=>j - i) (0,l.length) ?_ ?_ ?_))))))
 · exact BsI.start l u
 · exact lE ⟨rfl,rfl,rfl,rfl,rfl,(by rw[List.length_map]; rfl),trivial⟩
 ·
  rintro ⟨i,j⟩ hC
  have hi1:=hC.1
  have hi2:=hC.2.1
  refine aC (fun K5 hK5=>(aC (fun K6 hK6=>(aB (aE aA 3 rfl (aD (hK6 _ (aO rfl (fun hc1=>?_) (fun hc1=>?_)))))))))
  ·
   simp only[bs] at hc1
   refine aP (hK5 _ (aR (aC (fun K7 hK7=>(aB ?_)))))
   have hz:=aAk (a:=((i:Nat):Int)+((j:Nat):Int)) (b:=(((i+j) / 2:Nat):Int)) (by omega) (by omega) (by omega)
   have hm1:i≤(i+j) / 2:=by omega
   have hm2:(i+j) / 2<j:=by omega
   have hml:(i+j) / 2<l.length:=by omega
   refine aE aA 2 rfl (aH rfl (bS rfl rfl (by omega) (by omega)) (aH rfl (pK rfl Tryz.underlying3 Tryz.underlying234 hz.1) (aH rfl (aAa rfl hz.2.1 (by decide)) (aH rfl (pK rfl Tryz.underlying234 Tryz.underlying3 hz.2.2) (aE aA 1 rfl (aD (hK7 _ (aC (fun K8 hK8=>(aB (aE aA 3 rfl (aH rfl (bA rfl rfl fB dX (mS (k:=(i+j) / 2) (by omega) (by omega))) (aE aA 2 rfl ?_)))))))))))))
   refine aM hf rfl (aQ rfl rfl hent (by show (true&&(true&&cleanL (fun _=>false) cap))=true; rw[hcl]; rfl) (hp _ (List.getElem_mem hml))) ?_
   refine aE aA 1 rfl (aD (hK8 _ (aO rfl (fun hc2=>?_) (fun hc2=>?_))))
   ·
    simp only[bs] at hc2
    refine aB (aE aA 1 rfl ?_)
    refine aH rfl (bS rfl rfl (by omega) (by omega)) ?_
    refine aE aA 1 rfl ?_
    refine bL ?_
    exact⟨((i+j) / 2+1,j),hC.lo hr hm1 hm2 hml (by show eA l[(i+j) / 2].1 u<0; omega),by simp only; omega,lE ⟨rfl,rfl,rfl,rfl,rfl,rfl,trivial⟩⟩
   ·
    simp only[bs] at hc2
    refine aB (aE aA 2 rfl ?_)
    refine bL ?_
    exact⟨(i,(i+j) / 2),hC.hi hr hm1 hm2 hml (by show ¬ eA l[(i+j) / 2].1 u<0; omega),by simp only; omega,lE ⟨rfl,rfl,rfl,rfl,rfl,rfl,trivial⟩⟩
  ·
   simp only[bs] at hc1
   refine bF (hK4 _ (aC (fun K9 hK9=>(aB (aE aA 5 rfl (bC rfl rfl rfl (fun hg3=>?_) (fun hg3=>?_)))))))
   ·
    simp only[bs] at hg3
    refine aH rfl (fD rfl) (aE aA 2 rfl (bP rfl rfl rfl ?_))
    refine aH rfl (bA rfl rfl fB dX (by first | exact ixm (by omega) | assumption | exact⟨by decide,rfl⟩)) ?_
    refine aE aA 2 rfl (bP rfl rfl rfl (aM hf rfl (aQ rfl rfl hent (by show (true&&(true&&cleanL (fun _=>false) cap))=true; rw[hcl]; rfl) (hp _ (List.getElem_mem (by omega)))) ?_))
    refine aE aA 4 rfl (aD (hK9 _ (aN ?_)))
    refine⟨_,rfl,?_⟩
    (rw[(hC.fin hr (by omega)).1,hC.fin_t hr (by omega) (show i<l.length by omega)]; rfl)
   ·
    simp only[bs] at hg3
    refine aE aA 10 rfl (aD (hK9 _ (aN ?_)))
    refine⟨_,rfl,?_⟩
    (rw[(hC.fin hr (by omega)).1,hC.fin_f hr (by omega) (by omega)]; rfl)
theorem aJc (x:Us) (u:ByteArray) :Den Tryz.prog 112 [.agg (usC x),.s (.string u),.adr [.fn 68 []]]  (·=.s (.int .i64 (eA x.1 u))):=by
 refine aY Tryz.func112 rfl (Nat.le_of_ble_eq_true rfl) (fun w0 A hf=>(aC (fun K1 hK1=>(aB (aM hf rfl (cT rfl rfl (lf rfl)) (aE aA 1 rfl (aD (hK1 _ (aC (fun K2 hK2=>(aB (aE aA 2 rfl (aM hf rfl (aQ rfl rfl aPl rfl (aO1 x)) (aE aA 1 rfl (aM hf rfl (aQ rfl rfl rZ rfl (Nm.cmp_den x.1 u)) ?_)))))))))))))))
 refine aE aA 1 rfl (aD (hK2 _ (aN ?_)))
 refine⟨_,rfl,?_⟩
 rfl
theorem aC4 (l:List Us) (u:ByteArray) (hl:l.length≤4611686018427387903) (hr:cX cZ l) :Den Tryz.prog 67 [.sl 2 (l.map usC),.s (.string u),.fn 68 []]  (·=.tup [.s (.int .i64 (dS cZ l u:Nat)),.s (.bool (mI cZ l u))]):=by
 refine aY Tryz.func67 rfl (Nat.le_of_ble_eq_true rfl) (fun w0 A hf=>(aC (fun K1 hK1=>(aB (aM hf rfl (cT rfl rfl (lf rfl)) (aE aA 2 rfl (aD (hK1 _ (aC (fun K2 hK2=>(aB (aE aA 2 rfl (aH rfl (jB rfl) (aM hf rfl (aQ rfl rfl aNk rfl (aJb aNj rfl l u hl hr (fun x _=>aJc x u))) (aE aA 4 rfl ?_)))))))))))))))
 refine aD (hK2 _ (aN ?_))
 refine⟨_,rfl,?_⟩
 rfl
theorem aJg {g:Nat} {cap:List AV} (hent:∀ args w,(callFunc g args).run Tryz.prog w=.ok (.enter g args) w) (hcl:cleanL (fun _=>false) cap=true) (l:List Tm) (u:ByteArray) (hl:l.length≤4611686018427387903) (hr:cX dR l) (hp:∀ x∈l,Den Tryz.prog g (.agg (tmC x)::.s (.string u)::cap) (·=.s (.int .i64 (eA x.1 u)))) :Den Tryz.prog 182 [.sl 2 (l.map tmC),.s (.string u),.fn g cap]  (·=.tup [.s (.int .i64 (dS dR l u:Nat)),.s (.bool (mI dR l u))]):=by
 refine aY Tryz.func182 rfl (Nat.le_of_ble_eq_true rfl) (fun w0 A hf=>(aC (fun K1 hK1=>(aB (aE aA 2 rfl (aD (hK1 _ (aC (fun K2 hK2=>(aB (aE aA 3 rfl (aD (hK2 _ (aC (fun K3 hK3=>(aB ?_))))))))))))))))
 refine aE aA 3 rfl (aD (hK3 _ (aC (fun K4 hK4=>(aR (bY (ι:=Nat×Nat) (fun(⟨i,j⟩:Nat×Nat)=>⟨49,[(0,.sl 2 (l.map tmC)),(1,.s (.string u)),(2,.fn g cap),(8,.s (.int .i64 (((l.map tmC)).length:Nat))),(9,.s (.int .i64 (i:Nat))),(10,.s (.int .i64 (j:Nat)))],[]⟩) (fun(⟨i,j⟩:Nat×Nat)=>BsI l dR u i j) (fun(⟨i,j⟩:Nat×Nat)=>j - i) (0,l.length) ?_ ?_ ?_))))))
 · exact BsI.start l u
 · exact lE ⟨rfl,rfl,rfl,rfl,rfl,(by rw[List.length_map]; rfl),trivial⟩
 ·
  rintro ⟨i,j⟩ hC
  have hi1:=hC.1
  have hi2:=hC.2.1
  refine aC (fun K5 hK5=>(aC (fun K6 hK6=>(aB (aE aA 3 rfl (aD (hK6 _ (aO rfl (fun hc1=>?_) (fun hc1=>?_)))))))))
  ·
   simp only[bs] at hc1
   refine aP (hK5 _ (aR (aC (fun K7 hK7=>(aB ?_)))))
   have hz:=aAk (a:=((i:Nat):Int)+((j:Nat):Int)) (b:=(((i+j) / 2:Nat):Int)) (by omega) (by omega) (by omega)
   have hm1:i≤(i+j) / 2:=by omega
   have hm2:(i+j) / 2<j:=by omega
   have hml:(i+j) / 2<l.length:=by omega
   refine aE aA 2 rfl (aH rfl (bS rfl rfl (by omega) (by omega)) (aH rfl (pK rfl Tryz.underlying3 Tryz.underlying234 hz.1) (aH rfl (aAa rfl hz.2.1 (by decide)) (aH rfl (pK rfl Tryz.underlying234 Tryz.underlying3 hz.2.2) (aE aA 1 rfl (aD (hK7 _ (aC (fun K8 hK8=>(aB (aE aA 3 rfl (aH rfl (bA rfl rfl iZ fT (mS (k:=(i+j) / 2) (by omega) (by omega))) (aE aA 2 rfl ?_)))))))))))))
   refine aM hf rfl (aQ rfl rfl hent (by show (true&&(true&&cleanL (fun _=>false) cap))=true; rw[hcl]; rfl) (hp _ (List.getElem_mem hml))) ?_
   refine aE aA 1 rfl (aD (hK8 _ (aO rfl (fun hc2=>?_) (fun hc2=>?_))))
   ·
    simp only[bs] at hc2
    refine aB (aE aA 1 rfl ?_)
    refine aH rfl (bS rfl rfl (by omega) (by omega)) ?_
    refine aE aA 1 rfl ?_
    refine bL ?_
    exact⟨((i+j) / 2+1,j),hC.lo hr hm1 hm2 hml (by show eA l[(i+j) / 2].1 u<0; omega),by simp only; omega,lE ⟨rfl,rfl,rfl,rfl,rfl,rfl,trivial⟩⟩
   ·
    simp only[bs] at hc2
    refine aB (aE aA 2 rfl ?_)
    refine bL ?_
    exact⟨(i,(i+j) / 2),hC.hi hr hm1 hm2 hml (by show ¬ eA l[(i+j) / 2].1 u<0; omega),by simp only; omega,lE ⟨rfl,rfl,rfl,rfl,rfl,rfl,trivial⟩⟩
  ·
   simp only[bs] at hc1
   refine bF (hK4 _ (aC (fun K9 hK9=>(aB (aE aA 5 rfl (bC rfl rfl rfl (fun hg3=>?_) (fun hg3=>?_)))))))
   ·
    simp only[bs] at hg3
    refine aH rfl (fD rfl) (aE aA 2 rfl (bP rfl rfl rfl ?_))
    refine aH rfl (bA rfl rfl iZ fT (by first | exact ixm (by omega) | assumption | exact⟨by decide,rfl⟩)) ?_
    refine aE aA 2 rfl (bP rfl rfl rfl (aM hf rfl (aQ rfl rfl hent (by show (true&&(true&&cleanL (fun _=>false) cap))=true; rw[hcl]; rfl) (hp _ (List.getElem_mem (by omega)))) ?_))
    refine aE aA 4 rfl (aD (hK9 _ (aN ?_)))
    refine⟨_,rfl,?_⟩
    (rw[(hC.fin hr (by omega)).1,hC.fin_t hr (by omega) (show i<l.length by omega)]; rfl)
   ·
    simp only[bs] at hg3
    refine aE aA 10 rfl (aD (hK9 _ (aN ?_)))
    refine⟨_,rfl,?_⟩
    (rw[(hC.fin hr (by omega)).1,hC.fin_f hr (by omega) (by omega)]; rfl)
theorem aJh (x:Tm) (u:ByteArray) :Den Tryz.prog 183 [.agg (tmC x),.s (.string u),.adr [.fn 132 []]]  (·=.s (.int .i64 (eA x.1 u))):=by
 refine aY Tryz.func183 rfl (Nat.le_of_ble_eq_true rfl) (fun w0 A hf=>(aC (fun K1 hK1=>(aB (aM hf rfl (cT rfl rfl (lf rfl)) (aE aA 1 rfl (aD (hK1 _ (aC (fun K2 hK2=>(aB (aE aA 2 rfl (aM hf rfl (aQ rfl rfl aNd rfl (aNx x)) (aE aA 1 rfl (aM hf rfl (aQ rfl rfl rZ rfl (Nm.cmp_den x.1 u)) ?_)))))))))))))))
 refine aE aA 1 rfl (aD (hK2 _ (aN ?_)))
 refine⟨_,rfl,?_⟩
 rfl
theorem aNz (l:List Tm) (u:ByteArray) (hl:l.length≤4611686018427387903) (hr:cX dR l) :Den Tryz.prog 131 [.sl 2 (l.map tmC),.s (.string u),.fn 132 []]  (·=.tup [.s (.int .i64 (dS dR l u:Nat)),.s (.bool (mI dR l u))]):=by
 refine aY Tryz.func131 rfl (Nat.le_of_ble_eq_true rfl) (fun w0 A hf=>(aC (fun K1 hK1=>(aB (aM hf rfl (cT rfl rfl (lf rfl)) (aE aA 2 rfl (aD (hK1 _ (aC (fun K2 hK2=>(aB (aE aA 2 rfl (aH rfl (jB rfl) (aM hf rfl (aQ rfl rfl aMx rfl (aJg aMw rfl l u hl hr (fun x _=>aJh x u))) (aE aA 4 rfl ?_)))))))))))))))
 refine aD (hK2 _ (aN ?_))
 refine⟨_,rfl,?_⟩
 rfl
end Go.Proofs.YtijnkglkchhomaaGreat
set_option linter.unusedVariables false
set_option linter.unusedSimpArgs false
namespace Go.Proofs.YtijnkglkchhomaaGreat
open Go Go.Abs
theorem aC5 {g:Nat} {cap:List AV} (hent:∀ args w,(callFunc g args).run Tryz.prog w=.ok (.enter g args) w) (hcl:cleanL (fun _=>false) cap=true) (p:Us→Bool) (l:List Us) (hl:l.length≤9223372036854775807) (hp:∀ x∈l,Den Tryz.prog g (.agg (usC x)::cap) (·=.s (.bool (p x)))) :Den Tryz.prog 191 [.sl 2 (l.map usC),.fn g cap]  (·=.s (.int .i64 (nQ p l))):=by
 refine aY Tryz.func191 rfl (Nat.le_of_ble_eq_true rfl) (fun w0 A hf=>(aC (fun K1 hK1=>(aB (aE aA 1 rfl (aD (hK1 _ (aC (fun K2 hK2=>(aC (fun K3 hK3=>(aB (aE aA 3 rfl (aD (hK3 _ (aR ?_))))))))))))))))
 refine bY (ι:=Nat) (fun k=>⟨19,[(0,.sl 2 (l.map usC)),(1,.fn g cap),(7,.s (.int .i64 ((l.map usC).length:Nat))),(8,.s (.int .i64 (k:Nat)))],[]⟩) (fun k=>k≤l.length∧∀ (j:Nat) (hj:j<l.length),j<k→p l[j]=false) (fun k=>l.length - k) 0 ?_ ?_ ?_
 · exact⟨by omega,by omega⟩
 · exact cW rfl
 ·
  rintro k hC
  obtain ⟨h1,h2⟩:=hC
  refine aC (fun K4 hK4=>(aB (aE aA 1 rfl (aD (hK4 _ (aC (fun K5 hK5=>(aO rfl (fun hc1=>?_) (fun hc1=>?_)))))))))
  ·
   simp only[bs] at hc1
   refine aP (hK5 _ (aC (fun K6 hK6=>(aR (aC (fun K7 hK7=>(aB (aE aA 2 rfl (aD (hK7 _ (aC (fun K8 hK8=>(aB (aE aA 3 rfl ?_))))))))))))))
   refine aH rfl (bA rfl rfl fB dX (by first | exact ixm (by omega) | assumption | exact⟨by decide,rfl⟩)) ?_
   refine aE aA 1 rfl (aM hf rfl (aQ rfl rfl hent (by rw[hJ,hcl]; rfl) (hp _ (List.getElem_mem _))) ?_)
   refine aD (hK8 _ (aO rfl (fun hc2=>?_) (fun hc2=>?_)))
   ·
    refine aC (fun K9 hK9=>(aB (aE aA 2 rfl (aD (hK9 _ (aN ?_))))))
    refine⟨_,rfl,?_⟩
    refine eR ?_
    rw[jZ (by omega) h2 (by assumption)]
   ·
    refine aP (hK6 _ (aB ?_))
    refine aH rfl (bS rfl rfl (by omega) (by omega)) ?_
    refine aE aA 1 rfl (aD ?_)
    exact⟨k+1,⟨by omega,fun j hj hjk=>by
      by_cases e:j=k
      · subst e; simp_all
      · exact h2 j hj (by omega)⟩,by omega,cW rfl⟩
  ·
   simp only[bs] at hc1
   refine bF (hK2 _ (aC (fun K10 hK10=>(aB (aE aA 1 rfl (aD (hK10 _ (aN ?_))))))))
   refine⟨_,rfl,?_⟩
   refine eR ?_
   rw[oI (fun j hj=>h2 j hj (by omega))]
theorem aB6 {g:Nat} {cap:List AV} (hent:∀ args w,(callFunc g args).run Tryz.prog w=.ok (.enter g args) w) (hcl:cleanL (fun _=>false) cap=true) (hcv:∀ m,convL m cap=cap) (p:Us→Bool) (l:List Us) (n:Nat) (hn:n=l.length) (hl:l.length≤9223372036854775807) (hp:∀ x∈l,Den Tryz.prog g (.agg (usC x)::cap) (·=.s (.bool (p x)))) :DenM Tryz.prog 205 [.own E0 2 0 n,.fn g cap] 2 ((l.map usC)) (fun r ys=>r=.own E0 2 0 (l.filter fun x=>!p x).length∧ys=((l.filter fun x=>!p x).map usC)):=by
 subst hn
 have hq0:∀ j,((l.take j).filter fun x=>!p x).length≤j:=fun j=>jN _ l j
 have hq1:∀ j,((l.take j).filter fun x=>!p x).length≤l.length:=fun j=>iM _ l j
 refine iA Tryz.func205 rfl (Nat.le_of_ble_eq_true rfl) (fun w0 x0 A hf=>?_)
 refine aC (fun K1 hK1=>(aB (aH rfl (bR) (aD (hK1 _ (aC (fun K2 hK2=>(aB (aE aA 2 rfl (aM hf rfl (tI rfl rfl (by show [AV.conv _ _,AV.fn g (convL _ cap)]=_; rw[hcv,cE (g:=E0) rfl (by simp)]) aMr (aC5 hent hcl p l hl hp) rfl) ?_))))))))))
 refine aE aA 1 rfl (aD (hK2 _ (aC (fun K3 hK3=>(aC (fun K4 hK4=>(aB (aE aA 2 rfl (aD (hK4 _ (aO rfl (fun hc1=>?_) (fun hc1=>?_))))))))))))
 ·
  simp only[bs] at hc1
  refine aC (fun K5 hK5=>(aB (aE aA 2 rfl (aD (hK5 _ (aN ?_))))))
  have hno:nQ p l=-1:=by simpa using hc1
  rcases dW p l with ⟨_,hn⟩ | ⟨k,hk,e,_⟩
  · exact⟨_,.own E0 2 0 l.length,(l.map usC),Le.refl _,rfl,rfl,by rw[hH p l hn],by rw[hH p l hn]⟩
  · exfalso; omega
 ·
  simp only[bs] at hc1
  refine aP (hK3 _ (aC (fun K6 hK6=>(aC (fun K7 hK7=>(aB ?_))))))
  rcases dW p l with ⟨e0,_⟩ | ⟨k0,hk0,ek0,hpk0,hbef⟩
  · exact absurd e0 (by simpa using hc1)
  have hst:=nY (fun x=>!p x) l k0 hk0 (fun j hj hjk=>by simp [hbef j hj hjk]) (by simp [hpk0])
  rw[ek0]
  refine aE aA 1 rfl ?_
  refine aH rfl (bS rfl rfl (by omega) (by omega)) ?_
  refine aE aA 1 rfl (aD (hK7 _ (aR (bY (ι:=Nat) (fun j=>⟨42,[(0,.own E0 2 0 l.length),(1,.fn g cap),(5,.s (.int .i64 (((l.take j).filter fun x=>!p x).length:Nat))),(6,.s (.int .i64 (j:Nat)))],[(E0,.buf 2 ((kA (fun x=>!p x) l j).map usC))]⟩) (fun j=>j≤l.length) (fun j=>l.length - j) (k0+1) ?_ ?_ ?_))))
  · exact hk0
  · rw[hst.1,hst.2]; exact lE ⟨rfl,rfl,rfl,rfl,trivial⟩
  ·
   rintro j hC
   let q:=fun x=>!p x
   have hle:((l.take j).filter q).length≤j:=hq0 j
   have hle2:((l.take j).filter fun x=>!p x).length≤j:=hq0 j
   refine aC (fun K8 hK8=>(aC (fun K9 hK9=>(aB (aE aA 4 rfl (aD (hK9 _ (aO rfl (fun hc2=>?_) (fun hc2=>?_)))))))))
   ·
    simp only[bs] at hc2
    refine aP (hK8 _ (aC (fun K10 hK10=>(aR (aC (fun K11 hK11=>(aB (aE aA 2 rfl ?_))))))))
    refine aH rfl (cN rfl rfl fB dX (by omega)) ?_
    refine aH rfl (cD rfl aSy dX rfl (vW (c:=2) (k:=j) (enc:=usC) (by omega) (by rw[fH]; omega) rfl) (cs':=usC l[j]) (by rw[sK (c:=2) (k:=j) (enc:=usC) (by omega) (by rw[fH]; omega) rfl,sU q l j j (by omega) hle])) ?_
    refine cF hf rfl oN rfl dX rfl rfl rfl rfl (lf rfl) (aD (hK11 _ (aC (fun K12 hK12=>(aB (aE aA 2 rfl (aM hf rfl (aQ rfl rfl hent (by rw[hJ,hcl]; rfl) (hp _ (List.getElem_mem _))) ?_)))))))
    refine aE aA 1 rfl (aD (hK12 _ (aO rfl (fun hc3=>?_) (fun hc3=>?_))))
    ·
     simp only[bs] at hc3
     refine aC (fun K13 hK13=>(aB (aE aA 3 rfl ?_)))
     refine aH rfl (cN rfl rfl fB dX (by omega)) ?_
     refine aZ hf rfl rfl dX rfl rfl (by simp [usC,AV.cells,AV.one,Value.oneCell',splice]) (by simp [usC,AV.cells,AV.leaf,Value.oneCell',splice]) (iK (c:=2) (k:=((l.take j).filter fun x=>!p x).length) (enc:=usC) (v:=l[j]) (by omega) (by rw[fH]; omega) rfl (Nat.le_refl _)) ?_
     refine aD (hK13 _ (aB ?_))
     rw[mJ (fun x=>!p x) l j (by omega) (by simp_all)]
     refine aE aA 1 rfl ?_
     refine aH rfl (bS rfl rfl (by omega) (by omega)) ?_
     rw[pD (fun x=>!p x) l j (by omega) (by simp_all)]
     refine aE aA 1 rfl ?_
     refine bL ?_
     refine hK10 _ (aB (aE aA 1 rfl ?_))
     refine aH rfl (bS rfl rfl (by omega) (by omega)) ?_
     refine aE aA 1 rfl (aD ?_)
     exact⟨j+1,(by omega),by omega,cW rfl⟩
    ·
     simp only[bs] at hc3
     rw[mK (fun x=>!p x) l j (by omega) (by simp_all),pE (fun x=>!p x) l j (by omega) (by simp_all)]
     refine aP (hK10 _ (aB (aE aA 1 rfl ?_)))
     refine aH rfl (bS rfl rfl (by omega) (by omega)) ?_
     refine aE aA 1 rfl (aD ?_)
     exact⟨j+1,(by omega),by omega,cW rfl⟩
   ·
    simp only[bs] at hc2
    refine bF (hK6 _ (aC (fun K14 hK14=>(aB (aE aA 2 rfl ?_)))))
    refine aH rfl (fL rfl fB dX rfl rfl (by omega) (by omega)) ?_
    refine xZ hf nP oN (by simp [Value.oneCell']) rfl rfl ?_
    refine aD (hK14 _ (aC (fun K15 hK15=>(aB (aE aA 2 rfl ?_)))))
    refine aH rfl (fL rfl fB dX rfl rfl (by omega) (by omega)) ?_
    refine aE aA 1 rfl (aD (hK15 _ (aN ?_)))
    have hjl:l.length≤j:=by omega
    have he:=qX (fun x=>!p x) l j hjl
    refine⟨_,_,_,Le.refl _,rfl,rfl,?_,?_⟩
    · rw[List.take_of_length_le hjl]; rfl
    · rw[List.take_of_length_le hjl,Nat.zero_add,Int.toNat_natCast,← List.map_take,he]
theorem qC (l:List Us) (hl:l.length*40≤140737488355328) :DenO Tryz.prog 96 [.sl 2 (l.map usC)] 2 (·=(l.map usC)):=by
 refine fY Tryz.func96 rfl (Nat.le_of_ble_eq_true rfl) (fun w0 A hf=>?_)
 refine aC (fun K1 hK1=>(aB (aH rfl (bR) (aD (hK1 _ (aC (fun K2 hK2=>(aC (fun K3 hK3=>(aB (aE aA 1 rfl ?_)))))))))))
 refine oF rfl rfl rfl fB (fun b hb1=>?_)
 refine aD (hK3 _ (aO rfl (fun hc2=>?_) (fun hc2=>?_)))
 ·
  have hl0:l=[]:=by simpa using hb1 (by assumption)
  refine aC (fun K4 hK4=>(aB (jT hf 2 rfl rfl rfl (aD (hK4 _ (aN ?_))))))
  exact⟨2,[],by decide,rfl,rfl,by rw[hl0]; rfl⟩
 ·
  refine aP (hK2 _ (aC (fun K5 hK5=>(aB (cP hf rfl rfl rfl nP rfl rfl rfl rfl (l2 rfl) ?_)))))
  refine aE aA 1 rfl (bZ hf rfl nP rfl rfl rfl (.inl rfl) rfl rfl (by first | rfl | simp [eB,bV]) (by first | (simp only[maxLen,List.length_map,List.length_append,List.length_cons,List.length_nil]; omega) | (simp [maxLen] <;> omega)) (by first | (simp only[List.length_map,List.length_append,List.length_cons,List.length_nil]; omega) | (simp <;> omega)) ?_)
  refine bM (dY [7] rfl) (aE aA 1 rfl (aD (hK5 _ (aN ?_))))
  refine⟨5,(l.map usC),by decide,rfl,?_,rfl⟩
  show some (AV.own 5 2 0 (0+(l.map usC).length))=_
  rw[Nat.zero_add]
theorem aQ2 (n:Nat) (hn:n*40≤140737488355328) :DenO Tryz.prog 211 [.s (.slice none 0 0),.s (.int .i64 (n:Nat))] 2 (·=[]):=by
 refine fY Tryz.func211 rfl (Nat.le_of_ble_eq_true rfl) (fun w0 A hf=>?_)
 refine aC (fun K1 hK1=>(aB (aH rfl (bR) (aD (hK1 _ (aC (fun K2 hK2=>(aC (fun K3 hK3=>(aB (aE aA 2 rfl (aD (hK3 _ (aO rfl (fun hc1=>?_) (fun hc1=>?_)))))))))))))))
 ·
  simp only[bs] at hc1
  omega
 ·
  simp only[bs] at hc1
  refine aP (hK2 _ (aC (fun K4 hK4=>(aC (fun K5 hK5=>(aB (aE aA 2 rfl (aH rfl (nD rfl fB) (aE aA 2 rfl ?_)))))))))
  refine aH rfl (gF rfl rfl (by omega) (by omega)) ?_
  refine aH rfl (gF rfl rfl (by omega) (by omega)) ?_
  refine aE aA 1 rfl (aD (hK5 _ (aC (fun K6 hK6=>(aB (aE aA 2 rfl (aD (hK6 _ (aO rfl (fun hc2=>?_) (fun hc2=>?_))))))))))
  ·
   simp only[bs] at hc2
   refine aB (aE aA 2 rfl (aH rfl (nD rfl fB) ?_))
   refine aH rfl (rL rfl fB dX rfl) ?_
   refine aE aA 1 rfl (vM hf rfl rfl rfl nP Tryz.underlying3 rfl rfl (by omega) (by omega) (by simp only[maxLen]; omega) ?_)
   refine aE aA 2 rfl ?_
   refine aH rfl (fL rfl fB dX rfl rfl (by omega) (by omega)) ?_
   refine aE aA 1 rfl (aD (hK4 _ (aC (fun K7 hK7=>(aB (aE aA 1 rfl ?_))))))
   refine aH rfl (uM rfl) ?_
   refine aD (hK7 _ (aN ?_))
   exact⟨22,[],by decide,rfl,rfl,rfl⟩
  ·
   simp only[bs] at hc2
   refine aP (hK4 _ (aC (fun K8 hK8=>(aB (aE aA 1 rfl ?_)))))
   refine aHq hf 2 rfl rfl rfl rfl ?_
   refine aD (hK8 _ (aN ?_))
   exact⟨4,[],by decide,rfl,rfl,rfl⟩
theorem aJd (rows:List (List Us)) (hl:rows.length≤9223372036854775807) (hb:rows.flatten.length*40≤140737488355328) :DenO Tryz.prog 162 [.sl 1 (rows.map fun r=>[AV.sl 2 (r.map usC)])] 2 (·=(rows.flatten.map usC)):=by
 refine fY Tryz.func162 rfl (Nat.le_of_ble_eq_true rfl) (fun w0 A hf=>?_)
 refine aC (fun K1 hK1=>(aB (aH rfl (bR) (aD (hK1 _ (aC (fun K2 hK2=>(aB (aE aA 1 rfl (aD (hK2 _ (aC (fun K3 hK3=>(aC (fun K4 hK4=>(aB ?_))))))))))))))))
 refine aE aA 3 rfl (aD (hK4 _ (aR (bY (ι:=Nat) (fun k=>⟨36,[(0,.sl 1 (rows.map fun r=>[AV.sl 2 (r.map usC)])),(3,.s (.int .i64 ((rows.take k).flatten.length:Nat))),(9,.sl 1 (rows.map fun r=>[AV.sl 2 (r.map usC)])),(10,.s (.int .i64 ((rows.map fun r=>[AV.sl 2 (r.map usC)]).length:Nat))),(11,.s (.int .i64 (k:Nat)))],[]⟩) (fun k=>k≤rows.length) (fun k=>rows.length - k) 0 ?_ ?_ ?_))))
 · exact Nat.zero_le _
 · exact cW rfl
 ·
  rintro k hC
  refine aC (fun K5 hK5=>(aB (aE aA 1 rfl (aD (hK5 _ (aC (fun K6 hK6=>(aO rfl (fun hc1=>?_) (fun hc1=>?_)))))))))
  ·
   simp only[bs] at hc1
   refine aP (hK6 _ (aC (fun K7 hK7=>(aR (aC (fun K8 hK8=>(aB ?_)))))))
   refine aH rfl (bA rfl rfl aHm rG (by first | exact ixm (by omega) | assumption | exact⟨by decide,rfl⟩)) ?_
   refine aE aA 2 rfl (aD (hK8 _ (aC (fun K9 hK9=>(aB ?_)))))
   have hk:k<rows.length:=by omega
   have e1:=congrArg List.length (iI rows k hk)
   rw[List.length_append] at e1
   have e2:=rO rows (k+1)
   have e3:(rows[k].map usC).length=rows[k].length:=List.length_map _
   refine aE aA 3 rfl ?_
   refine aH rfl (bS rfl rfl (by omega) (by omega)) ?_
   rw[show ((((rows.take k).flatten.length:Nat):Int)+(((rows[k].map usC).length:Nat):Int))=(((rows.take (k+1)).flatten.length:Nat):Int) from by omega]
   refine aE aA 1 rfl (aD (hK9 _ (aC (fun K10 hK10=>(aB (aE aA 2 rfl (aD (hK10 _ (aO rfl (fun hc2=>?_) (fun hc2=>?_))))))))))
   ·
    simp only[bs] at hc2
    omega
   ·
    simp only[bs] at hc2
    refine aP (hK7 _ (aB ?_))
    refine aH rfl (bS rfl rfl (by omega) (by omega)) ?_
    refine aE aA 1 rfl (aD ?_)
    exact⟨k+1,(by omega),by omega,cW rfl⟩
  ·
   simp only[bs] at hc1
   refine bF (hK3 _ (aC (fun K11 hK11=>(aB ?_))))
   rw[List.take_of_length_le (show rows.length≤k by omega)]
   refine aE aA 1 rfl (iP hf rfl rfl rfl rfl rfl aMb rfl (aQ2 rows.flatten.length (by omega)) ?_)
   rintro _ rfl
   refine aE aA 1 rfl (aD (hK11 _ (aC (fun K12 hK12=>(aC (fun K13 hK13=>(aB (aE aA 3 rfl (aD (hK13 _ (aR (bY (ι:=Nat) (fun j=>⟨36,[(6,.own 24 2 0 (rows.take j).flatten.length),(25,.sl 1 (rows.map fun r=>[AV.sl 2 (r.map usC)])),(26,.s (.int .i64 ((rows.map fun r=>[AV.sl 2 (r.map usC)]).length:Nat))),(27,.s (.int .i64 (j:Nat)))],[(24,.buf 2 ((rows.take j).flatten.map usC))]⟩) (fun j=>j≤rows.length) (fun j=>rows.length - j) 0 ?_ ?_ ?_))))))))))))
   · exact Nat.zero_le _
   · exact cW rfl
   ·
    rintro j hC
    refine aC (fun K14 hK14=>(aB (aE aA 1 rfl (aD (hK14 _ (aC (fun K15 hK15=>(aO rfl (fun hc3=>?_) (fun hc3=>?_)))))))))
    ·
     simp only[bs] at hc3
     refine aP (hK15 _ (aC (fun K16 hK16=>(aR (aC (fun K17 hK17=>(aB ?_)))))))
     refine aH rfl (bA rfl rfl aHm rG (by first | exact ixm (by omega) | assumption | exact⟨by decide,rfl⟩)) ?_
     refine aE aA 2 rfl (aD (hK17 _ (aB ?_)))
     have hj:j<rows.length:=by omega
     have e1:=congrArg List.length (iI rows j hj)
     rw[List.length_append] at e1
     have e2:=rO rows (j+1)
     have e3:(rows[j].map usC).length=rows[j].length:=List.length_map _
     refine aE aA 2 rfl (bZ hf rfl nP rfl rfl rfl (.inl rfl) (by simp only[List.length_map]) rfl (by first | rfl | simp [eB,bV]) (by first | (simp only[maxLen,List.length_map,List.length_append,List.length_cons,List.length_nil]; omega) | (simp [maxLen] <;> omega)) (by first | (simp only[List.length_map,List.length_append,List.length_cons,List.length_nil]; omega) | (simp <;> omega)) ?_)
     refine bM (dY [25,26,27,33] rfl) ?_
     rw[show (rows.take j).flatten.length+(rows[j].map usC).length=(rows.take (j+1)).flatten.length from by omega,← List.map_append,← iI rows j hj]
     refine aE aA 1 rfl ?_
     refine bL ?_
     refine hK16 _ (aB ?_)
     refine aH rfl (bS rfl rfl (by omega) (by omega)) ?_
     refine aE aA 1 rfl (aD ?_)
     exact⟨j+1,(by omega),by omega,cW rfl⟩
    ·
     simp only[bs] at hc3
     refine bF (hK12 _ (aC (fun K18 hK18=>(aB (aE aA 2 rfl (aD (hK18 _ (aN ?_))))))))
     refine⟨24,(rows.flatten.map usC),by decide,?_,?_,rfl⟩
     · rw[List.take_of_length_le (show rows.length≤j by omega)]; rfl
     · rw[List.take_of_length_le (show rows.length≤j by omega)]
       show some (AV.own 24 2 0 rows.flatten.length)=_
       rw[List.length_map]
end Go.Proofs.YtijnkglkchhomaaGreat
