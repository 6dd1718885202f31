import Derived.WalkKit
import Derived.WalkSpells
import Derived.WalkLawsBesides
import Derived.Deep.LoopGhost
import Derived.ChangeKeysEq
import Derived.Still
import Derived.Lib.AppendZeros
import Derived.Laws.StructEq
import Derived.OpenShut
import Derived.Scope
import Derived.Shelf.SlSortCmp.Kit1
import Derived.Shelf.SlSortCmp.InsertionK
import Derived.Lib.SlicesCompact
import Derived.ProofKit
import Derived.ChangeSame
import Derived.Carry
import Derived.SliceStrings
import Derived.ChangeMaps5
import Derived.Deep.Slices
import Derived.Test.YtijnkglkchhomaaGreatRows
import Derived.Shelf.Abstract
import Derived.Deep.RegionLaw
import Derived.Lib.Walk
import Derived.Lib.Overlaps
import Derived.Lib.AppendZerosOnto
import Derived.Laws.CopyRow
import Derived.Shelf.SlSortCmp.WholeK
import Derived.Shelf.SlSortCmp.Whole1
import Derived.Shelf.SlSortCmp.NoneTotal
import Derived.Test.YtijnkglkchhomaaGreatKC1
import Derived.Test.YtijnkglkchhomaaGreatKC2
set_option maxRecDepth 20000
set_option maxHeartbeats 16000000
set_option linter.unusedVariables false
set_option linter.unusedSimpArgs false
namespace Go.Abs
variable {α:Type} {enc:α→List AV} {c:α→α→Int}
-- cells of a slice,told by what stands there
theorem dR {l:List α} {k i z:Nat} {x:α} (hi:i=z) (h:l[z]?=some x) (hc:(enc x).length=k):((AM.buf k (l.map enc)).at k i 0).take k=enc x:=by
  obtain ⟨hz,rfl⟩:=List.getElem?_eq_some_iff.1 h
  exact nK hi hz hc
theorem eI {l:List α} {k i z:Nat} {x:α} (hi:i=z) (h:l[z]?=some x) (hc:(enc x).length=k):Nat.ble k ((AM.buf k (l.map enc)).at k i 0).length=true:=by
  obtain ⟨hz,rfl⟩:=List.getElem?_eq_some_iff.1 h
  exact pY hi hz hc
theorem eV {l:List α} {k i z:Nat} {v:α} {rs:List AV} (hi:i=z) (h:z<l.length) (hr:rs=enc v) (hv:(enc v).length=k) (hl:(enc l[z]).length=k):(AM.buf k (l.map enc)).store k i 0 rs=some (.buf k ((l.set z v).map enc)):=by
  subst hr
  exact gD hi h (by simp [splice,hv,hl]) (by omega)
def Srt (c:α→α→Int) (l:List α):Prop:=l.Pairwise fun x y=>c x y≤0
theorem at0 {p q:List α} {x:α}:(p++x::q)[p.length]?=some x:=by simp
theorem atQ {l p q:List α} {x:α} {z:Nat} (h:l=p++x::q) (hz:z=p.length):l[z]?=some x:=by subst h; subst hz; exact at0
theorem tX {l p q:List α} {x y:α} {i j:Nat} (h:l=p++x::y::q) (hi:i=p.length+1) (hj:j=p.length):(l.set i x).set j y=p++y::x::q:=by
  subst h; subst hi; subst hj; simp
theorem aOa {l p q:List α} {x y:α} {i j:Nat} (h:l=p++x::y::q) (hi:i=p.length) (hj:j=p.length+1):(l.set i y).set j x=p++y::x::q:=by
  subst h; subst hi; subst hj; simp
theorem Srt.append {a b:List α} (ha:Srt c a) (hb:Srt c b) (h:∀ x∈a,∀ y∈b,c x y≤0):Srt c (a++b):=List.pairwise_append.2 ⟨ha,hb,h⟩
theorem Srt.left {a b:List α} (h:Srt c (a++b)):Srt c a:=(List.pairwise_append.1 h).1
theorem Srt.right {a b:List α} (h:Srt c (a++b)):Srt c b:=(List.pairwise_append.1 h).2.1
theorem aCf (hc:Tri c) {u v:List α} {e:α} (h:Srt c (u++v)) (hv:∀ y∈v,c e y≤0) (hu:∀ z,u.getLast?=some z→c z e≤0):Srt c (u++e::v):=by
  obtain ⟨h1,h2,h3⟩:=List.pairwise_append.1 h
  refine Srt.append h1 (List.pairwise_cons.2 ⟨hv,h2⟩) fun x hx y hy=>?_
  rcases List.mem_cons.1 hy with rfl | hy
  · rcases List.eq_nil_or_concat u with rfl | ⟨u',z,rfl⟩
    · simp at hx
    · have hz:=hu z (by simp)
      rw[List.concat_eq_append] at hx h1
      rcases List.mem_append.1 hx with hx | hx
      · exact hc.tr x z y ((List.pairwise_append.1 h1).2.2 x hx z (by simp)) hz
      · simp only[List.mem_singleton] at hx; subst hx; exact hz
  · exact h3 x hx y hy
theorem aQ6 {l:List α} (h:Srt c l) (hc:Tri c) {i j:Nat} (hi:i<l.length) (hj:j<l.length) (hij:i≤j):c l[i] l[j]≤0:=by
  rcases Nat.lt_or_eq_of_le hij with e | rfl
  · exact List.pairwise_iff_getElem.1 h i j hi hj e
  · have:=hc.self l[i]; omega
theorem vW {l:List α} (h:Srt c l) (hc:Tri c) {k:Nat} (hk:k<l.length):(∀ x∈l.take (k+1),c x l[k]≤0)∧∀ x∈l.drop k,c l[k] x≤0:=by
  refine⟨fun x hx=>?_,fun x hx=>?_⟩
  · obtain ⟨i,hi,rfl⟩:=List.mem_iff_getElem.1 hx
    simp only[List.length_take] at hi
    rw[List.getElem_take]
    exact aQ6 h hc _ hk (by omega)
  · obtain ⟨i,hi,rfl⟩:=List.mem_iff_getElem.1 hx
    simp only[List.length_drop] at hi
    rw[List.getElem_drop]
    exact aQ6 h hc hk _ (by omega)
theorem put_srt (hc:Tri c) {s:List α} {x:α} {i:Nat} (h:Srt c s) (hi:i≤s.length) (h1:∀ h0:0<i,c (s[i - 1]'(by omega)) x≤0) (h2:∀ h0:i<s.length,c x s[i]≤0):Srt c (s.take i++x::s.drop i):=by
  refine aCf hc (by rw[List.take_append_drop]; exact h) (fun y hy=>?_) (fun z hz=>?_)
  · by_cases h0:i<s.length
    · exact hc.tr x s[i] y (h2 h0) ((vW h hc h0).2 y hy)
    · rw[List.drop_eq_nil_of_le (by omega)] at hy; simp at hy
  · rcases Nat.eq_zero_or_pos i with rfl | h0
    · simp at hz
    · have:(s.take i).getLast?=some (s[i - 1]'(by omega)):=by
        rw[List.getLast?_eq_getElem?,List.length_take,List.getElem?_take,if_pos (by omega),Nat.min_eq_left hi,List.getElem?_eq_getElem]
      rw[this] at hz; cases hz
      exact h1 h0
theorem sym_sep (hc:Tri c) {s1 s2:List α} {S K:Nat} (h1:Srt c s1) (h2:Srt c s2) (hS:S≤s1.length) (hK:K≤s2.length)
    (hA:∀ (h0:0<S) (h3:K<s2.length),c (s1[S - 1]'(by omega)) s2[K]≤0) (hB:∀ (h0:0<K) (h3:S<s1.length),c (s2[K - 1]'(by omega)) s1[S]≤0) :
    ∀ x∈s1.take S++s2.take K,∀ y∈s1.drop S++s2.drop K,c x y≤0:=by
  have e1:Srt c (s1.take S++s1.drop S):=by rw[List.take_append_drop]; exact h1
  have e2:Srt c (s2.take K++s2.drop K):=by rw[List.take_append_drop]; exact h2
  intro x hx y hy
  rcases List.mem_append.1 hx with hx | hx <;> rcases List.mem_append.1 hy with hy | hy
  · exact(List.pairwise_append.1 e1).2.2 x hx y hy
  · rcases Nat.eq_zero_or_pos S with rfl | h0
    · simp at hx
    · by_cases h3:K<s2.length
      · have q1:=(vW h1 hc (show S - 1<s1.length by omega)).1 x (by rw[show S - 1+1=S by omega]; exact hx)
        exact hc.tr _ _ _ (hc.tr _ _ _ q1 (hA h0 h3)) ((vW h2 hc h3).2 y hy)
      · rw[List.drop_eq_nil_of_le (by omega)] at hy; simp at hy
  · rcases Nat.eq_zero_or_pos K with rfl | h0
    · simp at hx
    · by_cases h3:S<s1.length
      · have q1:=(vW h2 hc (show K - 1<s2.length by omega)).1 x (by rw[show K - 1+1=K by omega]; exact hx)
        exact hc.tr _ _ _ (hc.tr _ _ _ q1 (hB h0 h3)) ((vW h1 hc h3).2 y hy)
      · rw[List.drop_eq_nil_of_le (by omega)] at hy; simp at hy
  · exact(List.pairwise_append.1 e2).2.2 x hx y hy
theorem Srt.take {l:List α} (h:Srt c l) (k:Nat):Srt c (l.take k):=Srt.left (b:=l.drop k) (by rw[List.take_append_drop]; exact h)
theorem Srt.drop {l:List α} (h:Srt c l) (k:Nat):Srt c (l.drop k):=Srt.right (a:=l.take k) (by rw[List.take_append_drop]; exact h)
theorem aBm {a b a' b':List α} (ha:a'.Perm a) (hb:b'.Perm b) (h:∀ x∈a,∀ y∈b,c x y≤0):∀ x∈a',∀ y∈b',c x y≤0 :=
  fun x hx y hy=>h x (ha.mem_iff.1 hx) y (hb.mem_iff.1 hy)
theorem tE {s1 s2 l r:List α} {S K:Nat} (hl:l.Perm (s1.take S++s2.take K)) (hr:r.Perm (s1.drop S++s2.drop K)):(l++r).Perm (s1++s2):=by
  refine(hl.append hr).trans ?_
  have e:(s1++s2).Perm ((s1.take S++s1.drop S)++(s2.take K++s2.drop K)):=by rw[List.take_append_drop,List.take_append_drop]
  refine List.Perm.trans ?_ e.symm
  rw[List.append_assoc,List.append_assoc]
  refine List.Perm.append_left _ ?_
  rw[← List.append_assoc,← List.append_assoc]
  exact List.Perm.append_right _ List.perm_append_comm
inductive Fu (c:α→α→Int) (k:Nat):List α→Prop
  | nil:Fu c k []
  | cons {d s:List α} (h:Fu c k d) (hs:Srt c s) (hl:s.length=k):Fu c k (d++s)
inductive Ch (c:α→α→Int) (k:Nat):List α→Prop
  | last {s:List α} (hs:Srt c s) (hl:s.length≤k):Ch c k s
  | cons {s r:List α} (hs:Srt c s) (hl:s.length=k) (h:Ch c k r):Ch c k (s++r)
theorem Fu.ch {k:Nat} {d:List α} (h:Fu c k d):∀ {r:List α},Ch c k r→Ch c k (d++r):=by
  induction h with
  | nil=>intro r hr; exact hr
  | cons h hs hl ih=>intro r hr; rw[List.append_assoc]; exact ih (.cons hs hl hr)
theorem Ch.split {k:Nat} {l:List α} (h:Ch c k l) (hl:k<l.length):∃ s r,l=s++r∧Srt c s∧s.length=k∧Ch c k r:=by
  cases h with
  | last hs h1=>omega
  | cons hs h1 h2=>exact⟨_,_,rfl,hs,h1,h2⟩
theorem Ch.short {k:Nat} {l:List α} (h:Ch c k l) (hl:l.length≤k):Srt c l:=by
  cases h with
  | last hs h1=>exact hs
  | @cons s r hs h1 h2 =>
    have:r=[]:=by
      rw[List.length_append] at hl
      exact List.eq_nil_of_length_eq_zero (by omega)
    rw[this,List.append_nil]; exact hs
theorem Ch.two {k:Nat} {l:List α} (h:Ch c k l) (hl:k<l.length):∃ s t r,l=s++(t++r)∧Srt c s∧s.length=k∧Srt c t∧0<t.length∧((t.length=k∧Ch c k r)∨(t.length≤k∧r=[])):=by
  obtain ⟨s,r,rfl,hs,h1,h2⟩:=h.split hl
  rw[List.length_append] at hl
  cases h2 with
  | last ht h3=>exact⟨s,r,[],by simp,hs,h1,ht,by omega,.inr ⟨h3,rfl⟩⟩
  | @cons t r' ht h3 h4 =>
    rcases Nat.eq_zero_or_pos k with rfl | h0
    · have:t=[]:=List.eq_nil_of_length_eq_zero h3
      subst this
      simp only[List.nil_append] at hl ⊢
      exact⟨s,r',[],by simp,hs,h1,(h4.short (by
        exfalso
        revert hl
        have:∀ l:List α,Ch c 0 l→l.length=0:=by
          intro l hl
          induction hl with
          | last hs hl=>omega
          | cons hs hl h ih=>rw[List.length_append,hl,ih]
        have:=this r' h4
        omega)),by omega,.inr ⟨by
        have:∀ l:List α,Ch c 0 l→l.length=0:=by
          intro l hl
          induction hl with
          | last hs hl=>omega
          | cons hs hl h ih=>rw[List.length_append,hl,ih]
        rw[this r' h4]; exact Nat.zero_le _,rfl⟩⟩
    · exact⟨s,t,r',rfl,hs,h1,ht,by omega,.inl ⟨h3,h4⟩⟩
end Go.Abs
namespace Go.Abs
variable {α:Type} {enc:α→List AV} {c:α→α→Int}
def swr (A u B v C:List α) (i:Nat):List α:=A++((v.take i++u.drop i)++(B++((u.take i++v.drop i)++C)))
theorem swr_len {A u B v C:List α} {i:Nat} (h:v.length=u.length):(swr A u B v C i).length=A.length+u.length+B.length+v.length+C.length:=by
  simp only[swr,List.length_append,List.length_take,List.length_drop]; omega
theorem xI {A u B v C:List α} {i:Nat} (h:v.length=u.length) (hi:i<u.length) :
    swr A u B v C i=(A++v.take i)++u[i]::((u.drop (i+1)++B++u.take i)++(v[i]'(by omega))::(v.drop (i+1)++C)):=by
  rw[swr,List.drop_eq_getElem_cons hi,List.drop_eq_getElem_cons (show i<v.length by omega)]; simp only[List.append_assoc,List.cons_append]
theorem aAo {A u B v C:List α} {i:Nat} (h:v.length=u.length) (hi:i<u.length):(swr A u B v C i)[A.length+i]?=some u[i]:=by
  rw[xI h hi]
  exact atQ rfl (by simp; omega)
theorem aAn {A u B v C:List α} {i:Nat} (h:v.length=u.length) (hi:i<u.length):(swr A u B v C i)[A.length+u.length+B.length+i]?=some (v[i]'(by omega)):=by
  rw[xI h hi]
  exact atQ (p:=(A++v.take i)++u[i]::(u.drop (i+1)++B++u.take i)) (q:=v.drop (i+1)++C) (by simp) (by simp; omega)
theorem aRc {p q:List α} {x y:α} {i:Nat} (hi:i=p.length):(p++x::q).set i y=p++y::q:=by subst hi; simp
theorem aHb {A u B v C:List α} {i:Nat} (h:v.length=u.length) (hi:i<u.length):((swr A u B v C i).set (A.length+i) (v[i]'(by omega))).set (A.length+u.length+B.length+i) u[i]=swr A u B v C (i+1):=by
  rw[xI h hi,aRc (by simp; omega)]
  rw[show (A++v.take i)++(v[i]'(by omega))::((u.drop (i+1)++B++u.take i)++(v[i]'(by omega))::(v.drop (i+1)++C))=((A++v.take i)++(v[i]'(by omega))::(u.drop (i+1)++B++u.take i))++(v[i]'(by omega))::(v.drop (i+1)++C) from by simp]
  rw[aRc (by simp; omega),swr,← List.take_append_getElem hi,← List.take_append_getElem (show i<v.length by omega)]
  simp only[List.append_assoc,List.cons_append,List.nil_append]
theorem srt_one {l:List α} (h:l.length≤1):Srt c l:=by
  match l,h with
  | [],_=>exact List.Pairwise.nil
  | [x],_=>exact List.pairwise_singleton _ _
theorem last_of {u:List α} (h:0<u.length):∃ u' z,u=u'++[z]:=by
  rcases List.eq_nil_or_concat u with rfl | ⟨u',z,rfl⟩
  · simp at h
  · exact⟨u',z,by simp⟩
theorem aM {x y:Int} (h:x=y):(some (AV.s (.int .i64 x)):Option AV)=some (AV.s (.int .i64 y)):=by rw[h]
end Go.Abs
namespace Go.Abs
variable {α:Type} {enc:α→List AV} {c:α→α→Int}
theorem aIs {u v s3 s1 s0:List α} {e:α} (huv:u++v=s1) (h:(s1++e::s3).Perm s0):((u++e::v)++s3).Perm s0:=by
  refine List.Perm.trans ?_ h
  subst huv
  rw[List.append_assoc,List.append_assoc]
  exact List.Perm.append_left u List.perm_middle.symm
theorem atM {p s1 s2 q:List α} {h:Nat} (hh:h<s2.length):(p++(s1++(s2++q)))[p.length+s1.length+h]?=some s2[h]:=by
  rw[List.getElem?_append_right (by omega),List.getElem?_append_right (by omega),List.getElem?_append_left (by omega),List.getElem?_eq_getElem (by omega)]
  congr 2; omega
theorem atL {p s1 r:List α} {h:Nat} (hh:h<s1.length):(p++(s1++r))[p.length+h]?=some s1[h]:=by
  rw[List.getElem?_append_right (by omega),List.getElem?_append_left (by omega),List.getElem?_eq_getElem (by omega)]
  congr 2; omega
theorem aHa {p s1 s2 q:List α} {S K:Nat} (h:s1.length≤S∨K=0):p++(s1++(s2++q))=p++((s1.take S++s2.take K)++((s1.drop S++s2.drop K)++q)):=by
  rcases h with h | rfl
  · rw[List.take_of_length_le h,List.drop_eq_nil_of_le h,List.nil_append,List.append_assoc,← List.append_assoc (s2.take K),List.take_append_drop]
  · rw[List.take_zero,List.drop_zero,List.append_nil,List.append_assoc,← List.append_assoc (s1.take S),List.take_append_drop]
theorem aQ5 {p s1 s2 q:List α} (S K:Nat):p++(s1++(s2++q))=(p++s1.take S)++(s1.drop S++(s2.take K++(s2.drop K++q))):=by
  rw[List.append_assoc,← List.append_assoc (s1.take S),List.take_append_drop,← List.append_assoc (s2.take K),List.take_append_drop]
theorem aHe {s1 s2:List α} {S K:Nat} (h1:Srt c s1) (h2:Srt c s2) (h:S=0∨K=0):Srt c (s1.take S++s2.take K):=by
  rcases h with rfl | rfl
  · rw[List.take_zero,List.nil_append]; exact h2.take K
  · rw[List.take_zero,List.append_nil]; exact h1.take S
theorem aEm {s1 s2:List α} {S K:Nat} (h1:Srt c s1) (h2:Srt c s2) (h:s1.length≤S∨s2.length≤K):Srt c (s1.drop S++s2.drop K):=by
  rcases h with h | h
  · rw[List.drop_eq_nil_of_le h,List.nil_append]; exact h2.drop K
  · rw[List.drop_eq_nil_of_le h,List.append_nil]; exact h1.drop S
theorem put_perm {s:List α} {x:α} {i:Nat}:(s.take i++x::s.drop i).Perm (x::s):=by
  refine List.perm_middle.trans ?_
  rw[List.take_append_drop]
theorem aHz (hc:Tri c) {s:List α} {x:α} {i:Nat} (h:Srt c s) (hi:i≤s.length) (h1:∀ z,s[i - 1]?=some z→0<i→c z x≤0) (h2:∀ z,s[i]?=some z→c x z≤0):Srt c (s.take i++x::s.drop i) :=
  put_srt hc h hi (fun h0=>h1 _ (List.getElem?_eq_getElem (by omega)) h0) (fun h0=>h2 _ (List.getElem?_eq_getElem h0))
theorem Ch.pair {k:Nat} {l:List α} (h:Ch c k l) (h0:0<k) (hl:2*k≤l.length):∃ s t r,l=s++(t++r)∧Srt c s∧s.length=k∧Srt c t∧t.length=k∧Ch c k r:=by
  obtain ⟨s,t,r,rfl,h1,h2,h3,h4,h5⟩:=h.two (by omega)
  simp only[List.length_append] at hl
  rcases h5 with ⟨h5,h6⟩ | ⟨h5,rfl⟩
  · exact⟨s,t,r,rfl,h1,h2,h3,h5,h6⟩
  · simp only[List.length_nil] at hl
    exact⟨s,t,[],rfl,h1,h2,h3,by omega,.last List.Pairwise.nil (by simp)⟩
theorem Ch.rest {k:Nat} {l:List α} (h:Ch c k l) (hl:k<l.length) (hl2:l.length<2*k):∃ s t,l=s++t∧Srt c s∧s.length=k∧Srt c t∧0<t.length:=by
  obtain ⟨s,t,r,rfl,h1,h2,h3,h4,h5⟩:=h.two hl
  simp only[List.length_append] at hl2
  rcases h5 with ⟨h5,h6⟩ | ⟨h5,rfl⟩
  · omega
  · exact⟨s,t,by simp,h1,h2,h3,h4⟩
end Go.Abs
namespace Go.Abs
abbrev Sp:=Int×Int
def fU (l:List Sp) (t:Int):Bool:=l.any fun s=>decide (s.1≤t)&&decide (t<s.2)
theorem gS {l:List Sp} {t:Int}:fU l t=true↔∃ s∈l,s.1≤t∧t<s.2:=by
  simp [fU]
theorem nP (a b:List Sp) (t:Int):fU (a++b) t=(fU a t||fU b t):=by simp [fU]
theorem jP (s:Sp) (l:List Sp) (t:Int):fU (s::l) t=((decide (s.1≤t)&&decide (t<s.2))||fU l t):=rfl
theorem mK (t:Int):fU [] t=false:=rfl
theorem aOp {a b:List Sp} {t:Int} (h:(∃ s∈a,s.1≤t∧t<s.2)↔(∃ s∈b,s.1≤t∧t<s.2)):fU a t=fU b t:=by
  rw[Bool.eq_iff_iff,gS,gS]; exact h
def mR (l:List Sp):Prop:=(∀ s∈l,s.1<s.2)∧l.Pairwise (fun a b=>a.2<b.1)
theorem aEy {x:Sp} {l:List Sp} (h:mR (x::l)):mR l:=⟨fun s hs=>h.1 s (by simp [hs]),(List.pairwise_cons.1 h.2).2⟩
theorem kN {x:Sp} {l:List Sp} (h:mR (x::l)):x.1<x.2∧∀ s∈l,x.2<s.1:=⟨h.1 x (by simp),(List.pairwise_cons.1 h.2).1⟩
theorem aIb {x:Sp} {l:List Sp} (h:mR (x::l)) {t:Int} (ht:fU (x::l) t=true):x.1≤t:=by
  obtain ⟨s,hs,h1,h2⟩:=gS.1 ht
  rcases List.mem_cons.1 hs with rfl | hs
  · exact h1
  · have:=(kN h).2 s hs
    have:=(kN h).1
    omega
theorem aCa:∀ (a b:List Sp),mR a→mR b→(∀ t,fU a t=fU b t)→a=b
  | [],[],_,_,_=>rfl
  | [],y::ys,_,hb,h=>by
    have h1:=h y.1
    have h2:fU (y::ys) y.1=true:=gS.2 ⟨y,by simp,Int.le_refl _,(kN hb).1⟩
    rw[h2] at h1
    cases h1
  | x::xs,[],ha,_,h=>by
    have h1:=h x.1
    have h2:fU (x::xs) x.1=true:=gS.2 ⟨x,by simp,Int.le_refl _,(kN ha).1⟩
    rw[h2] at h1
    cases h1
  | x::xs,y::ys,ha,hb,h=>by
    have hx:fU (x::xs) x.1=true:=gS.2 ⟨x,by simp,Int.le_refl _,(kN ha).1⟩
    have hy:fU (y::ys) y.1=true:=gS.2 ⟨y,by simp,Int.le_refl _,(kN hb).1⟩
    have e1:x.1=y.1:=by
      have h1:=aIb hb (by rw[← h]; exact hx)
      have h2:=aIb ha (by rw[h]; exact hy)
      omega
    have key:∀ (x y:Sp) (xs ys:List Sp),mR (x::xs)→mR (y::ys)→x.1=y.1→(∀ t,fU (x::xs) t=fU (y::ys) t)→¬ x.2<y.2:=by
      intro x y xs ys ha hb e h hlt
      have h1:=(kN ha).1
      have h2:fU (y::ys) x.2=true:=gS.2 ⟨y,by simp,by omega,hlt⟩
      rw[← h] at h2
      obtain ⟨s,hs,h3,h4⟩:=gS.1 h2
      rcases List.mem_cons.1 hs with rfl | hs
      · omega
      · have:=(kN ha).2 s hs
        omega
    have e2:x.2=y.2:=by
      have h1:=key x y xs ys ha hb e1 h
      have h2:=key y x ys xs hb ha e1.symm (fun t=>(h t).symm)
      omega
    have exy:x=y:=Prod.ext e1 e2
    subst exy
    refine congrArg (x::·) (aCa xs ys (aEy ha) (aEy hb) fun t=>?_)
    have low:∀ l,mR (x::l)→t<x.2→fU l t=false:=by
      intro l hl ht
      cases hq:fU l t with
      | false=>rfl
      | true =>
        obtain ⟨s,hs,h3,h4⟩:=gS.1 hq
        have:=(kN hl).2 s hs
        omega
    by_cases ht:t<x.2
    · rw[low xs ha ht,low ys hb ht]
    · have:=h t
      simpa [jP,ht] using this
def eB (out:List Sp) (s:Sp):List Sp:=match out.getLast? with
  | some x=>if x.2=s.1 then out.dropLast++[(x.1,s.2)] else out++[s]
  | none=>[s]
def gM (p:Int→Bool):List Sp→List Int→List Sp
  | out,a::b::r=>gM p (if p a=true then eB out (a,b) else out) (b::r)
  | out,_=>out
def inP (p:Int→Bool):List Int→Int→Bool
  | a::b::r,t=>(p a&&decide (a≤t)&&decide (t<b))||inP p (b::r) t
  | _,_=>false
def rK (e:List Int):Prop:=e.Pairwise (·<·)
theorem glue_ok {out:List Sp} {a b:Int} (h:mR out) (ha:∀ s∈out,s.2≤a) (hab:a<b) :
    mR (eB out (a,b))∧(∀ s∈eB out (a,b),s.2≤b)∧∀ t,fU (eB out (a,b)) t=(fU out t||(decide (a≤t)&&decide (t<b))):=by
  rcases List.eq_nil_or_concat out with rfl | ⟨i,x,rfl⟩
  · refine⟨⟨by simp [eB]; exact hab,by simp [eB]⟩,by simp [eB],fun t=>by simp [eB,fU]⟩
  · rw[List.concat_eq_append] at *
    have hx1:=h.1 x (by simp)
    have hx2:=ha x (by simp)
    have hp:=List.pairwise_append.1 h.2
    simp only[eB,List.getLast?_append,List.getLast?_singleton,Option.some_or,List.dropLast_concat]
    split
    · rename_i e
      refine⟨⟨fun s hs=>?_,?_⟩,fun s hs=>?_,fun t=>?_⟩
      · rcases List.mem_append.1 hs with hs | hs
        · exact h.1 s (by simp [hs])
        · simp at hs; subst hs; simp only; omega
      · refine List.pairwise_append.2 ⟨hp.1,by simp,fun s hs y hy=>?_⟩
        simp at hy; subst hy
        exact hp.2.2 s hs x (by simp)
      · rcases List.mem_append.1 hs with hs | hs
        · have:=ha s (by simp [hs]); omega
        · simp at hs; subst hs; simp
      · simp only[nP,jP,mK,Bool.or_false,Bool.or_assoc]
        congr 1
        rw[Bool.eq_iff_iff]
        simp
        omega
    · refine⟨⟨fun s hs=>?_,?_⟩,fun s hs=>?_,fun t=>?_⟩
      · rcases List.mem_append.1 hs with hs | hs
        · exact h.1 s hs
        · simp at hs; subst hs; exact hab
      · refine List.pairwise_append.2 ⟨h.2,by simp,fun s hs y hy=>?_⟩
        simp at hy; subst hy
        rename_i hne
        rcases List.mem_append.1 hs with hs | hs
        · have:=hp.2.2 s hs x (by simp); omega
        · simp at hs; subst hs; omega
      · rcases List.mem_append.1 hs with hs | hs
        · have:=ha s hs; omega
        · simp at hs; subst hs; simp
      · simp [nP,jP,mK,Bool.or_assoc]
theorem xR (p:Int→Bool):∀ (e:List Int) (out:List Sp),rK e→mR out→(∀ a,e.head?=some a→∀ s∈out,s.2≤a) →
    mR (gM p out e)∧∀ t,fU (gM p out e) t=(fU out t||inP p e t)
  | [],out,_,h,_=>⟨h,fun t=>by simp [gM,inP]⟩
  | [a],out,_,h,_=>⟨h,fun t=>by simp [gM,inP]⟩
  | a::b::r,out,he,h,ha=>by
    have hab:a<b:=(List.pairwise_cons.1 he).1 b (by simp)
    have hr:rK (b::r):=(List.pairwise_cons.1 he).2
    have ha':=ha a rfl
    simp only[gM,inP]
    by_cases hp:p a=true
    · rw[if_pos hp]
      obtain ⟨g1,g2,g3⟩:=glue_ok h ha' hab
      obtain ⟨i1,i2⟩:=xR p (b::r) (eB out (a,b)) hr g1 (fun c hc s hs=>by cases hc; exact g2 s hs)
      refine⟨i1,fun t=>?_⟩
      rw[i2,g3,hp]
      simp [Bool.or_assoc]
    · rw[if_neg hp]
      obtain ⟨i1,i2⟩:=xR p (b::r) out hr h (fun c hc s hs=>by cases hc; have:=ha' s hs; omega)
      refine⟨i1,fun t=>?_⟩
      rw[i2]
      simp [hp]
theorem aF7 (p:Int→Bool):∀ (e:List Int) (t:Int),rK e→(∀ a,e.head?=some a→t<a)→inP p e t=false
  | [],t,_,_=>rfl
  | [a],t,_,_=>rfl
  | a::b::r,t,he,h=>by
    have hab:a<b:=(List.pairwise_cons.1 he).1 b (by simp)
    have ht:t<a:=h a rfl
    simp only[inP]
    rw[aF7 p (b::r) t (List.pairwise_cons.1 he).2 (fun c hc=>by cases hc; omega)]
    have:¬ a≤t:=by omega
    simp [this]
theorem aRz (p:Int→Bool):∀ (r:List Int) (a:Int),rK (a::r)→(∀ t t',a≤t→t≤t'→(∀ x∈r,¬ (t<x∧x≤t'))→p t=p t')→(∀ t,(∀ x∈a::r,x≤t)→p t=false) →
    ∀ t,a≤t→inP p (a::r) t=p t
  | [],a,_,_,h2,t,ht=>by rw[h2 t (by simpa using ht)]; rfl
  | b::r,a,he,h1,h2,t,ht=>by
    have hab:a<b:=(List.pairwise_cons.1 he).1 b (by simp)
    have hr:rK (b::r):=(List.pairwise_cons.1 he).2
    simp only[inP]
    by_cases htb:t<b
    · rw[aF7 p (b::r) t hr (fun c hc=>by cases hc; exact htb)]
      have:p a=p t:=h1 a t (Int.le_refl _) ht (fun x hx h=>by
        rcases List.mem_cons.1 hx with rfl | hx
        · omega
        · have:=(List.pairwise_cons.1 hr).1 x hx
          omega)
      simp [this,ht,htb]
    · rw[aRz p r b hr (fun t t' ht' htt hx=>h1 t t' (by omega) htt (fun x hx' h=>by
        rcases List.mem_cons.1 hx' with rfl | hx'
        · omega
        · exact hx x hx' h)) (fun t ht'=>h2 t (fun x hx=>by
        rcases List.mem_cons.1 hx with rfl | hx
        · have:=ht' b (by simp); omega
        · exact ht' x hx)) t (by omega)]
      simp [htb]
def jV:List Int→Int→List Int
  | [],n=>[n]
  | x::r,n=>if n<x then n::x::r else if x=n then x::r else x::jV r n
theorem wH:∀ (l:List Int) (n x:Int),x∈jV l n↔x=n∨x∈l
  | [],n,x=>by simp [jV]
  | y::r,n,x=>by
    simp only[jV]
    split
    · simp
    · split
      · rename_i h; subst h; simp
      · simp only[List.mem_cons,wH r n x]
        constructor
        · rintro (h | h | h)
          · exact .inr (.inl h)
          · exact .inl h
          · exact .inr (.inr h)
        · rintro (h | h | h)
          · exact .inr (.inl h)
          · exact .inl h
          · exact .inr (.inr h)
theorem vJ:∀ (l:List Int) (n:Int),rK l→rK (jV l n)
  | [],n,_=>by simp [jV,rK]
  | y::r,n,h=>by
    have h1:=List.pairwise_cons.1 h
    simp only[jV]
    split
    · rename_i hn
      refine List.pairwise_cons.2 ⟨fun x hx=>?_,h⟩
      rcases List.mem_cons.1 hx with rfl | hx
      · exact hn
      · have:=h1.1 x hx; omega
    · split
      · exact h
      · refine List.pairwise_cons.2 ⟨fun x hx=>?_,vJ r n h1.2⟩
        rcases (wH r n x).1 hx with rfl | hx
        · omega
        · exact h1.1 x hx
def jM (l:List Sp):List Int:=l.foldl (fun out s=>jV (jV out s.1) s.2) []
theorem aCr:∀ (l:List Sp) (out:List Int),rK out→rK (l.foldl (fun out s=>jV (jV out s.1) s.2) out)∧∀ x,x∈l.foldl (fun out s=>jV (jV out s.1) s.2) out↔x∈out∨∃ s∈l,x=s.1∨x=s.2
  | [],out,h=>⟨h,by simp⟩
  | s::l,out,h=>by
    obtain ⟨i1,i2⟩:=aCr l (jV (jV out s.1) s.2) (vJ _ _ (vJ _ _ h))
    refine⟨i1,fun x=>?_⟩
    rw[List.foldl_cons,i2,wH,wH]
    simp only[List.mem_cons,exists_eq_or_imp]
    constructor
    · rintro ((h | h | h) | h)
      · exact .inr (.inl (.inr h))
      · exact .inr (.inl (.inl h))
      · exact .inl h
      · exact .inr (.inr h)
    · rintro (h | (h | h) | h)
      · exact .inl (.inr (.inr h))
      · exact .inl (.inr (.inl h))
      · exact .inl (.inl h)
      · exact .inr h
theorem aCq (l:List Sp):rK (jM l):=(aCr l [] (by simp [rK])).1
theorem aSa (l:List Sp) (x:Int):x∈jM l↔∃ s∈l,x=s.1∨x=s.2:=by
  have:=(aCr l [] (by simp [rK])).2 x
  simpa [jM] using this
theorem aPh (l:List Sp) (p:Int→Bool) (h:∀ t t',(∀ s∈l,(s.1≤t↔s.1≤t')∧(s.2≤t↔s.2≤t'))→p t=p t') (h0:∀ t,p t=true→∃ s∈l,s.1≤t∧t<s.2) :
    mR (gM p [] (jM l))∧∀ t,fU (gM p [] (jM l)) t=p t:=by
  obtain ⟨h1,h2⟩:=xR p (jM l) [] (aCq l) ⟨by simp,by simp⟩ (by simp)
  refine⟨h1,fun t=>?_⟩
  rw[h2,mK,Bool.false_or]
  have hm:=aSa l
  have hr:=aCq l
  have hhi:∀ t,(∀ x∈jM l,x≤t)→p t=false:=by
    intro t ht
    cases hq:p t with
    | false=>rfl
    | true =>
      obtain ⟨s,hs,h3,h4⟩:=h0 t hq
      have:=ht s.2 ((hm _).2 ⟨s,hs,.inr rfl⟩)
      omega
  generalize jM l=e at *
  cases e with
  | nil =>
    rw[hhi t (by simp)]; rfl
  | cons a r =>
    by_cases hta:a≤t
    · refine aRz p r a hr (fun t t' ht htt hx=>h t t' fun s hs=>?_) hhi t hta
      have hh:∀ x,x∈a::r→(x≤t↔x≤t'):=by
        intro x hxm
        constructor
        · intro h; omega
        · intro h'
          rcases List.mem_cons.1 hxm with rfl | hxm
          · exact ht
          · have:=hx x hxm; omega
      exact⟨hh _ ((hm _).2 ⟨s,hs,.inl rfl⟩),hh _ ((hm _).2 ⟨s,hs,.inr rfl⟩)⟩
    · rw[aF7 p (a::r) t hr (fun c hc=>by cases hc; omega)]
      cases hq:p t with
      | false=>rfl
      | true =>
        exfalso
        obtain ⟨s,hs,h3,h4⟩:=h0 t hq
        have h5:=(hm s.1).2 ⟨s,hs,.inl rfl⟩
        rcases List.mem_cons.1 h5 with e | h5
        · omega
        · have:=(List.pairwise_cons.1 hr).1 _ h5; omega
def oE (l:List Sp):List Sp:=gM (fU l) [] (jM l)
theorem aPw {l m:List Sp} {t t':Int} (hl:∀ s∈l,s∈m) (h:∀ s∈m,(s.1≤t↔s.1≤t')∧(s.2≤t↔s.2≤t')):fU l t=fU l t':=by
  rw[Bool.eq_iff_iff,gS,gS]
  constructor
  · rintro ⟨s,hs,h1,h2⟩
    have:=h s (hl s hs)
    exact⟨s,hs,by omega,by omega⟩
  · rintro ⟨s,hs,h1,h2⟩
    have:=h s (hl s hs)
    exact⟨s,hs,by omega,by omega⟩
theorem oL (l:List Sp):mR (oE l)∧∀ t,fU (oE l) t=fU l t :=
  aPh l (fU l) (fun _ _ h=>aPw (fun _ h=>h) h) (fun _ h=>gS.1 h)
def dG (out:List Sp) (s:Sp):List Sp:=match out.getLast? with
  | some x=>if s.1≤x.2 then out.dropLast++[(x.1,max x.2 s.2)] else out++[s]
  | none=>[s]
theorem aId:∀ (l out:List Sp),mR out→(∀ s∈l,s.1<s.2)→l.Pairwise (fun a b=>a.1≤b.1)→(∀ x∈out,∀ s∈l,x.1≤s.1) →
    mR (l.foldl dG out)∧∀ t,fU (l.foldl dG out) t=(fU out t||fU l t)
  | [],out,h,_,_,_=>⟨h,fun t=>by simp [mK]⟩
  | s::l,out,h,hn,hs,hx=>by
    have hs1:=List.pairwise_cons.1 hs
    have hns:=hn s (by simp)
    have step:mR (dG out s)∧(∀ x∈dG out s,x.1≤s.1)∧∀ t,fU (dG out s) t=(fU out t||(decide (s.1≤t)&&decide (t<s.2))):=by
      rcases List.eq_nil_or_concat out with rfl | ⟨i,x,rfl⟩
      · refine⟨⟨by simpa [dG] using hns,by simp [dG]⟩,by simp [dG],fun t=>by simp [dG,fU]⟩
      · rw[List.concat_eq_append] at *
        have hx1:=h.1 x (by simp)
        have hxs:=hx x (by simp) s (by simp)
        have hp:=List.pairwise_append.1 h.2
        simp only[dG,List.getLast?_append,List.getLast?_singleton,Option.some_or,List.dropLast_concat]
        split
        · rename_i e
          refine⟨⟨fun y hy=>?_,?_⟩,fun y hy=>?_,fun t=>?_⟩
          · rcases List.mem_append.1 hy with hy | hy
            · exact h.1 y (by simp [hy])
            · simp at hy; subst hy; simp only; omega
          · refine List.pairwise_append.2 ⟨hp.1,by simp,fun y hy z hz=>?_⟩
            simp at hz; subst hz
            exact hp.2.2 y hy x (by simp)
          · rcases List.mem_append.1 hy with hy | hy
            · exact hx y (by simp [hy]) s (by simp)
            · simp at hy; subst hy; exact hxs
          · simp only[nP,jP,mK,Bool.or_false,Bool.or_assoc]
            congr 1
            rw[Bool.eq_iff_iff]
            simp
            omega
        · rename_i e
          refine⟨⟨fun y hy=>?_,?_⟩,fun y hy=>?_,fun t=>?_⟩
          · rcases List.mem_append.1 hy with hy | hy
            · exact h.1 y hy
            · simp at hy; subst hy; exact hns
          · refine List.pairwise_append.2 ⟨h.2,by simp,fun y hy z hz=>?_⟩
            simp at hz; subst hz
            rcases List.mem_append.1 hy with hy | hy
            · have:=hp.2.2 y hy x (by simp); omega
            · simp at hy; subst hy; omega
          · rcases List.mem_append.1 hy with hy | hy
            · exact hx y hy s (by simp)
            · simp at hy; subst hy; exact Int.le_refl _
          · simp [nP,jP,mK,Bool.or_assoc]
    obtain ⟨i1,i2⟩:=aId l (dG out s) step.1 (fun y hy=>hn y (by simp [hy])) hs1.2 (fun x hx' y hy=>Int.le_trans (step.2.1 x hx') (hs1.1 y hy))
    refine⟨i1,fun t=>?_⟩
    rw[List.foldl_cons,i2,step.2.2,jP,Bool.or_assoc]
def uG (s:Sp):Bool:=decide (s.1<s.2)
theorem aI1 (l:List Sp) (t:Int):fU (l.filter uG) t=fU l t:=by
  refine aOp ⟨fun⟨s,hs,h⟩=>⟨s,(List.mem_filter.1 hs).1,h⟩,fun⟨s,hs,h⟩=>⟨s,List.mem_filter.2 ⟨hs,by simp [uG]; omega⟩,h⟩⟩
theorem aPx {a b:List Sp} (h:a.Perm b) (t:Int):fU a t=fU b t :=
  aOp ⟨fun⟨s,hs,k⟩=>⟨s,h.mem_iff.1 hs,k⟩,fun⟨s,hs,k⟩=>⟨s,h.mem_iff.2 hs,k⟩⟩
theorem aMl {l s:List Sp} (hp:s.Perm (l.filter uG)) (hs:s.Pairwise (fun a b=>a.1≤b.1)):s.foldl dG []=oE l:=by
  obtain ⟨h1,h2⟩:=aId s [] ⟨by simp,by simp⟩ (fun x hx=>by
    have:=(List.mem_filter.1 (hp.mem_iff.1 hx)).2
    simpa [uG] using this) hs (by simp)
  refine aCa _ _ h1 (oL l).1 fun t=>?_
  rw[h2,mK,Bool.false_or,aPx hp,aI1,(oL l).2]
theorem aMk {a b:List Sp} (h:∀ t,fU a t=fU b t):oE a=oE b :=
  aCa _ _ (oL a).1 (oL b).1 fun t=>by rw[(oL a).2,(oL b).2,h]
theorem sR (l:List Int) (n:Int):(jV l n).length≤l.length+1:=by
  induction l with
  | nil=>simp [jV]
  | cons x r ih =>
    simp only[jV]
    split
    · simp
    · split
      · simp
      · simp only[List.length_cons]; omega
theorem wX:∀ (l:List Sp) (out:List Int),(l.foldl (fun out s=>jV (jV out s.1) s.2) out).length≤out.length+2*l.length
  | [],out=>by simp
  | s::l,out=>by
    have h1:=wX l (jV (jV out s.1) s.2)
    have h2:=sR (jV out s.1) s.2
    have h3:=sR out s.1
    simp only[List.foldl_cons,List.length_cons]; omega
theorem aJg (l:List Sp):(jM l).length≤2*l.length:=by
  have:=wX l []
  simpa [jM] using this
theorem aI2 (out:List Sp) (s:Sp):(eB out s).length≤out.length+1:=by
  rcases List.eq_nil_or_concat out with rfl | ⟨i,x,rfl⟩
  · simp [eB]
  · rw[List.concat_eq_append]
    simp only[eB,List.getLast?_append,List.getLast?_singleton,Option.some_or,List.dropLast_concat]
    split <;> simp
theorem aB0 (p:Int→Bool):∀ (e:List Int) (out:List Sp),(gM p out e).length≤out.length+e.length
  | [],out=>by simp [gM]
  | [a],out=>by simp [gM]
  | a::b::r,out=>by
    simp only[gM]
    have h1:=aB0 p (b::r) (if p a=true then eB out (a,b) else out)
    have h2:=aI2 out (a,b)
    simp only[List.length_cons] at h1 ⊢
    split at h1 <;> simp_all <;> omega
theorem aRq (l:List Sp):(oE l).length≤2*l.length:=by
  have h1:=aB0 (fU l) (jM l) []
  have h2:=aJg l
  simp only[List.length_nil,Nat.zero_add] at h1
  exact Nat.le_trans h1 h2
end Go.Abs
set_option linter.unusedVariables false
namespace Go.Abs
open Go
def spC (s:Sp):List AV:=[.s (.int .i64 s.1),.s (.int .i64 s.2)]
theorem aQ8 (s:Sp):∀ c∈spC s,c.leaf=true:=by simp [spC,AV.leaf,Value.oneCell']
theorem spC_eq (x y:Sp):(x.1 == y.1&&(x.2 == y.2&&true))=decide (x=y):=by
  rw[Bool.eq_iff_iff]; simp [Prod.ext_iff]
def iN (a b:Int):Int:=if a<b then -1 else if b<a then 1 else 0
theorem rW {l:List Sp} (h:0<l.length):l.getLast?=some (l[l.length - 1]'(by omega)):=by
  rw[List.getLast?_eq_getElem?,List.getElem?_eq_getElem (by omega)]
theorem aGf {l:List Sp} (h:0<l.length) (x:Sp):l.dropLast++[x]=l.set (l.length - 1) x:=by
  rcases List.eq_nil_or_concat l with rfl | ⟨i,y,rfl⟩
  · simp at h
  · rw[List.concat_eq_append,List.dropLast_concat]
    simp
theorem uU {out:List Sp} {s:Sp} (h:0<out.length) (h1:s.1≤(out[out.length - 1]'(by omega)).2):dG out s=out.set (out.length - 1) ((out[out.length - 1]'(by omega)).1,max (out[out.length - 1]'(by omega)).2 s.2):=by
  simp only[dG,rW h]
  rw[if_pos h1,aGf h]
theorem uV {out:List Sp} {s:Sp} (h:0<out.length) (h1:¬ s.1≤(out[out.length - 1]'(by omega)).2):dG out s=out++[s]:=by
  simp only[dG,rW h]
  rw[if_neg h1]
theorem qK (out:List Sp) (s:Sp):(dG out s).length≤out.length+1:=by
  by_cases h:0<out.length
  · by_cases h1:s.1≤(out[out.length - 1]'(by omega)).2
    · rw[uU h h1]; simp
    · rw[uV h h1]; simp
  · have:out=[]:=List.eq_nil_of_length_eq_zero (by omega)
    subst this; simp [dG]
theorem aSe:Go.Sort.SWO (fun x y:Sp=>decide (iN x.1 y.1<0)):=by
  have h:∀ x y:Sp,decide (iN x.1 y.1<0)=decide (x.1<y.1):=by
    intro x y
    unfold iN
    rw[Bool.eq_iff_iff]; simp only[decide_eq_true_eq]
    (repeat' split) <;> omega
  exact⟨fun x=>by rw[h]; simp,fun x y z=>by rw[h,h,h]; simp; omega,fun x y z=>by rw[h,h,h]; simp; omega⟩
theorem cmpI_le {x y:Int} (h:¬ iN y x<0):x≤y:=by
  unfold iN at h
  split at h
  · omega
  · omega
def sY (s:Sp):Bool:=decide (s.2≤s.1)
theorem aD8 (l:List Sp):(l.filter fun x=>!sY x)=l.filter uG:=by
  congr 1; funext x; unfold sY uG; rw[Bool.eq_iff_iff]; simp
theorem aPt {l ms:List Sp} (hp:ms.Perm (l.filter fun x=>!sY x)) (hs:ms.Pairwise (fun x y=>¬ iN y.1 x.1<0)):ms.foldl dG []=oE l:=by
  rw[aD8] at hp
  exact aMl hp (hs.imp fun h=>cmpI_le h)
def aIo (n:Int):List AV:=[.s (.int .i64 n)]
def aAl (l:List Int) (n:Int) (k:Nat) (out:List Int) (done:Bool):Prop:=jV l n=out++(if done=true then l.drop k else jV (l.drop k) n)∧out.length≤k+(if done=true then 1 else 0)
theorem aPg (l:List Int) (n:Int):aAl l n 0 [] false:=⟨by simp,by simp⟩
theorem put_le {l:List Int} {n:Int} {k:Nat} {out:List Int} {done:Bool} (h:aAl l n k out done):out.length≤k+1:=by
  have:=h.2; split at this <;> omega
theorem put_eq {l:List Int} {n:Int} {k:Nat} {out:List Int} {done:Bool} (h:aAl l n k out done) (hk:k<l.length) (e:l[k]=n):aAl l n (k+1) (out++[l[k]]) true:=by
  obtain ⟨h1,h2⟩:=h
  refine⟨?_,?_⟩
  · rw[h1,List.drop_eq_getElem_cons hk]
    have:jV (l[k]::l.drop (k+1)) n=l[k]::l.drop (k+1):=by simp only[jV]; rw[if_neg (by omega),if_pos e]
    rw[this,ite_self]; simp only[List.append_assoc,List.singleton_append,if_true]
  · simp only[List.length_append,List.length_cons,List.length_nil,if_true]
    split at h2 <;> omega
theorem aRg {l:List Int} {n:Int} {k:Nat} {out:List Int} {done:Bool} (hd:done=true) (h:aAl l n k out done) (hk:k<l.length):aAl l n (k+1) (out++[l[k]]) done:=by
  subst hd
  obtain ⟨h1,h2⟩:=h
  simp only[if_true] at h1 h2
  refine⟨?_,by simp; omega⟩
  rw[h1,List.drop_eq_getElem_cons hk]; simp
theorem put_ins {l:List Int} {n:Int} {k:Nat} {out:List Int} {done:Bool} (hd:done=false) (h:aAl l n k out done) (hk:k<l.length) (e:n<l[k]):aAl l n (k+1) (out++[n]++[l[k]]) true:=by
  subst hd
  obtain ⟨h1,h2⟩:=h
  simp only[Bool.false_eq_true,if_false] at h1 h2
  refine⟨?_,by simp; omega⟩
  rw[h1,List.drop_eq_getElem_cons hk]
  simp only[jV]; rw[if_pos e]; simp
theorem put_go {l:List Int} {n:Int} {k:Nat} {out:List Int} {done:Bool} (hd:done=false) (h:aAl l n k out done) (hk:k<l.length) (e:¬ n<l[k]) (e2:¬ l[k]=n):aAl l n (k+1) (out++[l[k]]) done:=by
  subst hd
  obtain ⟨h1,h2⟩:=h
  simp only[Bool.false_eq_true,if_false] at h1 h2
  refine⟨?_,by simp; omega⟩
  rw[h1,List.drop_eq_getElem_cons hk]
  simp only[jV]; rw[if_neg e,if_neg e2]; simp
theorem aOh {l:List Int} {n:Int} {k:Nat} {out:List Int} {done:Bool} (h:aAl l n k out done) (hk:l.length≤k):jV l n=out++(if done=true then [] else [n]):=by
  rw[h.1,List.drop_eq_nil_of_le hk]; simp [jV]
def aOr (out:List Int) (s:Sp):List Int:=jV (jV out s.1) s.2
theorem cN {out:List Sp} {s:Sp} (h:0<out.length) (e:(out[out.length - 1]'(by omega)).2=s.1):eB out s=out.take (out.length - 1)++[((out[out.length - 1]'(by omega)).1,s.2)]:=by
  simp only[eB,rW h]
  rw[if_pos e,List.dropLast_eq_take]
theorem aMt {out:List Sp} {s:Sp} (h:0<out.length) (e:¬ (out[out.length - 1]'(by omega)).2=s.1):eB out s=out++[s]:=by
  simp only[eB,rW h]
  rw[if_neg e]
theorem wK (p:Int→Bool) (out:List Sp) (e:List Int) (k:Nat) (h:k+1<e.length):gM p out (e.drop k)=gM p (if p e[k]=true then eB out (e[k],e[k+1]) else out) (e.drop (k+1)):=by
  rw[List.drop_eq_getElem_cons (show k<e.length by omega),List.drop_eq_getElem_cons h]
  rfl
theorem aH4 (p:Int→Bool) (out:List Sp) (e:List Int) (k:Nat) (h:e.length≤k+1):gM p out (e.drop k)=out:=by
  have:(e.drop k).length≤1:=by simp; omega
  generalize e.drop k=q at this
  match q,this with
  | [],_=>rfl
  | [a],_=>rfl
section
variable {P:Program}
theorem hY {t:TypeId} {k:IntKind} {a b:Int} (h:a=b):tH P .eql t (.int k a) (.int k b)=some (.bool true):=by
  subst h; simp [tH,yE]
end
end Go.Abs
set_option linter.unusedSimpArgs false
namespace Go.Abs
end Go.Abs
set_option linter.unusedVariables false
set_option linter.unusedSimpArgs false
namespace Go.Abs
open Go
end Go.Abs
set_option linter.unusedVariables false
set_option linter.unusedSimpArgs false
namespace Go.Abs
abbrev Pr:=ByteArray×ByteArray
abbrev En:=Pr×Sp
def prC (p:Pr):List AV:=[.s (.string p.1),.s (.string p.2)]
def enC (e:En):List AV:=[.s (.string e.1.1),.s (.string e.1.2),.s (.int .i64 e.2.1),.s (.int .i64 e.2.2)]
theorem cmpI_tri:Tri iN:=by
  refine⟨fun x y=>?_,fun x y=>?_,fun x y z=>?_⟩ <;> unfold iN <;> (repeat' split) <;> omega
theorem cmpB_tri:Tri eA:=⟨pI,mW,fun _ _ _=>aEb⟩
def qW (p q:Pr):Int:=uE p.1 p.2 q.1 q.2
theorem aEw:qW=tD (fun p q:Pr=>eA p.1 q.1) (fun p q=>eA p.2 q.2):=by
  funext p q
  simp only[qW,uE,orI,tD]
  (repeat' split) <;> simp_all
theorem pairC_tri:Tri qW:=by
  rw[aEw]
  exact(cmpB_tri.comap Prod.fst).lex (cmpB_tri.comap Prod.snd)
theorem aB2 {p q:Pr}:qW p q=0↔p=q:=by
  rw[aEw,rB,kQ,kQ,Prod.ext_iff]
def mG (a b:En):Int:=orI [qW a.1 b.1,iN a.2.1 b.2.1]
theorem sV:mG=tD (fun a b:En=>qW a.1 b.1) (fun a b=>iN a.2.1 b.2.1):=by
  funext p q
  simp only[mG,orI,tD]
  (repeat' split) <;> simp_all
theorem ordE_tri:Tri mG:=by
  rw[sV]
  exact(pairC_tri.comap Prod.fst).lex (cmpI_tri.comap fun a:En=>a.2.1)
def dY (p:Pr) (e:En):Bool:=decide (e.1=p)&&decide (e.2.2=1099511627776)
def onB (l:List En) (p:Pr):Bool:=l.any (dY p)
theorem onB_iff {l:List En} {p:Pr}:onB l p=true↔∃ e∈l,e.1=p∧e.2.2=1099511627776:=by simp [onB,dY]
def xZ:List En→En→List En
  | [],e=>[e]
  | x::l,e=>if 0<mG x e then e::x::l else x::xZ l e
theorem wS (e:En):∀ (l:List En) (k:Nat),k≤l.length→(∀ (j:Nat) (hj:j<l.length),j<k→¬ 0<mG l[j] e)→(∀ (h:k<l.length),0<mG l[k] e)→xZ l e=l.take k++e::l.drop k
  | [],k,hk,_,_=>by
                          have:k=0:=by simpa using hk
                          subst this; rfl
  | x::l,0,_,_,h=>by have:=h (by simp); simp only[List.getElem_cons_zero] at this; simp [xZ,this]
  | x::l,k+1,hk,h1,h2=>by
    have hx:=h1 0 (by simp) (by omega)
    simp only[List.getElem_cons_zero] at hx
    rw[xZ,if_neg hx,wS e l k (by simpa using hk) (fun j hj hjk=>by have:=h1 (j+1) (by simpa using hj) (by omega); simpa using this) (fun h=>by have:=h2 (by simpa using h); simpa using this)]
    rfl
theorem aIw (e:En):∀ l:List En,(xZ l e).length=l.length+1
  | []=>rfl
  | x::l=>by rw[xZ]; split <;> simp [aIw e l]
theorem rE {e x:En}:∀ {l:List En},x∈xZ l e↔x=e∨x∈l
  | []=>by simp [xZ]
  | y::l=>by
    rw[xZ]; split
    · simp
    · simp only[List.mem_cons,rE (l:=l)]
      constructor
      · rintro (h | h | h) <;> simp [h]
      · rintro (h | h | h) <;> simp [h]
def gN (l:List En) (p:Pr) (t:Int):List En:=xZ l (p,(t,1099511627776))
def nI (e:En) (t:Int):List En:=if t≤e.2.1 then [] else [(e.1,(e.2.1,t))]
def jH:List En→Pr→Int→List En
  | [],_,_=>[]
  | e::l,p,t=>if dY p e=true then nI e t++l else e::jH l p t
theorem aAr (p:Pr) (t:Int):∀ (l:List En) (k:Nat) (hk:k<l.length),(∀ (j:Nat) (hj:j<l.length),j<k→dY p l[j]=false)→dY p l[k]=true→jH l p t=l.take k++(nI l[k] t++l.drop (k+1))
  | [],k,hk,_,_=>by simp at hk
  | x::l,0,_,_,h=>by simp only[List.getElem_cons_zero] at h; simp [jH,h]
  | x::l,k+1,hk,h1,h2=>by
    have hx:=h1 0 (by simp) (by omega)
    simp only[List.getElem_cons_zero] at hx
    rw[jH,if_neg (by simp [hx]),aAr p t l k (by simpa using hk) (fun j hj hjk=>by have:=h1 (j+1) (by simpa using hj) (by omega); simpa using this) (by simpa using h2)]
    rfl
def ofB (p:Pr) (e:En):Bool:=decide (e.1=p)
def qV (l:List En) (p:Pr):List Sp:=oE ((l.filter (ofB p)).map Prod.snd)
def mQ (u:ByteArray) (e:En):Bool:=nJ e.1.1 e.1.2 u
def okE (e:En):Bool:=decide (e.2.1<e.2.2)&&(dD e.1.1&&dD e.1.2)
def aRs (a b:En):Bool:=decide (mG a b<0)&&!(decide (a.1=b.1)&&decide (b.2.1<a.2.2))
def aFs (l:List En):Bool:=aDr okE aRs none l
end Go.Abs
set_option linter.unusedVariables false
set_option linter.unusedSimpArgs false
namespace Go.Abs
abbrev bP:=Sp×(Int×Int)
def stC (s:bP):List AV:=[.s (.int .i64 s.1.1),.s (.int .i64 s.1.2),.s (.int .i64 s.2.1),.s (.int .i64 s.2.2)]
def iP (a b:bP):Int:=orI [iN a.1.1 b.1.1,iN a.1.2 b.1.2,iN a.2.1 b.2.1,iN a.2.2 b.2.2]
theorem aJn:iP=tD (fun a b:bP=>iN a.1.1 b.1.1) (tD (fun a b=>iN a.1.2 b.1.2) (tD (fun a b=>iN a.2.1 b.2.1) (fun a b=>iN a.2.2 b.2.2))):=by
  funext p q
  simp only[iP,orI,tD]
  (repeat' split) <;> simp_all
theorem cmpS_tri:Tri iP:=by
  rw[aJn]
  exact(cmpI_tri.comap fun a:bP=>a.1.1).lex ((cmpI_tri.comap fun a:bP=>a.1.2).lex ((cmpI_tri.comap fun a:bP=>a.2.1).lex (cmpI_tri.comap fun a:bP=>a.2.2)))
theorem qC {a b:Int}:iN a b=0↔a=b:=by unfold iN; (repeat' split) <;> omega
theorem aGi {a b:bP}:iP a b=0↔a=b:=by
  rw[aJn,rB,rB,rB,qC,qC,qC,qC,Prod.ext_iff,Prod.ext_iff,Prod.ext_iff,and_assoc]
def okS (s:bP):Bool:=decide (s.1.1<s.1.2)
def nextS (a b:bP):Bool:=decide (iP a b<0)
def aDq (l:List bP):Bool:=aDr okS nextS none l
theorem wA (l:List bP):aDq l=true↔(∀ x∈l,okS x=true)∧l.Pairwise fun a b=>iP a b<0:=by
  rw[aDq,qU (fun a b=>iP a b<0) (fun x y=>by simp [nextS]) (fun x y z _ h1 h2=>cmpS_tri.lt_tr h1 h2)]
  simp
theorem vG {α:Type} {c:α→α→Int} (hc:Tri c) (h0:∀ x y,c x y=0→x=y):∀ {a b:List α},Srt c a→Srt c b→a.Perm b→a=b
  | [],b,_,_,hp=>by have:=hp.length_eq; exact(List.eq_nil_of_length_eq_zero (by simpa using this.symm)).symm
  | x::a,[],_,_,hp=>by have:=hp.length_eq; simp at this
  | x::a,y::b,ha,hb,hp=>by
    have e:x=y:=by
      have h1:x∈y::b:=hp.mem_iff.1 (by simp)
      have h2:y∈x::a:=hp.mem_iff.2 (by simp)
      rcases List.mem_cons.1 h1 with e | h1
      · exact e
      · rcases List.mem_cons.1 h2 with e | h2
        · exact e.symm
        · have e1:=(List.pairwise_cons.1 ha).1 y h2
          have e2:=(List.pairwise_cons.1 hb).1 x h1
          have:=hc.swap x y
          exact h0 x y (by omega)
    subst e
    rw[vG hc h0 (List.pairwise_cons.1 ha).2 (List.pairwise_cons.1 hb).2 (List.Perm.cons_inv hp)]
def aF5:List bP→bP→List bP
  | [],x=>[x]
  | y::r,x=>if iP x y<0 then x::y::r else y::aF5 r x
theorem yA (x:bP):∀ l:List bP,(aF5 l x).Perm (x::l)
  | []=>.refl _
  | y::l=>by
    rw[aF5]; split
    · exact .refl _
    · exact((yA x l).cons y).trans (List.Perm.swap x y l)
theorem aIx {x:bP}:∀ {l:List bP},Srt iP l→Srt iP (aF5 l x)
  | [],_=>List.pairwise_singleton _ _
  | y::l,h=>by
    obtain ⟨h1,h2⟩:=List.pairwise_cons.1 h
    rw[aF5]; split
    · rename_i h0
      refine List.pairwise_cons.2 ⟨fun z hz=>?_,h⟩
      rcases List.mem_cons.1 hz with rfl | hz
      · omega
      · exact cmpS_tri.tr x y z (by omega) (h1 z hz)
    · rename_i h0
      refine List.pairwise_cons.2 ⟨fun z hz=>?_,aIx h2⟩
      rcases List.mem_cons.1 ((yA x l).mem_iff.1 hz) with rfl | hz
      · have:=cmpS_tri.swap z y; omega
      · exact h1 z hz
def aHf (l:List bP):List bP:=l.foldl aF5 []
theorem aBj:∀ (l out:List bP),Srt iP out→Srt iP (l.foldl aF5 out)∧(l.foldl aF5 out).Perm (out++l)
  | [],out,h=>⟨h,by simp⟩
  | x::l,out,h=>by
    obtain ⟨h1,h2⟩:=aBj l (aF5 out x) (aIx h)
    exact⟨h1,h2.trans (((yA x out).append_right l).trans List.perm_middle.symm)⟩
theorem aO8 (l:List bP):Srt iP (aHf l):=(aBj l [] List.Pairwise.nil).1
theorem aBk (l:List bP):(aHf l).Perm l:=(aBj l [] List.Pairwise.nil).2
theorem aRa {l t:List bP} (hp:t.Perm l) (hs:Srt iP t):t=aHf l :=
  vG cmpS_tri (fun _ _ h=>aGi.1 h) hs (aO8 l) (hp.trans (aBk l).symm)
theorem aO9 (l:List bP):(aHf l).length=l.length:=(aBk l).length_eq
def aAf:List bP→bP→List bP
  | [],s=>[s]
  | x::l,s=>if (x::l).all (fun y=>decide (0<iP y s))=true then s::x::l else x::aAf l s
theorem aAw (s:bP):∀ (l:List bP) (k:Nat),k≤l.length→(∀ (j:Nat) (hj:j<l.length),k≤j→0<iP l[j] s)→(∀ (h0:0<k) (h:k - 1<l.length),iP l[k - 1] s≤0)→aAf l s=l.take k++s::l.drop k
  | [],k,hk,_,_=>by
                          have:k=0:=by simpa using hk
                          subst this; rfl
  | x::l,0,_,h,_=>by
    rw[aAf,if_pos]
    · rfl
    · rw[List.all_eq_true]
      intro y hy
      obtain ⟨j,hj,rfl⟩:=List.mem_iff_getElem.1 hy
      simpa using h j hj (Nat.zero_le _)
  | x::l,k+1,hk,h1,h2=>by
    have hn:=h2 (by omega) (by simp at hk ⊢; omega)
    rw[aAf,if_neg]
    · rw[aAw s l k (by simpa using hk) (fun j hj hkj=>by have:=h1 (j+1) (by simpa using hj) (by omega); simpa using this) (fun h0 h=>by
        have e:(x::l)[k+1 - 1]'(by simp at hk ⊢; omega)=l[k - 1]'h:=by
          simp only[Nat.add_sub_cancel]
          obtain ⟨k',rfl⟩:∃ k',k=k'+1:=⟨k - 1,by omega⟩
          simp
        rw[e] at hn; exact hn)]
      rfl
    · rw[List.all_eq_true]
      intro hall
      have:=hall _ (List.getElem_mem (show k+1 - 1<(x::l).length by simp at hk ⊢; omega))
      simp only[decide_eq_true_eq] at this
      omega
theorem gZ (s:bP):∀ l:List bP,(aAf l s).Perm (s::l)
  | []=>.refl _
  | x::l=>by
    rw[aAf]; split
    · exact .refl _
    · exact((gZ s l).cons x).trans (List.Perm.swap s x l)
theorem aCh (l:List bP) (s:bP):(aAf l s).length=l.length+1:=by simpa using (gZ s l).length_eq
theorem pE {s:bP}:∀ {l:List bP},Srt iP l→Srt iP (aAf l s)
  | [],_=>List.pairwise_singleton _ _
  | x::l,h=>by
    obtain ⟨h1,h2⟩:=List.pairwise_cons.1 h
    rw[aAf]; split
    · rename_i h0
      rw[List.all_eq_true] at h0
      refine List.pairwise_cons.2 ⟨fun z hz=>?_,h⟩
      have:=h0 z hz
      simp only[decide_eq_true_eq] at this
      have:=cmpS_tri.swap z s; omega
    · rename_i h0
      refine List.pairwise_cons.2 ⟨fun z hz=>?_,pE h2⟩
      rcases List.mem_cons.1 ((gZ s l).mem_iff.1 hz) with rfl | hz
      · -- some one of the row is not above it: so the first one is not
        have h3:∃ y∈x::l,¬ 0<iP y z:=by
          apply Classical.byContradiction
          intro hn
          exact h0 (List.all_eq_true.2 fun y hy=>by
            simp only[decide_eq_true_eq]
            apply Classical.byContradiction
            intro hh
            exact hn ⟨y,hy,hh⟩)
        obtain ⟨y,hy,hyz⟩:=h3
        rcases List.mem_cons.1 hy with rfl | hy
        · omega
        · exact cmpS_tri.tr x y z (h1 y hy) (by omega)
      · exact h1 z hz
def iC (l:List bP) (s:bP):List bP:=if s.1.2≤s.1.1 then l else aAf l s
theorem aC5 (l:List bP) (s:bP):(iC l s).length≤l.length+1:=by
  unfold iC; split
  · omega
  · rw[aCh]; omega
theorem aEn {l:List bP} (h:l.Pairwise fun a b=>iP a b<0):Srt iP l:=h.imp fun h=>by omega
theorem ris_add {l:List bP} {s:bP} (h:aDq l=true):aDq (iC l s)=!(l.any fun y=>decide (y=s)):=by
  obtain ⟨h1,h2⟩:=(wA l).1 h
  unfold iC
  split
  · rename_i h0
    have:l.any (fun y=>decide (y=s))=false:=by
      rw[Bool.eq_false_iff]; intro ha
      obtain ⟨y,hy,e⟩:=List.any_eq_true.1 ha
      simp only[decide_eq_true_eq] at e
      subst e
      have:=h1 y hy
      simp only[okS,decide_eq_true_eq] at this; omega
    rw[this,h]; rfl
  · rename_i h0
    have hs:=pE (s:=s) (aEn h2)
    cases ha:l.any (fun y=>decide (y=s))
    · rw[Bool.not_false,wA]
      refine⟨fun x hx=>?_,?_⟩
      · rcases List.mem_cons.1 ((gZ s l).mem_iff.1 hx) with rfl | hx
        · simp only[okS,decide_eq_true_eq]; omega
        · exact h1 x hx
      · have hnd:(aAf l s).Nodup:=by
          rw[(gZ s l).nodup_iff]
          refine List.nodup_cons.2 ⟨fun hm=>?_,?_⟩
          · rw[Bool.eq_false_iff] at ha
            exact ha (List.any_eq_true.2 ⟨s,hm,by simp⟩)
          · exact h2.imp fun {a b} h e=>by subst e; have:=cmpS_tri.self a; omega
        refine(List.Pairwise.and hs hnd).imp fun {a b} ⟨h3,h4⟩=>?_
        rcases Int.lt_or_eq_of_le h3 with e | e
        · exact e
        · exact absurd (aGi.1 e) h4
    · rw[Bool.not_true,Bool.eq_false_iff]
      intro hr
      obtain ⟨y,hy,e⟩:=List.any_eq_true.1 ha
      simp only[decide_eq_true_eq] at e
      subst e
      have hnd:(aAf l y).Nodup:=((wA _).1 hr).2.imp fun {a b} h e=>by subst e; have:=cmpS_tri.self a; omega
      rw[(gZ y l).nodup_iff] at hnd
      exact(List.nodup_cons.1 hnd).1 hy
theorem add_comm {l:List bP} {a b:bP} (h:aDq l=true):iC (iC l a) b=iC (iC l b) a:=by
  have hs:=aEn ((wA l).1 h).2
  unfold iC
  split <;> split <;> try rfl
  exact vG cmpS_tri (fun _ _ h=>aGi.1 h) (pE (pE hs)) (pE (pE hs)) (((gZ _ _).trans ((gZ _ _).cons _)).trans ((List.Perm.swap _ _ _).trans (((gZ _ _).trans ((gZ _ _).cons _)).symm)))
theorem aAx {a b:Int}:iN a b<0↔a<b:=by unfold iN; (repeat' split) <;> omega
theorem oN (a:Int):iN a a=0:=qC.2 rfl
theorem ah1 {a b:bP} (h:¬ a.1.1=b.1.1):decide (a.1.1<b.1.1)=decide (iP a b<0):=by
  have:iP a b=iN a.1.1 b.1.1:=by rw[iP,orI,if_pos (fun e=>h (qC.1 e))]
  rw[this,Bool.eq_iff_iff,decide_eq_true_eq,decide_eq_true_eq,aAx]
theorem ah2 {a b:bP} (h1:a.1.1=b.1.1) (h:¬ a.1.2=b.1.2):decide (a.1.2<b.1.2)=decide (iP a b<0):=by
  have:iP a b=iN a.1.2 b.1.2:=by rw[iP,h1,oN,orI,if_neg (by simp),orI,if_pos (fun e=>h (qC.1 e))]
  rw[this,Bool.eq_iff_iff,decide_eq_true_eq,decide_eq_true_eq,aAx]
theorem ah3 {a b:bP} (h1:a.1.1=b.1.1) (h2:a.1.2=b.1.2) (h:¬ a.2.1=b.2.1):decide (a.2.1<b.2.1)=decide (iP a b<0):=by
  have:iP a b=iN a.2.1 b.2.1:=by rw[iP,h1,h2,oN,oN,orI,if_neg (by simp),orI,if_neg (by simp),orI,if_pos (fun e=>h (qC.1 e))]
  rw[this,Bool.eq_iff_iff,decide_eq_true_eq,decide_eq_true_eq,aAx]
theorem ah4 {a b:bP} (h1:a.1.1=b.1.1) (h2:a.1.2=b.1.2) (h3:a.2.1=b.2.1):decide (a.2.2<b.2.2)=decide (iP a b<0):=by
  have:iP a b<0↔iN a.2.2 b.2.2<0:=by
    rw[iP,h1,h2,h3,oN,oN,oN,orI,if_neg (by simp),orI,if_neg (by simp),orI,if_neg (by simp),orI,orI]
    split
    · exact Iff.rfl
    · rename_i h; omega
  rw[Bool.eq_iff_iff,decide_eq_true_eq,decide_eq_true_eq,this,aAx]
theorem vC {α β:Type} (l:List α) (f:α→List β) (k:Nat) (h:k<l.length):(l.take (k+1)).flatMap f=(l.take k).flatMap f++f l[k]:=by
  rw[← List.take_append_getElem h,List.flatMap_append]; simp
end Go.Abs
set_option linter.unusedVariables false
set_option linter.unusedSimpArgs false
namespace Go.Proofs.YtijnkglkchhomaaGreat
open Go Go.Abs
theorem sL (g:Nat) (a1 u b1 v c1:List bP) (N:Nat) (za zb zn:Int) (hN:N=a1.length+u.length+b1.length+v.length+c1.length) (huv:v.length=u.length) (hza:za=(a1.length:Nat)) (hzb:zb=((a1.length+u.length+b1.length:Nat):Int)) (hzn:zn=(u.length:Nat)) (hM:N<4611686018427387904) :DenM Tryz.prog 241 [.own E0 4 0 N,.s (.int .i64 za),.s (.int .i64 zb),.s (.int .i64 zn),.fn g []] 4 ((List.map stC (a1++(u++(b1++(v++c1)))))) (fun r ys=>ys=(List.map stC (a1++(v++(b1++(u++c1)))))):=by
 subst hza
 subst hzb
 subst hzn
 refine gI Tryz.func241 rfl (Nat.le_of_ble_eq_true rfl) (fun w0 x0 A hf=>?_)
 refine aC (fun K1 hK1=>(aB (aE aA 1 rfl (aD (hK1 _ (aO (bS (ι:=Nat) (fun i=>⟨38,[(0,.own E0 4 0 N),(1,.s (.int .i64 (a1.length:Nat))),(2,.s (.int .i64 ((a1.length+u.length+b1.length:Nat):Int))),(3,.s (.int .i64 (u.length:Nat))),(10,.s (.int .i64 (i:Nat)))],[(E0,.buf 4 (List.map stC (swr a1 u b1 v c1 i)))]⟩) (fun i=>i≤u.length) (fun i=>u.length - i) 0 ?_ ?_ ?_)))))))
 · exact Nat.zero_le _
 · exact bT ⟨rfl,rfl,rfl,rfl,rfl,trivial⟩ (by simp [swr])
 ·
  rintro i hC
  have hsl:=swr_len (A:=a1) (B:=b1) (C:=c1) (i:=i) huv
  refine aC (fun K2 hK2=>(aC (fun K3 hK3=>(aB (aE aA 3 rfl (aD (hK3 _ (aI rfl (fun hc1=>?_) (fun hc1=>?_)))))))))
  ·
   simp only[bs] at hc1
   refine aL (hK2 _ (aC (fun K4 hK4=>(aO (eY bN ?_)))))
   refine bR (listed':=#[true,false,false,false,false,false,false,false,false,false,false,false,false,false,false,false,false,false,false,false,false,false,false,false]) 0 rfl (by kernel_rfl) (by kernel_rfl) (by kernel_rfl) rfl (fun _ _ h=>h) (dO rfl) ?_
   refine bR (listed':=#[true,true,false,false,false,false,false,false,false,false,false,false,false,false,false,false,false,false,false,false,false,false,false,false]) 1 rfl (by kernel_rfl) (by kernel_rfl) (by kernel_rfl) rfl (fun _ _ h=>h) (dO rfl) ?_
   refine bR (listed':=#[true,true,true,false,false,false,false,false,false,false,false,false,false,false,false,false,false,false,false,false,false,false,false,false]) 2 rfl (by kernel_rfl) (by kernel_rfl) (by kernel_rfl) rfl (fun _ _ h=>h) (dO rfl) ?_
   refine bR (listed':=#[true,true,true,true,false,false,false,false,false,false,false,false,false,false,false,false,false,false,false,false,false,false,false,false]) 3 rfl (by kernel_rfl) (by kernel_rfl) (by kernel_rfl) rfl (fun _ _ h=>h) (aEg rfl rfl (by omega) (by omega)) ?_
   refine bR (listed':=#[true,true,true,true,true,false,false,false,false,false,false,false,false,false,false,false,false,false,false,false,false,false,false,false]) 4 rfl (by kernel_rfl) (by kernel_rfl) (by kernel_rfl) rfl (fun _ _ h=>h) (dO rfl) ?_
   refine bR (listed':=#[true,true,true,true,true,true,false,false,false,false,false,false,false,false,false,false,false,false,false,false,false,false,false,false]) 5 rfl (by kernel_rfl) (by kernel_rfl) (by kernel_rfl) rfl (fun _ _ h=>h) (dO rfl) ?_
   refine bR (listed':=#[true,true,true,true,true,true,true,false,false,false,false,false,false,false,false,false,false,false,false,false,false,false,false,false]) 6 rfl (by kernel_rfl) (by kernel_rfl) (by kernel_rfl) rfl (fun _ _ h=>h) (dO rfl) ?_
   refine bR (listed':=#[true,true,true,true,true,true,true,true,false,false,false,false,false,false,false,false,false,false,false,false,false,false,false,false]) 7 rfl (by kernel_rfl) (by kernel_rfl) (by kernel_rfl) rfl (fun _ _ h=>h) (aEg rfl rfl (by omega) (by omega)) ?_
   refine bR (listed':=#[true,true,true,true,true,true,true,true,true,false,false,false,false,false,false,false,false,false,false,false,false,false,false,false]) 8 rfl (by kernel_rfl) (by kernel_rfl) (by kernel_rfl) rfl (fun _ _ h=>h) (dO rfl) ?_
   refine bR (listed':=#[true,true,true,true,true,true,true,true,true,true,false,false,false,false,false,false,false,false,false,false,false,false,false,false]) 9 rfl (by kernel_rfl) (by kernel_rfl) (by kernel_rfl) rfl (fun _ _ h=>h) (dO rfl) ?_
   refine bR (listed':=#[true,true,true,true,true,true,true,true,true,true,true,false,false,false,false,false,false,false,false,false,false,false,false,false]) 10 rfl (by kernel_rfl) (by kernel_rfl) (by kernel_rfl) rfl (fun _ _ h=>h) (dO rfl) ?_
   refine bR (listed':=#[true,true,true,true,true,true,true,true,true,true,true,true,false,false,false,false,false,false,false,false,false,false,false,false]) 11 rfl (by kernel_rfl) (by kernel_rfl) (by kernel_rfl) rfl (fun _ _ h=>h) (aEg rfl rfl (by omega) (by omega)) ?_
   refine bR (listed':=#[true,true,true,true,true,true,true,true,true,true,true,true,true,false,false,false,false,false,false,false,false,false,false,false]) 12 rfl (by kernel_rfl) (by kernel_rfl) (by kernel_rfl) rfl (fun _ _ h=>h) (kL rfl rfl cG aX (by omega)) ?_
   refine bR (listed':=#[true,true,true,true,true,true,true,true,true,true,true,true,true,false,true,false,false,false,false,false,false,false,false,false]) 14 rfl (by kernel_rfl) (by kernel_rfl) (by kernel_rfl) rfl (fun _ _ h=>h) (dO rfl) ?_
   refine bR (listed':=#[true,true,true,true,true,true,true,true,true,true,true,true,true,false,true,true,false,false,false,false,false,false,false,false]) 15 rfl (by kernel_rfl) (by kernel_rfl) (by kernel_rfl) rfl (fun _ _ h=>h) (dO rfl) ?_
   refine bR (listed':=#[true,true,true,true,true,true,true,true,true,true,true,true,true,false,true,true,true,false,false,false,false,false,false,false]) 16 rfl (by kernel_rfl) (by kernel_rfl) (by kernel_rfl) rfl (fun _ _ h=>h) (dO rfl) ?_
   refine bR (listed':=#[true,true,true,true,true,true,true,true,true,true,true,true,true,false,true,true,true,true,false,false,false,false,false,false]) 17 rfl (by kernel_rfl) (by kernel_rfl) (by kernel_rfl) rfl (fun _ _ h=>h) (aEg rfl rfl (by omega) (by omega)) ?_
   refine bR (listed':=#[true,true,true,true,true,true,true,true,true,true,true,true,true,false,true,true,true,true,true,false,false,false,false,false]) 18 rfl (by kernel_rfl) (by kernel_rfl) (by kernel_rfl) rfl (fun _ _ h=>h) (kL rfl rfl cG aX (by omega)) ?_
   refine lD (cD [0,1,2,3,10,16,19,20,23,28,34] rfl) (aH 13 [19] (by kernel_rfl) ⟨?_,?_,trivial⟩)
   ·
    refine⟨_,rfl,rfl,(ao rfl (aF rfl (bM rfl dS aX rfl (eI (k:=4) (enc:=stC) (z:=a1.length+u.length+b1.length+i) (by omega) (aAn huv (by omega)) rfl) (dR (k:=4) (enc:=stC) (z:=a1.length+u.length+b1.length+i) (by omega) (aAn huv (by omega)) rfl)) (aG (aH 19 [] (by kernel_rfl) ⟨?_,trivial⟩))))⟩
    ·
     refine⟨_,rfl,rfl,(ao rfl (aF rfl (bM rfl dS aX rfl (eI (k:=4) (enc:=stC) (z:=a1.length+i) (by omega) (aAo huv (by omega)) rfl) (dR (k:=4) (enc:=stC) (z:=a1.length+i) (by omega) (aAo huv (by omega)) rfl)) (aG (aH 20 [] (by kernel_rfl) ⟨?_,trivial⟩))))⟩
     ·
      refine⟨_,rfl,rfl,(ao rfl ?_)⟩
      refine aF rfl (bX rfl rfl cG aX (by omega)) ?_
      refine aG (aH 21 [] (by kernel_rfl) ⟨?_,trivial⟩)
      ·
       refine⟨_,rfl,rfl,(ao rfl (aP hf rfl rfl aX rfl rfl (by simp [stC,AV.cells,AV.one,Value.oneCell']) (by simp [stC,AV.cells,AV.leaf,Value.oneCell']) (eV (k:=4) (enc:=stC) (z:=a1.length+i) (v:=v[i]) (by omega) (by rw[hsl]; omega) rfl rfl rfl) ?_))⟩
       refine aG (aH 22 [] (by kernel_rfl) ⟨?_,trivial⟩)
       ·
        refine⟨_,rfl,rfl,(ao rfl ?_)⟩
        refine aF rfl (bX rfl rfl cG aX (by omega)) ?_
        refine aG (aH 23 [] (by kernel_rfl) ⟨?_,trivial⟩)
        ·
         refine⟨_,rfl,rfl,(ao rfl (aP hf rfl rfl aX rfl rfl (by simp [stC,AV.cells,AV.one,Value.oneCell']) (by simp [stC,AV.cells,AV.leaf,Value.oneCell']) (eV (k:=4) (enc:=stC) (z:=a1.length+u.length+b1.length+i) (v:=u[i]) (by omega) (by rw[List.length_set,hsl]; omega) rfl rfl rfl) ?_))⟩
         refine aG (bW (by kernel_rfl) ?_)
         refine hK4 _ (aB (aE aA 1 rfl ?_))
         refine aF rfl (bJ rfl rfl (by omega) (by omega)) ?_
         refine aE aA 1 rfl (aD ?_)
         exact⟨i+1,by omega,by omega,bT ⟨rfl,rfl,rfl,rfl,rfl,trivial⟩ (by rw[← aHb huv (by omega)]; rfl)⟩
   ·
    refine⟨_,rfl,rfl,(ao rfl (aF rfl (bM rfl dS aX rfl (eI (k:=4) (enc:=stC) (z:=a1.length+i) (by omega) (aAo huv (by omega)) rfl) (dR (k:=4) (enc:=stC) (z:=a1.length+i) (by omega) (aAo huv (by omega)) rfl)) (aG (aH 13 [] (by kernel_rfl) ⟨?_,trivial⟩))))⟩
    ·
     refine⟨_,rfl,rfl,(ao rfl (aF rfl (bM rfl dS aX rfl (eI (k:=4) (enc:=stC) (z:=a1.length+u.length+b1.length+i) (by omega) (aAn huv (by omega)) rfl) (dR (k:=4) (enc:=stC) (z:=a1.length+u.length+b1.length+i) (by omega) (aAn huv (by omega)) rfl)) (aG (aH 20 [] (by kernel_rfl) ⟨?_,trivial⟩))))⟩
     ·
      refine⟨_,rfl,rfl,(ao rfl ?_)⟩
      refine aF rfl (bX rfl rfl cG aX (by omega)) ?_
      refine aG (aH 21 [] (by kernel_rfl) ⟨?_,trivial⟩)
      ·
       refine⟨_,rfl,rfl,(ao rfl (aP hf rfl rfl aX rfl rfl (by simp [stC,AV.cells,AV.one,Value.oneCell']) (by simp [stC,AV.cells,AV.leaf,Value.oneCell']) (eV (k:=4) (enc:=stC) (z:=a1.length+i) (v:=v[i]) (by omega) (by rw[hsl]; omega) rfl rfl rfl) ?_))⟩
       refine aG (aH 22 [] (by kernel_rfl) ⟨?_,trivial⟩)
       ·
        refine⟨_,rfl,rfl,(ao rfl ?_)⟩
        refine aF rfl (bX rfl rfl cG aX (by omega)) ?_
        refine aG (aH 23 [] (by kernel_rfl) ⟨?_,trivial⟩)
        ·
         refine⟨_,rfl,rfl,(ao rfl (aP hf rfl rfl aX rfl rfl (by simp [stC,AV.cells,AV.one,Value.oneCell']) (by simp [stC,AV.cells,AV.leaf,Value.oneCell']) (eV (k:=4) (enc:=stC) (z:=a1.length+u.length+b1.length+i) (v:=u[i]) (by omega) (by rw[List.length_set,hsl]; omega) rfl rfl rfl) ?_))⟩
         refine aG (bW (by kernel_rfl) ?_)
         refine hK4 _ (aB (aE aA 1 rfl ?_))
         refine aF rfl (bJ rfl rfl (by omega) (by omega)) ?_
         refine aE aA 1 rfl (aD ?_)
         exact⟨i+1,by omega,by omega,bT ⟨rfl,rfl,rfl,rfl,rfl,trivial⟩ (by rw[← aHb huv (by omega)]; rfl)⟩
  ·
   simp only[bs] at hc1
   refine bA ?_
   refine⟨_,_,_,Le.refl _,rfl,rfl,?_⟩
   have hi:i=u.length:=by omega
   rw[hi,swr,← huv,List.take_length,List.drop_length,huv,List.take_length,List.drop_length,List.append_nil,List.append_nil]
theorem aL7 (g:Nat) (p s1 s2 q:List bP) (N:Nat) (za zm zb:Int) (hN:N=p.length+s1.length+s2.length+q.length) (hza:za=(p.length:Nat)) (hzm:zm=((p.length+s1.length:Nat):Int)) (hzb:zb=((p.length+s1.length+s2.length:Nat):Int)) (h01:0<s1.length) (h02:0<s2.length) (hM:N<4611686018427387904) :DenM Tryz.prog 234 [.own E0 4 0 N,.s (.int .i64 za),.s (.int .i64 zm),.s (.int .i64 zb),.fn g []] 4 ((List.map stC (p++(s1++(s2++q))))) (fun r ys=>ys=(List.map stC (p++(s2++(s1++q))))):=by
 subst hza
 subst hzm
 subst hzb
 refine gI Tryz.func234 rfl (Nat.le_of_ble_eq_true rfl) (fun w0 x0 A hf=>?_)
 refine aC (fun K1 hK1=>(aB (aE aA 2 rfl ?_)))
 refine aF rfl (fE rfl rfl (by omega) (by omega)) ?_
 refine aE aA 1 rfl (aD (hK1 _ (aC (fun K2 hK2=>(aB (aE aA 2 rfl ?_))))))
 refine aF rfl (fE rfl rfl (by omega) (by omega)) ?_
 refine aE aA 1 rfl (aD (hK2 _ (aC (fun K3 hK3=>(aO (bS (ι:=(List bP×List bP)×(List bP×List bP)) (fun(⟨⟨L,u⟩,⟨v,R⟩⟩:(List bP×List bP)×(List bP×List bP))=>⟨58,[(0,.own E0 4 0 N),(2,.s (.int .i64 ((p.length+s1.length:Nat):Int))),(4,.fn g []),(10,.s (.int .i64 (u.length:Nat))),(11,.s (.int .i64 (v.length:Nat)))],[(E0,.buf 4 (List.map stC (L++(u++(v++R)))))]⟩) (fun(⟨⟨L,u⟩,⟨v,R⟩⟩:(List bP×List bP)×(List bP×List bP))=>L.length+u.length=p.length+s1.length∧0<u.length∧0<v.length∧L++(v++(u++R))=p++(s2++(s1++q))) (fun(⟨⟨L,u⟩,⟨v,R⟩⟩:(List bP×List bP)×(List bP×List bP))=>u.length+v.length) ((p,s1),(s2,q)) ?_ ?_ ?_))))))
 · exact⟨rfl,h01,h02,rfl⟩
 · exact bT ⟨rfl,rfl,rfl,aM (by omega),aM (by omega),trivial⟩ rfl
 ·
  rintro ⟨⟨L,u⟩,⟨v,R⟩⟩ hC
  obtain ⟨hl,hu,hv,ht⟩:=hC
  have htl:=congrArg List.length ht
  simp only[List.length_append] at htl
  have hf1:=List.length_take (i:=v.length) (l:=u)
  have hf2:=List.length_drop (i:=v.length) (l:=u)
  have hf3:=List.length_take (i:=v.length - u.length) (l:=v)
  have hf4:=List.length_drop (i:=v.length - u.length) (l:=v)
  refine aC (fun K4 hK4=>(aC (fun K5 hK5=>(aB (aE aA 3 rfl (aD (hK5 _ (aI rfl (fun hc1=>?_) (fun hc1=>?_)))))))))
  ·
   simp only[bs] at hc1
   refine aL (hK4 _ (aO (aC (fun K6 hK6=>(aB (aE aA 3 rfl (aD (hK6 _ (aI rfl (fun hc2=>?_) (fun hc2=>?_))))))))))
   ·
    simp only[bs] at hc2
    refine aC (fun K7 hK7=>(aB ?_))
    rw[show L++(u++(v++R))=L++(u.take v.length++(u.drop v.length++(v++R))) from by rw[← List.append_assoc (u.take v.length),List.take_append_drop]]
    refine aE aA 3 rfl ?_
    refine aF rfl (fE rfl rfl (by omega) (by omega)) ?_
    refine aE aA 3 rfl (gA hf E0 rfl rfl rfl rfl rfl tJ (sL g L (u.take v.length) (u.drop v.length) v R N _ _ _ (by omega) (by omega) (by omega) (by omega) (by omega) hM) ?_)
    rintro r zs rfl
    refine aD (hK7 _ (aB (aE aA 2 rfl ?_)))
    refine aF rfl (fE rfl rfl (by omega) (by omega)) ?_
    refine aE aA 1 rfl ?_
    refine bB ?_
    exact⟨((L++v,u.drop v.length),(u.take v.length,R)),⟨by rw[List.length_append]; omega,by omega,by omega,by rw[← ht]; simp [← List.append_assoc (u.take v.length)]⟩,by simp only; omega,bT ⟨rfl,rfl,rfl,aM (by omega),aM (by omega),trivial⟩ (by rw[List.append_assoc L v]; rfl)⟩
   ·
    simp only[bs] at hc2
    refine aC (fun K8 hK8=>(aB ?_))
    rw[show L++(u++(v++R))=L++(u++(v.take (v.length - u.length)++(v.drop (v.length - u.length)++R))) from by rw[← List.append_assoc (v.take (v.length - u.length)),List.take_append_drop]]
    refine aE aA 3 rfl ?_
    refine aF rfl (fE rfl rfl (by omega) (by omega)) ?_
    refine aE aA 2 rfl ?_
    refine aF rfl (bJ rfl rfl (by omega) (by omega)) ?_
    refine aE aA 1 rfl ?_
    refine aF rfl (fE rfl rfl (by omega) (by omega)) ?_
    refine aE aA 2 rfl (gA hf E0 rfl rfl rfl rfl rfl tJ (sL g L u (v.take (v.length - u.length)) (v.drop (v.length - u.length)) R N _ _ _ (by omega) (by omega) (by omega) (by omega) (by omega) hM) ?_)
    rintro r zs rfl
    refine aD (hK8 _ (aB (aE aA 2 rfl ?_)))
    refine aF rfl (fE rfl rfl (by omega) (by omega)) ?_
    refine aE aA 1 rfl ?_
    refine bB ?_
    exact⟨((L,v.drop (v.length - u.length)),(v.take (v.length - u.length),u++R)),⟨by omega,by omega,by omega,by rw[← ht]; simp [← List.append_assoc (v.take (v.length - u.length))]⟩,by simp only; omega,bT ⟨rfl,rfl,rfl,aM (by omega),aM (by omega),trivial⟩ rfl⟩
  ·
   simp only[bs] at hc1
   refine bA (hK3 _ (aB ?_))
   rw[show L++(u++(v++R))=L++(u++([]++(v++R))) from rfl]
   refine aE aA 3 rfl ?_
   refine aF rfl (fE rfl rfl (by omega) (by omega)) ?_
   refine aE aA 3 rfl (gA hf E0 rfl rfl rfl rfl rfl tJ (sL g L u [] v R N _ _ _ (by simp only[List.length_nil]; omega) (by omega) (by omega) (by simp only[List.length_nil]; omega) (by omega) hM) ?_)
   rintro r zs rfl
   refine bB ?_
   refine⟨_,_,_,Le.refl _,rfl,rfl,?_⟩
   rw[← ht]; rfl
theorem aBi {g:Nat} (hent:∀ args w,(callFunc g args).run Tryz.prog w=.ok (.enter g args) w) {c:bP→bP→Int} (hc:Tri c) (hcmp:∀ x y:bP,Den Tryz.prog g [.agg (stC x),.agg (stC y)] (·=.s (.int .i64 (c x y)))) (p s0 q:List bP) (N:Nat) (za zb:Int) (hN:N=p.length+s0.length+q.length) (hza:za=(p.length:Nat)) (hzb:zb=((p.length+s0.length:Nat):Int)) (hM:N<4611686018427387904) :DenM Tryz.prog 216 [.own E0 4 0 N,.s (.int .i64 za),.s (.int .i64 zb),.fn g []] 4 ((List.map stC (p++(s0++q)))) (fun r ys=>∃ t:List bP,t.Perm s0∧Srt c t∧ys=(List.map stC (p++(t++q)))):=by
 subst hza
 subst hzb
 refine gI Tryz.func216 rfl (Nat.le_of_ble_eq_true rfl) (fun w0 x0 A hf=>?_)
 refine aC (fun K1 hK1=>(aB (aE aA 1 rfl ?_)))
 refine aF rfl (bJ rfl rfl (by omega) (by omega)) ?_
 refine aE aA 1 rfl (aD (hK1 _ (aO (bS (ι:=List bP×List bP) (fun(⟨s1,s2⟩:List bP×List bP)=>⟨53,[(0,.own E0 4 0 N),(1,.s (.int .i64 (p.length:Nat))),(2,.s (.int .i64 ((p.length+s0.length:Nat):Int))),(3,.fn g []),(8,.s (.int .i64 ((p.length+1+(s1.length - 1):Nat):Int)))],[(E0,.buf 4 (List.map stC (p++(s1++(s2++q)))))]⟩) (fun(⟨s1,s2⟩:List bP×List bP)=>Srt c s1∧(s1++s2).Perm s0∧(0<s1.length∨s0=[])) (fun(⟨s1,s2⟩:List bP×List bP)=>s2.length) (s0.take 1,s0.drop 1) ?_ ?_ ?_))))
 · exact⟨srt_one (by simp; omega),by rw[List.take_append_drop],by cases s0 <;> simp⟩
 · exact bT ⟨rfl,rfl,rfl,rfl,aM (by have:=List.length_take (i:=1) (l:=s0); omega),trivial⟩ (by rw[← List.append_assoc (s0.take 1),List.take_append_drop])
 ·
  rintro ⟨s1,s2⟩ hC
  obtain ⟨hs1,hp12,hne⟩:=hC
  have hpl:=hp12.length_eq
  rw[List.length_append] at hpl
  have hnl:s0=[]→s0.length=0:=fun h=>by rw[h]; rfl
  refine aC (fun K2 hK2=>(aC (fun K3 hK3=>(aB (aE aA 3 rfl (aD (hK3 _ (aI rfl (fun hc1=>?_) (fun hc1=>?_)))))))))
  ·
   simp only[bs] at hc1
   refine aL (hK2 _ (aC (fun K4 hK4=>(aO (aC (fun K5 hK5=>(aB ?_)))))))
   have h0:0<s1.length:=by rcases hne with h | h; exact h; exfalso; have:=hnl h; omega
   obtain ⟨e,s3,rfl⟩:∃ e s3,s2=e::s3:=by
    cases s2 with
    | nil=>exfalso; simp only[List.length_nil] at hpl; omega
    | cons e r=>exact⟨e,r,rfl⟩
   simp only[List.length_cons] at hpl
   refine aE aA 2 rfl (aD (hK5 _ (aO (bS (ι:=List bP×List bP) (fun(⟨u,v⟩:List bP×List bP)=>⟨53,[(0,.own E0 4 0 N),(1,.s (.int .i64 (p.length:Nat))),(2,.s (.int .i64 ((p.length+s0.length:Nat):Int))),(3,.fn g []),(8,.s (.int .i64 ((p.length+1+(s1.length - 1):Nat):Int))),(9,.s (.int .i64 ((p.length+u.length:Nat):Int)))],[(E0,.buf 4 (List.map stC (p++(u++(e::(v++(s3++q)))))))]⟩) (fun(⟨u,v⟩:List bP×List bP)=>u++v=s1∧∀ y∈v,c e y≤0) (fun(⟨u,v⟩:List bP×List bP)=>u.length) (s1,[]) ?_ ?_ ?_))))
   · exact⟨List.append_nil _,by simp⟩
   · exact bT ⟨rfl,rfl,rfl,rfl,rfl,aM (by omega),trivial⟩ rfl
   ·
    rintro ⟨u,v⟩ hC
    obtain ⟨huv,hv⟩:=hC
    have hul:=congrArg List.length huv
    rw[List.length_append] at hul
    refine aC (fun K6 hK6=>(aC (fun K7 hK7=>(eQ hf bN (by kernel_rfl) rfl (bL aA 4 rfl (rZ 21 true rfl (fun hg2=>?_) (fun hg2=>?_)))))))
    ·
     simp only[bs] at hg2
     obtain ⟨u1,z,hu1⟩:=last_of (u:=u) (by omega)
     have hu2:=congrArg List.length hu1
     simp only[List.length_append,List.length_cons,List.length_nil] at hu2
     refine bL aA 3 rfl ?_
     refine bY [(23,_),(24,_)] rfl rfl ⟨⟨rfl,rfl⟩,⟨rfl,rfl⟩,trivial⟩ rfl (bX rfl rfl cG aX (by omega)) ?_
     refine bY [(25,_)] rfl rfl ⟨⟨rfl,rfl⟩,trivial⟩ rfl (bM rfl dS aX rfl (eI (k:=4) (enc:=stC) (z:=p.length+u.length) (by omega) (atQ (p:=p++u) (q:=v++(s3++q)) (x:=e) (by simp) (by simp)) rfl) (dR (k:=4) (enc:=stC) (z:=p.length+u.length) (by omega) (atQ (p:=p++u) (q:=v++(s3++q)) (x:=e) (by simp) (by simp)) rfl)) ?_
     refine bL aA 2 rfl ?_
     refine bY [(28,_)] rfl rfl ⟨⟨rfl,rfl⟩,trivial⟩ rfl (fE rfl rfl (by omega) (by omega)) ?_
     refine bY [(27,_),(29,_)] rfl rfl ⟨⟨rfl,rfl⟩,⟨rfl,rfl⟩,trivial⟩ rfl (bX rfl rfl cG aX (by omega)) ?_
     refine bY [(30,_)] rfl rfl ⟨⟨rfl,rfl⟩,trivial⟩ rfl (bM rfl dS aX rfl (eI (k:=4) (enc:=stC) (z:=p.length+u1.length) (by omega) (atQ (p:=p++u1) (q:=e::(v++(s3++q))) (x:=z) (by rw[hu1]; simp) (by simp)) rfl) (dR (k:=4) (enc:=stC) (z:=p.length+u1.length) (by omega) (atQ (p:=p++u1) (q:=e::(v++(s3++q))) (x:=z) (by rw[hu1]; simp) (by simp)) rfl)) ?_
     refine cA [(22,_),(26,_),(31,_)] rfl rfl ⟨⟨rfl,rfl⟩,⟨rfl,rfl⟩,⟨rfl,rfl⟩,trivial⟩ rfl (aR rfl rfl hent rfl (hcmp e z)) (bL aA 2 rfl (gE [0,1,2,3,8,9,34] rfl rfl rfl (hK7 _ (aI rfl (fun hc3=>?_) (fun hc3=>?_)))))
     ·
      simp only[bs] at hc3
      refine aL (hK6 _ (aC (fun K8 hK8=>(aO (eY bN ?_)))))
      refine bR (listed':=#[true,false,false,false,false,false,false,false,false,false,false,false,false,false,false,false,false,false]) 0 rfl (by kernel_rfl) (by kernel_rfl) (by kernel_rfl) rfl (fun _ _ h=>h) (dO rfl) ?_
      refine bR (listed':=#[true,true,false,false,false,false,false,false,false,false,false,false,false,false,false,false,false,false]) 1 rfl (by kernel_rfl) (by kernel_rfl) (by kernel_rfl) rfl (fun _ _ h=>h) (dO rfl) ?_
      refine bR (listed':=#[true,true,true,false,false,false,false,false,false,false,false,false,false,false,false,false,false,false]) 2 rfl (by kernel_rfl) (by kernel_rfl) (by kernel_rfl) rfl (fun _ _ h=>h) (dO rfl) ?_
      refine bR (listed':=#[true,true,true,true,false,false,false,false,false,false,false,false,false,false,false,false,false,false]) 3 rfl (by kernel_rfl) (by kernel_rfl) (by kernel_rfl) rfl (fun _ _ h=>h) (dO rfl) ?_
      refine bR (listed':=#[true,true,true,true,true,false,false,false,false,false,false,false,false,false,false,false,false,false]) 4 rfl (by kernel_rfl) (by kernel_rfl) (by kernel_rfl) rfl (fun _ _ h=>h) (aEf rfl rfl (by omega) (by omega)) ?_
      refine bR (listed':=#[true,true,true,true,true,true,false,false,false,false,false,false,false,false,false,false,false,false]) 5 rfl (by kernel_rfl) (by kernel_rfl) (by kernel_rfl) rfl (fun _ _ h=>h) (dO rfl) ?_
      refine bR (listed':=#[true,true,true,true,true,true,true,false,false,false,false,false,false,false,false,false,false,false]) 6 rfl (by kernel_rfl) (by kernel_rfl) (by kernel_rfl) rfl (fun _ _ h=>h) (dO rfl) ?_
      refine bR (listed':=#[true,true,true,true,true,true,true,true,false,false,false,false,false,false,false,false,false,false]) 7 rfl (by kernel_rfl) (by kernel_rfl) (by kernel_rfl) rfl (fun _ _ h=>h) (aEf rfl rfl (by omega) (by omega)) ?_
      refine bR (listed':=#[true,true,true,true,true,true,true,true,true,false,false,false,false,false,false,false,false,false]) 8 rfl (by kernel_rfl) (by kernel_rfl) (by kernel_rfl) rfl (fun _ _ h=>h) (kL rfl rfl cG aX (by omega)) ?_
      refine bR (listed':=#[true,true,true,true,true,true,true,true,true,false,true,false,false,false,false,false,false,false]) 10 rfl (by kernel_rfl) (by kernel_rfl) (by kernel_rfl) rfl (fun _ _ h=>h) (dO rfl) ?_
      refine bR (listed':=#[true,true,true,true,true,true,true,true,true,false,true,true,false,false,false,false,false,false]) 11 rfl (by kernel_rfl) (by kernel_rfl) (by kernel_rfl) rfl (fun _ _ h=>h) (dO rfl) ?_
      refine bR (listed':=#[true,true,true,true,true,true,true,true,true,false,true,true,true,false,false,false,false,false]) 12 rfl (by kernel_rfl) (by kernel_rfl) (by kernel_rfl) rfl (fun _ _ h=>h) (kL rfl rfl cG aX (by omega)) ?_
      refine lD (cD [0,1,2,3,8,9,37,38,39,41,45,49] rfl) (aH 9 [13] (by kernel_rfl) ⟨?_,?_,trivial⟩)
      ·
       refine⟨_,rfl,rfl,(ao rfl (aF rfl (bM rfl dS aX rfl (eI (k:=4) (enc:=stC) (z:=p.length+u1.length) (by omega) (atQ (p:=p++u1) (q:=e::(v++(s3++q))) (x:=z) (by rw[hu1]; simp) (by simp)) rfl) (dR (k:=4) (enc:=stC) (z:=p.length+u1.length) (by omega) (atQ (p:=p++u1) (q:=e::(v++(s3++q))) (x:=z) (by rw[hu1]; simp) (by simp)) rfl)) ?_))⟩
       refine aG (aH 13 [] (by kernel_rfl) ⟨?_,trivial⟩)
       ·
        refine⟨_,rfl,rfl,(ao rfl (aF rfl (bM rfl dS aX rfl (eI (k:=4) (enc:=stC) (z:=p.length+u.length) (by omega) (atQ (p:=p++u) (q:=v++(s3++q)) (x:=e) (by simp) (by simp)) rfl) (dR (k:=4) (enc:=stC) (z:=p.length+u.length) (by omega) (atQ (p:=p++u) (q:=v++(s3++q)) (x:=e) (by simp) (by simp)) rfl)) ?_))⟩
        refine aG (aH 14 [] (by kernel_rfl) ⟨?_,trivial⟩)
        ·
         refine⟨_,rfl,rfl,(ao rfl ?_)⟩
         refine aF rfl (bX rfl rfl cG aX (by omega)) ?_
         refine aG (aH 15 [] (by kernel_rfl) ⟨?_,trivial⟩)
         ·
          refine⟨_,rfl,rfl,(ao rfl (aP hf rfl rfl aX rfl rfl (by simp [stC,AV.cells,AV.one,Value.oneCell']) (by simp [stC,AV.cells,AV.leaf,Value.oneCell']) (eV (k:=4) (enc:=stC) (z:=p.length+u.length) (v:=z) (by omega) (by simp only[List.length_append,List.length_cons,List.length_set]; omega) rfl rfl rfl) ?_))⟩
          refine aG (aH 16 [] (by kernel_rfl) ⟨?_,trivial⟩)
          ·
           refine⟨_,rfl,rfl,(ao rfl ?_)⟩
           refine aF rfl (bX rfl rfl cG aX (by omega)) ?_
           refine aG (aH 17 [] (by kernel_rfl) ⟨?_,trivial⟩)
           ·
            refine⟨_,rfl,rfl,(ao rfl (aP hf rfl rfl aX rfl rfl (by simp [stC,AV.cells,AV.one,Value.oneCell']) (by simp [stC,AV.cells,AV.leaf,Value.oneCell']) (eV (k:=4) (enc:=stC) (z:=p.length+u1.length) (v:=e) (by omega) (by simp only[List.length_append,List.length_cons,List.length_set]; omega) rfl rfl rfl) ?_))⟩
            refine aG (bW (by kernel_rfl) ?_)
            refine hK8 _ (aB (aE aA 1 rfl ?_))
            refine aF rfl (fE rfl rfl (by omega) (by omega)) ?_
            refine aE aA 1 rfl (aD ?_)
            exact⟨(u1,z::v),⟨by rw[← huv,hu1]; simp,fun y hy=>by
             rcases List.mem_cons.1 hy with rfl | hy
             · omega
             · exact hv y hy⟩,by simp only; omega,bT ⟨rfl,rfl,rfl,rfl,rfl,aM (by omega),trivial⟩ (congrArg (fun l=>[(E0,AM.buf 4 (List.map stC l))]) ((tX (p:=p++u1) (x:=z) (y:=e) (q:=v++(s3++q)) (by rw[hu1]; simp) (by simp; omega) (by simp)).trans (by simp)))⟩
      ·
       refine⟨_,rfl,rfl,(ao rfl (aF rfl (bM rfl dS aX rfl (eI (k:=4) (enc:=stC) (z:=p.length+u.length) (by omega) (atQ (p:=p++u) (q:=v++(s3++q)) (x:=e) (by simp) (by simp)) rfl) (dR (k:=4) (enc:=stC) (z:=p.length+u.length) (by omega) (atQ (p:=p++u) (q:=v++(s3++q)) (x:=e) (by simp) (by simp)) rfl)) ?_))⟩
       refine aG (aH 9 [] (by kernel_rfl) ⟨?_,trivial⟩)
       ·
        refine⟨_,rfl,rfl,(ao rfl (aF rfl (bM rfl dS aX rfl (eI (k:=4) (enc:=stC) (z:=p.length+u1.length) (by omega) (atQ (p:=p++u1) (q:=e::(v++(s3++q))) (x:=z) (by rw[hu1]; simp) (by simp)) rfl) (dR (k:=4) (enc:=stC) (z:=p.length+u1.length) (by omega) (atQ (p:=p++u1) (q:=e::(v++(s3++q))) (x:=z) (by rw[hu1]; simp) (by simp)) rfl)) ?_))⟩
        refine aG (aH 14 [] (by kernel_rfl) ⟨?_,trivial⟩)
        ·
         refine⟨_,rfl,rfl,(ao rfl ?_)⟩
         refine aF rfl (bX rfl rfl cG aX (by omega)) ?_
         refine aG (aH 15 [] (by kernel_rfl) ⟨?_,trivial⟩)
         ·
          refine⟨_,rfl,rfl,(ao rfl (aP hf rfl rfl aX rfl rfl (by simp [stC,AV.cells,AV.one,Value.oneCell']) (by simp [stC,AV.cells,AV.leaf,Value.oneCell']) (eV (k:=4) (enc:=stC) (z:=p.length+u.length) (v:=z) (by omega) (by simp only[List.length_append,List.length_cons,List.length_set]; omega) rfl rfl rfl) ?_))⟩
          refine aG (aH 16 [] (by kernel_rfl) ⟨?_,trivial⟩)
          ·
           refine⟨_,rfl,rfl,(ao rfl ?_)⟩
           refine aF rfl (bX rfl rfl cG aX (by omega)) ?_
           refine aG (aH 17 [] (by kernel_rfl) ⟨?_,trivial⟩)
           ·
            refine⟨_,rfl,rfl,(ao rfl (aP hf rfl rfl aX rfl rfl (by simp [stC,AV.cells,AV.one,Value.oneCell']) (by simp [stC,AV.cells,AV.leaf,Value.oneCell']) (eV (k:=4) (enc:=stC) (z:=p.length+u1.length) (v:=e) (by omega) (by simp only[List.length_append,List.length_cons,List.length_set]; omega) rfl rfl rfl) ?_))⟩
            refine aG (bW (by kernel_rfl) ?_)
            refine hK8 _ (aB (aE aA 1 rfl ?_))
            refine aF rfl (fE rfl rfl (by omega) (by omega)) ?_
            refine aE aA 1 rfl (aD ?_)
            exact⟨(u1,z::v),⟨by rw[← huv,hu1]; simp,fun y hy=>by
             rcases List.mem_cons.1 hy with rfl | hy
             · omega
             · exact hv y hy⟩,by simp only; omega,bT ⟨rfl,rfl,rfl,rfl,rfl,aM (by omega),trivial⟩ (congrArg (fun l=>[(E0,AM.buf 4 (List.map stC l))]) ((tX (p:=p++u1) (x:=z) (y:=e) (q:=v++(s3++q)) (by rw[hu1]; simp) (by simp; omega) (by simp)).trans (by simp)))⟩
     ·
      simp only[bs] at hc3
      refine bA (hK4 _ (aB (aE aA 1 rfl ?_)))
      refine aF rfl (bJ rfl rfl (by omega) (by omega)) ?_
      refine aE aA 1 rfl (aD ?_)
      exact⟨(u++e::v,s3),⟨aCf hc (by rw[huv]; exact hs1) hv (fun z' hz'=>by rw[hu1] at hz'; simp at hz'; subst hz'; have:=hc.swap e z; omega),aIs huv hp12,.inl (by simp only[List.length_append,List.length_cons]; omega)⟩,by simp,bT ⟨rfl,rfl,rfl,rfl,aM (by simp only[List.length_append,List.length_cons]; omega),trivial⟩ (by simp)⟩
    ·
     simp only[bs] at hg2
     refine bL aA 13 rfl (gE [0,1,2,3,8,9,34] rfl rfl rfl (hK7 _ (bD rfl (bA (hK4 _ (aB (aE aA 1 rfl ?_)))))))
     refine aF rfl (bJ rfl rfl (by omega) (by omega)) ?_
     refine aE aA 1 rfl (aD ?_)
     exact⟨(u++e::v,s3),⟨aCf hc (by rw[huv]; exact hs1) hv (fun z' hz'=>by rw[List.eq_nil_of_length_eq_zero (show u.length=0 by omega)] at hz'; simp at hz'),aIs huv hp12,.inl (by simp only[List.length_append,List.length_cons]; omega)⟩,by simp,bT ⟨rfl,rfl,rfl,rfl,aM (by simp only[List.length_append,List.length_cons]; omega),trivial⟩ (by simp)⟩
  ·
   simp only[bs] at hc1
   refine bA ?_
   have hs2:s2=[]:=List.eq_nil_of_length_eq_zero (by rcases hne with h | h; omega; have:=hnl h; omega)
   subst hs2
   exact⟨_,_,_,Le.refl _,rfl,rfl,s1,by simpa using hp12,hs1,rfl⟩
theorem aBh {g:Nat} (hent:∀ args w,(callFunc g args).run Tryz.prog w=.ok (.enter g args) w) {c:bP→bP→Int} (hc:Tri c) (hcmp:∀ x y:bP,Den Tryz.prog g [.agg (stC x),.agg (stC y)] (·=.s (.int .i64 (c x y)))) (NN:Nat) (ih:∀ (p s1 s2 q:List bP) (N:Nat) (za zm zb:Int),s1.length+s2.length≤NN→N=p.length+s1.length+s2.length+q.length→za=(p.length:Nat)→zm=((p.length+s1.length:Nat):Int)→zb=((p.length+s1.length+s2.length:Nat):Int)→0<s1.length→0<s2.length→Srt c s1→Srt c s2→N<4611686018427387904→DenM Tryz.prog 217 [.own E0 4 0 N,.s (.int .i64 za),.s (.int .i64 zm),.s (.int .i64 zb),.fn g []] 4 (List.map stC (p++(s1++(s2++q)))) (fun r ys=>∃ t:List bP,t.Perm (s1++s2)∧Srt c t∧ys=(List.map stC (p++(t++q))))) (p s1 s2 q:List bP) (N:Nat) (za zm zb:Int) (hle:s1.length+s2.length≤NN+1) (hN:N=p.length+s1.length+s2.length+q.length) (hza:za=(p.length:Nat)) (hzm:zm=((p.length+s1.length:Nat):Int)) (hzb:zb=((p.length+s1.length+s2.length:Nat):Int)) (h01:0<s1.length) (h02:0<s2.length) (hs1:Srt c s1) (hs2:Srt c s2) (hM:N<4611686018427387904) :DenM Tryz.prog 217 [.own E0 4 0 N,.s (.int .i64 za),.s (.int .i64 zm),.s (.int .i64 zb),.fn g []] 4 ((List.map stC (p++(s1++(s2++q))))) (fun r ys=>∃ t:List bP,t.Perm (s1++s2)∧Srt c t∧ys=(List.map stC (p++(t++q)))):=by
 subst hza
 subst hzm
 subst hzb
 refine gI Tryz.func217 rfl (Nat.le_of_ble_eq_true rfl) (fun w0 x0 A hf=>?_)
 refine aC (fun K1 hK1=>(aC (fun K2 hK2=>(aB (aE aA 2 rfl ?_)))))
 refine aF rfl (fE rfl rfl (by omega) (by omega)) ?_
 refine aE aA 1 rfl (aD (hK2 _ (aI rfl (fun hc1=>?_) (fun hc1=>?_))))
 ·
  simp only[bs] at hc1
  obtain ⟨x,hx1⟩:∃ x,s1=[x]:=List.length_eq_one_iff.1 (by omega)
  have hl1:s1.length=1:=by rw[hx1]; rfl
  refine aC (fun K3 hK3=>(aB (aE aA 2 rfl (aD (hK3 _ (aC (fun K4 hK4=>(aB (aE aA 2 rfl (aD (hK4 _ (aC (fun K5 hK5=>(aO (bS (ι:=Nat×Nat) (fun(⟨i,j⟩:Nat×Nat)=>⟨220,[(0,.own E0 4 0 N),(1,.s (.int .i64 (p.length:Nat))),(4,.fn g []),(10,.s (.int .i64 ((p.length+s1.length+i:Nat):Int))),(11,.s (.int .i64 ((p.length+s1.length+j:Nat):Int)))],[(E0,.buf 4 (List.map stC (p++(s1++(s2++q)))))]⟩) (fun(⟨i,j⟩:Nat×Nat)=>i≤j∧j≤s2.length∧(∀ z,s2[i - 1]?=some z→0<i→c z x≤0)∧(∀ z,s2[j]?=some z→c x z≤0)) (fun(⟨i,j⟩:Nat×Nat)=>j - i) (0,s2.length) ?_ ?_ ?_)))))))))))))))
  · exact⟨Nat.zero_le _,Nat.le_refl _,fun _ _ h=>absurd h (by omega),fun z hz=>by rw[List.getElem?_eq_none (Nat.le_refl _)] at hz; cases hz⟩
  · exact bT ⟨(by first | rfl | exact aM (by omega)),(by first | rfl | exact aM (by omega)),(by first | rfl | exact aM (by omega)),(by first | rfl | exact aM (by omega)),(by first | rfl | exact aM (by omega)),trivial⟩ rfl
  ·
   rintro ⟨i,j⟩ hC
   obtain ⟨q1,q2,q3,q4⟩:=hC
   refine aC (fun K6 hK6=>(aC (fun K7 hK7=>(aB (aE aA 3 rfl (aD (hK7 _ (aI rfl (fun hc2=>?_) (fun hc2=>?_)))))))))
   ·
    simp only[bs] at hc2
    refine aL (hK6 _ (aO (aC (fun K8 hK8=>(aB ?_)))))
    obtain ⟨h,eh⟩:∃ h,h=(i+j) / 2:=⟨_,rfl⟩
    have hz:=yB (a:=((p.length+s1.length+i:Nat):Int)+((p.length+s1.length+j:Nat):Int)) (b:=((p.length+s1.length+h:Nat):Int)) (by omega) (by omega) (by omega)
    refine aE aA 2 rfl ?_
    refine aF rfl (bJ rfl rfl (by omega) (by omega)) ?_
    refine aF rfl (nY rfl Tryz.underlying3 Tryz.underlying234 hz.1) (aF rfl (xT rfl hz.2.1 (by decide)) (aF rfl (nY rfl Tryz.underlying234 Tryz.underlying3 hz.2.2) (aE aA 1 rfl (aD (hK8 _ (aC (fun K9 hK9=>(eQ hf bN (by kernel_rfl) rfl ?_))))))))
    have hh2:h<s2.length:=by omega
    refine bL aA 3 rfl ?_
    refine bY [(41,_),(42,_)] rfl rfl ⟨⟨rfl,rfl⟩,⟨rfl,rfl⟩,trivial⟩ rfl (bX rfl rfl cG aX (by omega)) ?_
    refine bY [(43,_)] rfl rfl ⟨⟨rfl,rfl⟩,trivial⟩ rfl (bM rfl dS aX rfl (eI (k:=4) (enc:=stC) (z:=p.length+s1.length+h) (by omega) (atM hh2) rfl) (dR (k:=4) (enc:=stC) (z:=p.length+s1.length+h) (by omega) (atM hh2) rfl)) (bL aA 2 rfl ?_)
    refine bY [(45,_),(46,_)] rfl rfl ⟨⟨rfl,rfl⟩,⟨rfl,rfl⟩,trivial⟩ rfl (bX rfl rfl cG aX (by omega)) ?_
    refine bY [(47,_)] rfl rfl ⟨⟨rfl,rfl⟩,trivial⟩ rfl (bM rfl dS aX rfl (eI (k:=4) (enc:=stC) (z:=p.length) (by omega) (atQ (p:=p) (q:=s2++q) (by rw[hx1]; rfl) rfl) rfl) (dR (k:=4) (enc:=stC) (z:=p.length) (by omega) (atQ (p:=p) (q:=s2++q) (by rw[hx1]; rfl) rfl) rfl)) ?_
    refine cA [(40,_),(44,_),(48,_)] rfl rfl ⟨⟨rfl,rfl⟩,⟨rfl,rfl⟩,⟨rfl,rfl⟩,trivial⟩ rfl (aR rfl rfl hent rfl (hcmp s2[h] x)) (bL aA 1 rfl (gE [0,1,4,10,11,12,50] rfl rfl rfl (hK9 _ (aI rfl (fun hc3=>?_) (fun hc3=>?_)))))
    ·
     simp only[bs] at hc3
     refine aB (aE aA 1 rfl ?_)
     refine aF rfl (bJ rfl rfl (by omega) (by omega)) ?_
     refine aE aA 1 rfl ?_
     refine bB ?_
     exact⟨(h+1,j),⟨by omega,by omega,fun z hz _=>by rw[Nat.add_sub_cancel,List.getElem?_eq_getElem hh2] at hz; cases hz; omega,q4⟩,by simp only; omega,bT ⟨(by first | rfl | exact aM (by omega)),(by first | rfl | exact aM (by omega)),(by first | rfl | exact aM (by omega)),(by first | rfl | exact aM (by omega)),(by first | rfl | exact aM (by omega)),trivial⟩ rfl⟩
    ·
     simp only[bs] at hc3
     refine aB (aE aA 2 rfl ?_)
     refine bB ?_
     exact⟨(i,h),⟨by omega,by omega,q3,fun z hz=>by rw[List.getElem?_eq_getElem hh2] at hz; cases hz; have:=hc.swap s2[h] x; omega⟩,by simp only; omega,bT ⟨(by first | rfl | exact aM (by omega)),(by first | rfl | exact aM (by omega)),(by first | rfl | exact aM (by omega)),(by first | rfl | exact aM (by omega)),(by first | rfl | exact aM (by omega)),trivial⟩ rfl⟩
   ·
    simp only[bs] at hc2
    refine bA (hK5 _ (aC (fun K10 hK10=>(aC (fun K11 hK11=>(aB (aE aA 2 rfl (aD (hK11 _ (aO (bS (ι:=Nat) (fun t=>⟨220,[(0,.own E0 4 0 N),(10,.s (.int .i64 ((p.length+s1.length+i:Nat):Int))),(13,.s (.int .i64 ((p.length+t:Nat):Int)))],[(E0,.buf 4 (List.map stC (p++(s2.take t++(x::(s2.drop t++q))))))]⟩) (fun t=>t≤i) (fun t=>i - t) 0 ?_ ?_ ?_)))))))))))
    · exact Nat.zero_le _
    · exact bT ⟨(by first | rfl | exact aM (by omega)),(by first | rfl | exact aM (by omega)),(by first | rfl | exact aM (by omega)),trivial⟩ (by rw[hx1]; rfl)
    ·
     rintro t hC
     have hq:=hC
     refine aC (fun K12 hK12=>(aC (fun K13 hK13=>(aB (aE aA 2 rfl ?_)))))
     refine aF rfl (fE rfl rfl (by omega) (by omega)) ?_
     refine aE aA 1 rfl (aD (hK13 _ (aI rfl (fun hc4=>?_) (fun hc4=>?_))))
     ·
      simp only[bs] at hc4
      refine aL (hK12 _ (aC (fun K14 hK14=>(aO (eY bN ?_)))))
      refine bR (listed':=#[true,false,false,false,false,false,false,false,false,false,false,false,false,false,false,false,false,false]) 0 rfl (by kernel_rfl) (by kernel_rfl) (by kernel_rfl) rfl (fun _ _ h=>h) (dO rfl) ?_
      refine bR (listed':=#[true,true,false,false,false,false,false,false,false,false,false,false,false,false,false,false,false,false]) 1 rfl (by kernel_rfl) (by kernel_rfl) (by kernel_rfl) rfl (fun _ _ h=>h) (dO rfl) ?_
      refine bR (listed':=#[true,true,true,false,false,false,false,false,false,false,false,false,false,false,false,false,false,false]) 2 rfl (by kernel_rfl) (by kernel_rfl) (by kernel_rfl) rfl (fun _ _ h=>h) (dO rfl) ?_
      refine bR (listed':=#[true,true,true,true,false,false,false,false,false,false,false,false,false,false,false,false,false,false]) 3 rfl (by kernel_rfl) (by kernel_rfl) (by kernel_rfl) rfl (fun _ _ h=>h) (dO rfl) ?_
      refine bR (listed':=#[true,true,true,true,true,false,false,false,false,false,false,false,false,false,false,false,false,false]) 4 rfl (by kernel_rfl) (by kernel_rfl) (by kernel_rfl) rfl (fun _ _ h=>h) (aEg rfl rfl (by omega) (by omega)) ?_
      refine bR (listed':=#[true,true,true,true,true,true,false,false,false,false,false,false,false,false,false,false,false,false]) 5 rfl (by kernel_rfl) (by kernel_rfl) (by kernel_rfl) rfl (fun _ _ h=>h) (dO rfl) ?_
      refine bR (listed':=#[true,true,true,true,true,true,true,false,false,false,false,false,false,false,false,false,false,false]) 6 rfl (by kernel_rfl) (by kernel_rfl) (by kernel_rfl) rfl (fun _ _ h=>h) (dO rfl) ?_
      refine bR (listed':=#[true,true,true,true,true,true,true,true,false,false,false,false,false,false,false,false,false,false]) 7 rfl (by kernel_rfl) (by kernel_rfl) (by kernel_rfl) rfl (fun _ _ h=>h) (aEg rfl rfl (by omega) (by omega)) ?_
      refine bR (listed':=#[true,true,true,true,true,true,true,true,true,false,false,false,false,false,false,false,false,false]) 8 rfl (by kernel_rfl) (by kernel_rfl) (by kernel_rfl) rfl (fun _ _ h=>h) (kL rfl rfl cG aX (by omega)) ?_
      refine bR (listed':=#[true,true,true,true,true,true,true,true,true,false,true,false,false,false,false,false,false,false]) 10 rfl (by kernel_rfl) (by kernel_rfl) (by kernel_rfl) rfl (fun _ _ h=>h) (dO rfl) ?_
      refine bR (listed':=#[true,true,true,true,true,true,true,true,true,false,true,true,false,false,false,false,false,false]) 11 rfl (by kernel_rfl) (by kernel_rfl) (by kernel_rfl) rfl (fun _ _ h=>h) (dO rfl) ?_
      refine bR (listed':=#[true,true,true,true,true,true,true,true,true,false,true,true,true,false,false,false,false,false]) 12 rfl (by kernel_rfl) (by kernel_rfl) (by kernel_rfl) rfl (fun _ _ h=>h) (kL rfl rfl cG aX (by omega)) ?_
      refine lD (cD [0,10,13,61,62,63,65,69,73] rfl) (aH 9 [13] (by kernel_rfl) ⟨?_,?_,trivial⟩)
      ·
       refine⟨_,rfl,rfl,(ao rfl (aF rfl (bM rfl dS aX rfl (eI (k:=4) (enc:=stC) (z:=p.length+t+1) (by omega) (atQ (p:=p++(s2.take t++[x])) (q:=s2.drop (t+1)++q) (x:=s2[t]) (by rw[List.drop_eq_getElem_cons (show t<s2.length by omega)]; simp only[List.append_assoc,List.cons_append,List.nil_append]) (by simp only[List.length_append,List.length_take,List.length_cons,List.length_nil]; omega)) rfl) (dR (k:=4) (enc:=stC) (z:=p.length+t+1) (by omega) (atQ (p:=p++(s2.take t++[x])) (q:=s2.drop (t+1)++q) (x:=s2[t]) (by rw[List.drop_eq_getElem_cons (show t<s2.length by omega)]; simp only[List.append_assoc,List.cons_append,List.nil_append]) (by simp only[List.length_append,List.length_take,List.length_cons,List.length_nil]; omega)) rfl)) ?_))⟩
       refine aG (aH 13 [] (by kernel_rfl) ⟨?_,trivial⟩)
       ·
        refine⟨_,rfl,rfl,(ao rfl (aF rfl (bM rfl dS aX rfl (eI (k:=4) (enc:=stC) (z:=p.length+t) (by omega) (atQ (p:=p++s2.take t) (q:=s2.drop t++q) (x:=x) (by simp only[List.append_assoc]) (by(try simp only[List.length_take,List.length_drop,List.length_append]); omega)) rfl) (dR (k:=4) (enc:=stC) (z:=p.length+t) (by omega) (atQ (p:=p++s2.take t) (q:=s2.drop t++q) (x:=x) (by simp only[List.append_assoc]) (by(try simp only[List.length_take,List.length_drop,List.length_append]); omega)) rfl)) ?_))⟩
        refine aG (aH 14 [] (by kernel_rfl) ⟨?_,trivial⟩)
        ·
         refine⟨_,rfl,rfl,(ao rfl ?_)⟩
         refine aF rfl (bX rfl rfl cG aX (by omega)) ?_
         refine aG (aH 15 [] (by kernel_rfl) ⟨?_,trivial⟩)
         ·
          refine⟨_,rfl,rfl,(ao rfl (aP hf rfl rfl aX rfl rfl (by simp [stC,AV.cells,AV.one,Value.oneCell']) (by simp [stC,AV.cells,AV.leaf,Value.oneCell']) (eV (k:=4) (enc:=stC) (z:=p.length+t) (v:=s2[t]) (by omega) (by simp only[List.length_append,List.length_cons,List.length_set,List.length_take,List.length_drop]; omega) rfl rfl rfl) ?_))⟩
          refine aG (aH 16 [] (by kernel_rfl) ⟨?_,trivial⟩)
          ·
           refine⟨_,rfl,rfl,(ao rfl ?_)⟩
           refine aF rfl (bX rfl rfl cG aX (by omega)) ?_
           refine aG (aH 17 [] (by kernel_rfl) ⟨?_,trivial⟩)
           ·
            refine⟨_,rfl,rfl,(ao rfl (aP hf rfl rfl aX rfl rfl (by simp [stC,AV.cells,AV.one,Value.oneCell']) (by simp [stC,AV.cells,AV.leaf,Value.oneCell']) (eV (k:=4) (enc:=stC) (z:=p.length+t+1) (v:=x) (by omega) (by simp only[List.length_append,List.length_cons,List.length_set,List.length_take,List.length_drop]; omega) rfl rfl rfl) ?_))⟩
            refine aG (bW (by kernel_rfl) ?_)
            refine hK14 _ (aB (aE aA 1 rfl ?_))
            refine aF rfl (bJ rfl rfl (by omega) (by omega)) ?_
            refine aE aA 1 rfl (aD ?_)
            exact⟨t+1,by omega,by omega,bT ⟨(by first | rfl | exact aM (by omega)),(by first | rfl | exact aM (by omega)),(by first | rfl | exact aM (by omega)),trivial⟩ (congrArg (fun l=>[(E0,AM.buf 4 (List.map stC l))]) ((aOa (p:=p++s2.take t) (x:=x) (y:=s2[t]) (q:=s2.drop (t+1)++q) (by rw[List.drop_eq_getElem_cons (show t<s2.length by omega)]; simp only[List.append_assoc,List.cons_append]) (by(try simp only[List.length_take,List.length_drop,List.length_append]); omega) (by(try simp only[List.length_take,List.length_drop,List.length_append]); omega)).trans (by rw[← List.take_append_getElem (show t<s2.length by omega)]; simp only[List.append_assoc,List.cons_append,List.nil_append])))⟩
      ·
       refine⟨_,rfl,rfl,(ao rfl (aF rfl (bM rfl dS aX rfl (eI (k:=4) (enc:=stC) (z:=p.length+t) (by omega) (atQ (p:=p++s2.take t) (q:=s2.drop t++q) (x:=x) (by simp only[List.append_assoc]) (by(try simp only[List.length_take,List.length_drop,List.length_append]); omega)) rfl) (dR (k:=4) (enc:=stC) (z:=p.length+t) (by omega) (atQ (p:=p++s2.take t) (q:=s2.drop t++q) (x:=x) (by simp only[List.append_assoc]) (by(try simp only[List.length_take,List.length_drop,List.length_append]); omega)) rfl)) ?_))⟩
       refine aG (aH 9 [] (by kernel_rfl) ⟨?_,trivial⟩)
       ·
        refine⟨_,rfl,rfl,(ao rfl (aF rfl (bM rfl dS aX rfl (eI (k:=4) (enc:=stC) (z:=p.length+t+1) (by omega) (atQ (p:=p++(s2.take t++[x])) (q:=s2.drop (t+1)++q) (x:=s2[t]) (by rw[List.drop_eq_getElem_cons (show t<s2.length by omega)]; simp only[List.append_assoc,List.cons_append,List.nil_append]) (by simp only[List.length_append,List.length_take,List.length_cons,List.length_nil]; omega)) rfl) (dR (k:=4) (enc:=stC) (z:=p.length+t+1) (by omega) (atQ (p:=p++(s2.take t++[x])) (q:=s2.drop (t+1)++q) (x:=s2[t]) (by rw[List.drop_eq_getElem_cons (show t<s2.length by omega)]; simp only[List.append_assoc,List.cons_append,List.nil_append]) (by simp only[List.length_append,List.length_take,List.length_cons,List.length_nil]; omega)) rfl)) ?_))⟩
        refine aG (aH 14 [] (by kernel_rfl) ⟨?_,trivial⟩)
        ·
         refine⟨_,rfl,rfl,(ao rfl ?_)⟩
         refine aF rfl (bX rfl rfl cG aX (by omega)) ?_
         refine aG (aH 15 [] (by kernel_rfl) ⟨?_,trivial⟩)
         ·
          refine⟨_,rfl,rfl,(ao rfl (aP hf rfl rfl aX rfl rfl (by simp [stC,AV.cells,AV.one,Value.oneCell']) (by simp [stC,AV.cells,AV.leaf,Value.oneCell']) (eV (k:=4) (enc:=stC) (z:=p.length+t) (v:=s2[t]) (by omega) (by simp only[List.length_append,List.length_cons,List.length_set,List.length_take,List.length_drop]; omega) rfl rfl rfl) ?_))⟩
          refine aG (aH 16 [] (by kernel_rfl) ⟨?_,trivial⟩)
          ·
           refine⟨_,rfl,rfl,(ao rfl ?_)⟩
           refine aF rfl (bX rfl rfl cG aX (by omega)) ?_
           refine aG (aH 17 [] (by kernel_rfl) ⟨?_,trivial⟩)
           ·
            refine⟨_,rfl,rfl,(ao rfl (aP hf rfl rfl aX rfl rfl (by simp [stC,AV.cells,AV.one,Value.oneCell']) (by simp [stC,AV.cells,AV.leaf,Value.oneCell']) (eV (k:=4) (enc:=stC) (z:=p.length+t+1) (v:=x) (by omega) (by simp only[List.length_append,List.length_cons,List.length_set,List.length_take,List.length_drop]; omega) rfl rfl rfl) ?_))⟩
            refine aG (bW (by kernel_rfl) ?_)
            refine hK14 _ (aB (aE aA 1 rfl ?_))
            refine aF rfl (bJ rfl rfl (by omega) (by omega)) ?_
            refine aE aA 1 rfl (aD ?_)
            exact⟨t+1,by omega,by omega,bT ⟨(by first | rfl | exact aM (by omega)),(by first | rfl | exact aM (by omega)),(by first | rfl | exact aM (by omega)),trivial⟩ (congrArg (fun l=>[(E0,AM.buf 4 (List.map stC l))]) ((aOa (p:=p++s2.take t) (x:=x) (y:=s2[t]) (q:=s2.drop (t+1)++q) (by rw[List.drop_eq_getElem_cons (show t<s2.length by omega)]; simp only[List.append_assoc,List.cons_append]) (by(try simp only[List.length_take,List.length_drop,List.length_append]); omega) (by(try simp only[List.length_take,List.length_drop,List.length_append]); omega)).trans (by rw[← List.take_append_getElem (show t<s2.length by omega)]; simp only[List.append_assoc,List.cons_append,List.nil_append])))⟩
     ·
      simp only[bs] at hc4
      refine bA (hK10 _ (aJ ?_))
      have hti:t=i:=by omega
      subst hti
      have hij:t=j:=by omega
      subst hij
      exact⟨_,_,_,Le.refl _,rfl,rfl,s2.take t++x::s2.drop t,by rw[hx1]; exact put_perm,aHz hc hs2 (by omega) q3 q4,by simp only[List.append_assoc,List.cons_append]⟩
 ·
  simp only[bs] at hc1
  refine aL (hK1 _ (aC (fun K15 hK15=>(aC (fun K16 hK16=>(aB (aE aA 2 rfl ?_)))))))
  refine aF rfl (fE rfl rfl (by omega) (by omega)) ?_
  refine aE aA 1 rfl (aD (hK16 _ (aI rfl (fun hc5=>?_) (fun hc5=>?_))))
  ·
   simp only[bs] at hc5
   obtain ⟨x,hx2⟩:∃ x,s2=[x]:=List.length_eq_one_iff.1 (by omega)
   have hl2:s2.length=1:=by rw[hx2]; rfl
   refine aC (fun K17 hK17=>(aB (aE aA 2 rfl (aD (hK17 _ (aC (fun K18 hK18=>(aB (aE aA 2 rfl (aD (hK18 _ (aC (fun K19 hK19=>(aO (bS (ι:=Nat×Nat) (fun(⟨i,j⟩:Nat×Nat)=>⟨220,[(0,.own E0 4 0 N),(2,.s (.int .i64 ((p.length+s1.length:Nat):Int))),(4,.fn g []),(14,.s (.int .i64 ((p.length+i:Nat):Int))),(15,.s (.int .i64 ((p.length+j:Nat):Int)))],[(E0,.buf 4 (List.map stC (p++(s1++(s2++q)))))]⟩) (fun(⟨i,j⟩:Nat×Nat)=>i≤j∧j≤s1.length∧(∀ z,s1[i - 1]?=some z→0<i→c z x≤0)∧(∀ z,s1[j]?=some z→c x z≤0)) (fun(⟨i,j⟩:Nat×Nat)=>j - i) (0,s1.length) ?_ ?_ ?_)))))))))))))))
   · exact⟨Nat.zero_le _,Nat.le_refl _,fun _ _ h=>absurd h (by omega),fun z hz=>by rw[List.getElem?_eq_none (Nat.le_refl _)] at hz; cases hz⟩
   · exact bT ⟨(by first | rfl | exact aM (by omega)),(by first | rfl | exact aM (by omega)),(by first | rfl | exact aM (by omega)),(by first | rfl | exact aM (by omega)),(by first | rfl | exact aM (by omega)),trivial⟩ rfl
   ·
    rintro ⟨i,j⟩ hC
    obtain ⟨q1,q2,q3,q4⟩:=hC
    refine aC (fun K20 hK20=>(aC (fun K21 hK21=>(aB (aE aA 3 rfl (aD (hK21 _ (aI rfl (fun hc6=>?_) (fun hc6=>?_)))))))))
    ·
     simp only[bs] at hc6
     refine aL (hK20 _ (aO (aC (fun K22 hK22=>(aB ?_)))))
     obtain ⟨h,eh⟩:∃ h,h=(i+j) / 2:=⟨_,rfl⟩
     have hz:=yB (a:=((p.length+i:Nat):Int)+((p.length+j:Nat):Int)) (b:=((p.length+h:Nat):Int)) (by omega) (by omega) (by omega)
     refine aE aA 2 rfl ?_
     refine aF rfl (bJ rfl rfl (by omega) (by omega)) ?_
     refine aF rfl (nY rfl Tryz.underlying3 Tryz.underlying234 hz.1) (aF rfl (xT rfl hz.2.1 (by decide)) (aF rfl (nY rfl Tryz.underlying234 Tryz.underlying3 hz.2.2) (aE aA 1 rfl (aD (hK22 _ (aC (fun K23 hK23=>(eQ hf bN (by kernel_rfl) rfl ?_))))))))
     have hh2:h<s1.length:=by omega
     refine bL aA 3 rfl ?_
     refine bY [(93,_),(94,_)] rfl rfl ⟨⟨rfl,rfl⟩,⟨rfl,rfl⟩,trivial⟩ rfl (bX rfl rfl cG aX (by omega)) ?_
     refine bY [(95,_)] rfl rfl ⟨⟨rfl,rfl⟩,trivial⟩ rfl (bM rfl dS aX rfl (eI (k:=4) (enc:=stC) (z:=p.length+s1.length) (by omega) (atQ (p:=p++s1) (q:=q) (x:=x) (by rw[hx2]; simp) (by simp)) rfl) (dR (k:=4) (enc:=stC) (z:=p.length+s1.length) (by omega) (atQ (p:=p++s1) (q:=q) (x:=x) (by rw[hx2]; simp) (by simp)) rfl)) ?_
     refine bL aA 2 rfl ?_
     refine bY [(97,_),(98,_)] rfl rfl ⟨⟨rfl,rfl⟩,⟨rfl,rfl⟩,trivial⟩ rfl (bX rfl rfl cG aX (by omega)) ?_
     refine bY [(99,_)] rfl rfl ⟨⟨rfl,rfl⟩,trivial⟩ rfl (bM rfl dS aX rfl (eI (k:=4) (enc:=stC) (z:=p.length+h) (by omega) (atL hh2) rfl) (dR (k:=4) (enc:=stC) (z:=p.length+h) (by omega) (atL hh2) rfl)) (cA [(92,_),(96,_),(100,_)] rfl rfl ⟨⟨rfl,rfl⟩,⟨rfl,rfl⟩,⟨rfl,rfl⟩,trivial⟩ rfl (aR rfl rfl hent rfl (hcmp x s1[h])) (bL aA 2 rfl (gE [0,2,4,14,15,16,103] rfl rfl rfl (hK23 _ (aI rfl (fun hc7=>?_) (fun hc7=>?_))))))
     ·
      simp only[bs] at hc7
      refine aB (aE aA 1 rfl ?_)
      refine aF rfl (bJ rfl rfl (by omega) (by omega)) ?_
      refine aE aA 1 rfl ?_
      refine bB ?_
      exact⟨(h+1,j),⟨by omega,by omega,fun z hz _=>by rw[Nat.add_sub_cancel,List.getElem?_eq_getElem hh2] at hz; cases hz; have:=hc.swap x s1[h]; omega,q4⟩,by simp only; omega,bT ⟨(by first | rfl | exact aM (by omega)),(by first | rfl | exact aM (by omega)),(by first | rfl | exact aM (by omega)),(by first | rfl | exact aM (by omega)),(by first | rfl | exact aM (by omega)),trivial⟩ rfl⟩
     ·
      simp only[bs] at hc7
      refine aB (aE aA 2 rfl ?_)
      refine bB ?_
      exact⟨(i,h),⟨by omega,by omega,q3,fun z hz=>by rw[List.getElem?_eq_getElem hh2] at hz; cases hz; omega⟩,by simp only; omega,bT ⟨(by first | rfl | exact aM (by omega)),(by first | rfl | exact aM (by omega)),(by first | rfl | exact aM (by omega)),(by first | rfl | exact aM (by omega)),(by first | rfl | exact aM (by omega)),trivial⟩ rfl⟩
    ·
     simp only[bs] at hc6
     refine bA (hK19 _ (aC (fun K24 hK24=>(aC (fun K25 hK25=>(aB (aE aA 2 rfl (aD (hK25 _ (aO (bS (ι:=Nat) (fun t=>⟨220,[(0,.own E0 4 0 N),(14,.s (.int .i64 ((p.length+i:Nat):Int))),(17,.s (.int .i64 ((p.length+t:Nat):Int)))],[(E0,.buf 4 (List.map stC (p++(s1.take t++(x::(s1.drop t++q))))))]⟩) (fun t=>i≤t∧t≤s1.length) (fun t=>t) s1.length ?_ ?_ ?_)))))))))))
     · exact⟨by omega,Nat.le_refl _⟩
     · exact bT ⟨(by first | rfl | exact aM (by omega)),(by first | rfl | exact aM (by omega)),(by first | rfl | exact aM (by omega)),trivial⟩ (by rw[hx2,List.take_length,List.drop_length]; rfl)
     ·
      rintro t hC
      obtain ⟨hq,hq2⟩:=hC
      refine aC (fun K26 hK26=>(aC (fun K27 hK27=>(aB (aE aA 3 rfl (aD (hK27 _ (aI rfl (fun hc8=>?_) (fun hc8=>?_)))))))))
      ·
       simp only[bs] at hc8
       refine aL (hK26 _ (aC (fun K28 hK28=>(aO (eY bN ?_)))))
       have hsp:p++(s1.take t++(x::(s1.drop t++q)))=(p++s1.take (t - 1))++s1[t - 1]::x::(s1.drop t++q):=by
        rw[show s1.take t=s1.take (t - 1)++[s1[t - 1]] from by rw[List.take_append_getElem (show t - 1<s1.length by omega),show t - 1+1=t by omega]]
        simp only[List.append_assoc,List.cons_append,List.nil_append]
       refine bR (listed':=#[true,false,false,false,false,false,false,false,false,false,false,false,false,false,false,false,false,false]) 0 rfl (by kernel_rfl) (by kernel_rfl) (by kernel_rfl) rfl (fun _ _ h=>h) (dO rfl) ?_
       refine bR (listed':=#[true,true,false,false,false,false,false,false,false,false,false,false,false,false,false,false,false,false]) 1 rfl (by kernel_rfl) (by kernel_rfl) (by kernel_rfl) rfl (fun _ _ h=>h) (dO rfl) ?_
       refine bR (listed':=#[true,true,true,false,false,false,false,false,false,false,false,false,false,false,false,false,false,false]) 2 rfl (by kernel_rfl) (by kernel_rfl) (by kernel_rfl) rfl (fun _ _ h=>h) (dO rfl) ?_
       refine bR (listed':=#[true,true,true,true,false,false,false,false,false,false,false,false,false,false,false,false,false,false]) 3 rfl (by kernel_rfl) (by kernel_rfl) (by kernel_rfl) rfl (fun _ _ h=>h) (dO rfl) ?_
       refine bR (listed':=#[true,true,true,true,true,false,false,false,false,false,false,false,false,false,false,false,false,false]) 4 rfl (by kernel_rfl) (by kernel_rfl) (by kernel_rfl) rfl (fun _ _ h=>h) (aEf rfl rfl (by omega) (by omega)) ?_
       refine bR (listed':=#[true,true,true,true,true,true,false,false,false,false,false,false,false,false,false,false,false,false]) 5 rfl (by kernel_rfl) (by kernel_rfl) (by kernel_rfl) rfl (fun _ _ h=>h) (dO rfl) ?_
       refine bR (listed':=#[true,true,true,true,true,true,true,false,false,false,false,false,false,false,false,false,false,false]) 6 rfl (by kernel_rfl) (by kernel_rfl) (by kernel_rfl) rfl (fun _ _ h=>h) (dO rfl) ?_
       refine bR (listed':=#[true,true,true,true,true,true,true,true,false,false,false,false,false,false,false,false,false,false]) 7 rfl (by kernel_rfl) (by kernel_rfl) (by kernel_rfl) rfl (fun _ _ h=>h) (aEf rfl rfl (by omega) (by omega)) ?_
       refine bR (listed':=#[true,true,true,true,true,true,true,true,true,false,false,false,false,false,false,false,false,false]) 8 rfl (by kernel_rfl) (by kernel_rfl) (by kernel_rfl) rfl (fun _ _ h=>h) (kL rfl rfl cG aX (by omega)) ?_
       refine bR (listed':=#[true,true,true,true,true,true,true,true,true,false,true,false,false,false,false,false,false,false]) 10 rfl (by kernel_rfl) (by kernel_rfl) (by kernel_rfl) rfl (fun _ _ h=>h) (dO rfl) ?_
       refine bR (listed':=#[true,true,true,true,true,true,true,true,true,false,true,true,false,false,false,false,false,false]) 11 rfl (by kernel_rfl) (by kernel_rfl) (by kernel_rfl) rfl (fun _ _ h=>h) (dO rfl) ?_
       refine bR (listed':=#[true,true,true,true,true,true,true,true,true,false,true,true,true,false,false,false,false,false]) 12 rfl (by kernel_rfl) (by kernel_rfl) (by kernel_rfl) rfl (fun _ _ h=>h) (kL rfl rfl cG aX (by omega)) ?_
       refine lD (cD [0,14,17,113,114,115,117,121,125] rfl) (aH 9 [13] (by kernel_rfl) ⟨?_,?_,trivial⟩)
       ·
        refine⟨_,rfl,rfl,(ao rfl (aF rfl (bM rfl dS aX rfl (eI (k:=4) (enc:=stC) (z:=p.length+(t - 1)) (by omega) (atQ (p:=p++s1.take (t - 1)) (q:=x::(s1.drop t++q)) (x:=s1[t - 1]) hsp (by(try simp only[List.length_take,List.length_drop,List.length_append]); omega)) rfl) (dR (k:=4) (enc:=stC) (z:=p.length+(t - 1)) (by omega) (atQ (p:=p++s1.take (t - 1)) (q:=x::(s1.drop t++q)) (x:=s1[t - 1]) hsp (by(try simp only[List.length_take,List.length_drop,List.length_append]); omega)) rfl)) ?_))⟩
        refine aG (aH 13 [] (by kernel_rfl) ⟨?_,trivial⟩)
        ·
         refine⟨_,rfl,rfl,(ao rfl (aF rfl (bM rfl dS aX rfl (eI (k:=4) (enc:=stC) (z:=p.length+t) (by omega) (atQ (p:=p++s1.take t) (q:=s1.drop t++q) (x:=x) (by simp only[List.append_assoc]) (by(try simp only[List.length_take,List.length_drop,List.length_append]); omega)) rfl) (dR (k:=4) (enc:=stC) (z:=p.length+t) (by omega) (atQ (p:=p++s1.take t) (q:=s1.drop t++q) (x:=x) (by simp only[List.append_assoc]) (by(try simp only[List.length_take,List.length_drop,List.length_append]); omega)) rfl)) ?_))⟩
         refine aG (aH 14 [] (by kernel_rfl) ⟨?_,trivial⟩)
         ·
          refine⟨_,rfl,rfl,(ao rfl ?_)⟩
          refine aF rfl (bX rfl rfl cG aX (by omega)) ?_
          refine aG (aH 15 [] (by kernel_rfl) ⟨?_,trivial⟩)
          ·
           refine⟨_,rfl,rfl,(ao rfl (aP hf rfl rfl aX rfl rfl (by simp [stC,AV.cells,AV.one,Value.oneCell']) (by simp [stC,AV.cells,AV.leaf,Value.oneCell']) (eV (k:=4) (enc:=stC) (z:=p.length+t) (v:=s1[t - 1]) (by omega) (by simp only[List.length_append,List.length_cons,List.length_set,List.length_take,List.length_drop]; omega) rfl rfl rfl) ?_))⟩
           refine aG (aH 16 [] (by kernel_rfl) ⟨?_,trivial⟩)
           ·
            refine⟨_,rfl,rfl,(ao rfl ?_)⟩
            refine aF rfl (bX rfl rfl cG aX (by omega)) ?_
            refine aG (aH 17 [] (by kernel_rfl) ⟨?_,trivial⟩)
            ·
             refine⟨_,rfl,rfl,(ao rfl (aP hf rfl rfl aX rfl rfl (by simp [stC,AV.cells,AV.one,Value.oneCell']) (by simp [stC,AV.cells,AV.leaf,Value.oneCell']) (eV (k:=4) (enc:=stC) (z:=p.length+(t - 1)) (v:=x) (by omega) (by simp only[List.length_append,List.length_cons,List.length_set,List.length_take,List.length_drop]; omega) rfl rfl rfl) ?_))⟩
             refine aG (bW (by kernel_rfl) ?_)
             refine hK28 _ (aB (aE aA 1 rfl ?_))
             refine aF rfl (fE rfl rfl (by omega) (by omega)) ?_
             refine aE aA 1 rfl (aD ?_)
             exact⟨t - 1,⟨by omega,by omega⟩,by omega,bT ⟨(by first | rfl | exact aM (by omega)),(by first | rfl | exact aM (by omega)),(by first | rfl | exact aM (by omega)),trivial⟩ (congrArg (fun l=>[(E0,AM.buf 4 (List.map stC l))]) ((tX (p:=p++s1.take (t - 1)) (x:=s1[t - 1]) (y:=x) (q:=s1.drop t++q) hsp (by(try simp only[List.length_take,List.length_drop,List.length_append]); omega) (by(try simp only[List.length_take,List.length_drop,List.length_append]); omega)).trans (by rw[List.drop_eq_getElem_cons (show t - 1<s1.length by omega),show t - 1+1=t by omega]; simp only[List.append_assoc,List.cons_append])))⟩
       ·
        refine⟨_,rfl,rfl,(ao rfl (aF rfl (bM rfl dS aX rfl (eI (k:=4) (enc:=stC) (z:=p.length+t) (by omega) (atQ (p:=p++s1.take t) (q:=s1.drop t++q) (x:=x) (by simp only[List.append_assoc]) (by(try simp only[List.length_take,List.length_drop,List.length_append]); omega)) rfl) (dR (k:=4) (enc:=stC) (z:=p.length+t) (by omega) (atQ (p:=p++s1.take t) (q:=s1.drop t++q) (x:=x) (by simp only[List.append_assoc]) (by(try simp only[List.length_take,List.length_drop,List.length_append]); omega)) rfl)) ?_))⟩
        refine aG (aH 9 [] (by kernel_rfl) ⟨?_,trivial⟩)
        ·
         refine⟨_,rfl,rfl,(ao rfl (aF rfl (bM rfl dS aX rfl (eI (k:=4) (enc:=stC) (z:=p.length+(t - 1)) (by omega) (atQ (p:=p++s1.take (t - 1)) (q:=x::(s1.drop t++q)) (x:=s1[t - 1]) hsp (by(try simp only[List.length_take,List.length_drop,List.length_append]); omega)) rfl) (dR (k:=4) (enc:=stC) (z:=p.length+(t - 1)) (by omega) (atQ (p:=p++s1.take (t - 1)) (q:=x::(s1.drop t++q)) (x:=s1[t - 1]) hsp (by(try simp only[List.length_take,List.length_drop,List.length_append]); omega)) rfl)) ?_))⟩
         refine aG (aH 14 [] (by kernel_rfl) ⟨?_,trivial⟩)
         ·
          refine⟨_,rfl,rfl,(ao rfl ?_)⟩
          refine aF rfl (bX rfl rfl cG aX (by omega)) ?_
          refine aG (aH 15 [] (by kernel_rfl) ⟨?_,trivial⟩)
          ·
           refine⟨_,rfl,rfl,(ao rfl (aP hf rfl rfl aX rfl rfl (by simp [stC,AV.cells,AV.one,Value.oneCell']) (by simp [stC,AV.cells,AV.leaf,Value.oneCell']) (eV (k:=4) (enc:=stC) (z:=p.length+t) (v:=s1[t - 1]) (by omega) (by simp only[List.length_append,List.length_cons,List.length_set,List.length_take,List.length_drop]; omega) rfl rfl rfl) ?_))⟩
           refine aG (aH 16 [] (by kernel_rfl) ⟨?_,trivial⟩)
           ·
            refine⟨_,rfl,rfl,(ao rfl ?_)⟩
            refine aF rfl (bX rfl rfl cG aX (by omega)) ?_
            refine aG (aH 17 [] (by kernel_rfl) ⟨?_,trivial⟩)
            ·
             refine⟨_,rfl,rfl,(ao rfl (aP hf rfl rfl aX rfl rfl (by simp [stC,AV.cells,AV.one,Value.oneCell']) (by simp [stC,AV.cells,AV.leaf,Value.oneCell']) (eV (k:=4) (enc:=stC) (z:=p.length+(t - 1)) (v:=x) (by omega) (by simp only[List.length_append,List.length_cons,List.length_set,List.length_take,List.length_drop]; omega) rfl rfl rfl) ?_))⟩
             refine aG (bW (by kernel_rfl) ?_)
             refine hK28 _ (aB (aE aA 1 rfl ?_))
             refine aF rfl (fE rfl rfl (by omega) (by omega)) ?_
             refine aE aA 1 rfl (aD ?_)
             exact⟨t - 1,⟨by omega,by omega⟩,by omega,bT ⟨(by first | rfl | exact aM (by omega)),(by first | rfl | exact aM (by omega)),(by first | rfl | exact aM (by omega)),trivial⟩ (congrArg (fun l=>[(E0,AM.buf 4 (List.map stC l))]) ((tX (p:=p++s1.take (t - 1)) (x:=s1[t - 1]) (y:=x) (q:=s1.drop t++q) hsp (by(try simp only[List.length_take,List.length_drop,List.length_append]); omega) (by(try simp only[List.length_take,List.length_drop,List.length_append]); omega)).trans (by rw[List.drop_eq_getElem_cons (show t - 1<s1.length by omega),show t - 1+1=t by omega]; simp only[List.append_assoc,List.cons_append])))⟩
      ·
       simp only[bs] at hc8
       refine bA (hK24 _ (aJ ?_))
       have hti:t=i:=by omega
       subst hti
       have hij:t=j:=by omega
       subst hij
       exact⟨_,_,_,Le.refl _,rfl,rfl,s1.take t++x::s1.drop t,by rw[hx2]; exact put_perm.trans (List.perm_append_comm (l₁:=[x])),aHz hc hs1 (by omega) q3 q4,by simp only[List.append_assoc,List.cons_append]⟩
  ·
   simp only[bs] at hc5
   refine aL (hK15 _ (aC (fun K29 hK29=>(aB ?_))))
   obtain ⟨M,eM⟩:∃ M,M=(s1.length+s2.length) / 2:=⟨_,rfl⟩
   have hz:=yB (a:=((p.length:Nat):Int)+((p.length+s1.length+s2.length:Nat):Int)) (b:=((p.length+M:Nat):Int)) (by omega) (by omega) (by omega)
   refine aE aA 2 rfl ?_
   refine aF rfl (bJ rfl rfl (by omega) (by omega)) ?_
   refine aF rfl (nY rfl Tryz.underlying3 Tryz.underlying234 hz.1) (aF rfl (xT rfl hz.2.1 (by decide)) (aF rfl (nY rfl Tryz.underlying234 Tryz.underlying3 hz.2.2) (aE aA 1 rfl (aD (hK29 _ (aC (fun K30 hK30=>(aB (aE aA 2 rfl ?_)))))))))
   refine aF rfl (bJ rfl rfl (by omega) (by omega)) ?_
   refine aE aA 1 rfl (aD (hK30 _ (aC (fun K31 hK31=>(aB (aE aA 2 rfl (aD (hK31 _ (aGm (ι:=Nat×Nat) (fun w=>⟨220,[(0,.own E0 4 0 N),(1,.s (.int .i64 (p.length:Nat))),(2,.s (.int .i64 ((p.length+s1.length:Nat):Int))),(3,.s (.int .i64 ((p.length+s1.length+s2.length:Nat):Int))),(4,.fn g []),(18,.s (.int .i64 ((p.length+M:Nat):Int))),(19,.s (.int .i64 ((p.length+M:Nat)+(p.length+s1.length:Nat)))),(20,.s (.int .i64 ((p.length+w.1:Nat):Int))),(21,.s (.int .i64 ((p.length+w.2:Nat):Int)))],[(E0,.buf 4 (List.map stC (p++(s1++(s2++q)))))]⟩) (fun w=>(w.1=0∨M - w.1=s2.length)∧(w.2=s1.length∨w.2=M)∧w.1≤w.2∧w.2≤s1.length∧w.2≤M∧M - w.1≤s2.length) ?_ ?_)))))))))
   ·
    refine aC (fun K33 hK33=>(aB (aE aA 3 rfl (aD (hK33 _ (aI rfl (fun hc9=>?_) (fun hc9=>?_)))))))
    ·
     simp only[bs] at hc9
     refine aC (fun K34 hK34=>(aB (aE aA 2 rfl ?_)))
     refine aF rfl (fE rfl rfl (by omega) (by omega)) ?_
     refine aE aA 1 rfl (aD (hK34 _ (aB (aE aA 2 rfl ?_))))
     refine aD ?_
     exact⟨(M - s2.length,M),⟨.inr (by simp only; omega),.inr rfl,by simp only; omega,by simp only; omega,Nat.le_refl _,by simp only; omega⟩,bT ⟨(by first | rfl | exact aM (by omega)),(by first | rfl | exact aM (by omega)),(by first | rfl | exact aM (by omega)),(by first | rfl | exact aM (by omega)),(by first | rfl | exact aM (by omega)),(by first | rfl | exact aM (by omega)),(by first | rfl | exact aM (by omega)),(by first | rfl | exact aM (by omega)),(by first | rfl | exact aM (by omega)),trivial⟩ rfl⟩
    ·
     simp only[bs] at hc9
     refine aC (fun K35 hK35=>(aB (aE aA 2 rfl (aD (hK35 _ (aB (aE aA 2 rfl ?_)))))))
     refine aD ?_
     exact⟨(0,s1.length),⟨.inl rfl,.inl rfl,Nat.zero_le _,Nat.le_refl _,by simp only; omega,by simp only; omega⟩,bT ⟨(by first | rfl | exact aM (by omega)),(by first | rfl | exact aM (by omega)),(by first | rfl | exact aM (by omega)),(by first | rfl | exact aM (by omega)),(by first | rfl | exact aM (by omega)),(by first | rfl | exact aM (by omega)),(by first | rfl | exact aM (by omega)),(by first | rfl | exact aM (by omega)),(by first | rfl | exact aM (by omega)),trivial⟩ rfl⟩
   ·
    intro w hj
    obtain ⟨S0,R0⟩:=w
    obtain ⟨j1,j2,j3,j4,j5,j6⟩:=hj
    simp only at j1 j2 j3 j4 j5 j6
    refine aC (fun K36 hK36=>(aB (aE aA 1 rfl ?_)))
    refine aF rfl (fE rfl rfl (by omega) (by omega)) ?_
    refine aE aA 1 rfl (aD (hK36 _ (aC (fun K37 hK37=>(aO (bS (ι:=Nat×Nat) (fun(⟨S,R⟩:Nat×Nat)=>⟨220,[(0,.own E0 4 0 N),(1,.s (.int .i64 (p.length:Nat))),(2,.s (.int .i64 ((p.length+s1.length:Nat):Int))),(3,.s (.int .i64 ((p.length+s1.length+s2.length:Nat):Int))),(4,.fn g []),(18,.s (.int .i64 ((p.length+M:Nat):Int))),(19,.s (.int .i64 ((p.length+M:Nat)+(p.length+s1.length:Nat)))),(20,.s (.int .i64 ((p.length+S:Nat):Int))),(21,.s (.int .i64 ((p.length+R:Nat):Int))),(22,.s (.int .i64 ((p.length+M:Nat)+(p.length+s1.length:Nat) - 1)))],[(E0,.buf 4 (List.map stC (p++(s1++(s2++q)))))]⟩) (fun(⟨S,R⟩:Nat×Nat)=>S0≤S∧S≤R∧R≤R0∧(S=S0∨∀ z w,s1[S - 1]?=some z→s2[M - S]?=some w→c z w≤0)∧(R=R0∨∀ z w,s2[M - 1 - R]?=some z→s1[R]?=some w→c z w≤0)) (fun(⟨S,R⟩:Nat×Nat)=>R - S) (S0,R0) ?_ ?_ ?_))))))
    · exact⟨Nat.le_refl _,j3,Nat.le_refl _,.inl rfl,.inl rfl⟩
    · exact bT ⟨(by first | rfl | exact aM (by omega)),(by first | rfl | exact aM (by omega)),(by first | rfl | exact aM (by omega)),(by first | rfl | exact aM (by omega)),(by first | rfl | exact aM (by omega)),(by first | rfl | exact aM (by omega)),(by first | rfl | exact aM (by omega)),(by first | rfl | exact aM (by omega)),(by first | rfl | exact aM (by omega)),(by first | rfl | exact aM (by omega)),trivial⟩ rfl
    ·
     rintro ⟨S,R⟩ hC
     obtain ⟨q1,q2,q3,q4,q5⟩:=hC
     refine aC (fun K38 hK38=>(aC (fun K39 hK39=>(aB (aE aA 3 rfl (aD (hK39 _ (aI rfl (fun hc10=>?_) (fun hc10=>?_)))))))))
     ·
      simp only[bs] at hc10
      refine aL (hK38 _ (aO (aC (fun K40 hK40=>(aB ?_)))))
      obtain ⟨h,eh⟩:∃ h,h=(S+R) / 2:=⟨_,rfl⟩
      have hz:=yB (a:=((p.length+S:Nat):Int)+((p.length+R:Nat):Int)) (b:=((p.length+h:Nat):Int)) (by omega) (by omega) (by omega)
      refine aE aA 2 rfl ?_
      refine aF rfl (bJ rfl rfl (by omega) (by omega)) ?_
      refine aF rfl (nY rfl Tryz.underlying3 Tryz.underlying234 hz.1) (aF rfl (xT rfl hz.2.1 (by decide)) (aF rfl (nY rfl Tryz.underlying234 Tryz.underlying3 hz.2.2) (aE aA 1 rfl (aD (hK40 _ (aC (fun K41 hK41=>(eQ hf bN (by kernel_rfl) rfl ?_))))))))
      have hh1:h<s1.length:=by omega
      have hh2:M - 1 - h<s2.length:=by omega
      refine bL aA 4 rfl ?_
      refine bY [(160,_),(161,_)] rfl rfl ⟨⟨rfl,rfl⟩,⟨rfl,rfl⟩,trivial⟩ rfl (fE rfl rfl (by omega) (by omega)) ?_
      refine bY [(159,_),(162,_)] rfl rfl ⟨⟨rfl,rfl⟩,⟨rfl,rfl⟩,trivial⟩ rfl (bX rfl rfl cG aX (by omega)) ?_
      refine bY [(163,_)] rfl rfl ⟨⟨rfl,rfl⟩,trivial⟩ rfl (bM rfl dS aX rfl (eI (k:=4) (enc:=stC) (z:=p.length+s1.length+(M - 1 - h)) (by omega) (atM hh2) rfl) (dR (k:=4) (enc:=stC) (z:=p.length+s1.length+(M - 1 - h)) (by omega) (atM hh2) rfl)) (bL aA 2 rfl ?_)
      refine bY [(165,_),(166,_)] rfl rfl ⟨⟨rfl,rfl⟩,⟨rfl,rfl⟩,trivial⟩ rfl (bX rfl rfl cG aX (by omega)) ?_
      refine bY [(167,_)] rfl rfl ⟨⟨rfl,rfl⟩,trivial⟩ rfl (bM rfl dS aX rfl (eI (k:=4) (enc:=stC) (z:=p.length+h) (by omega) (atL hh1) rfl) (dR (k:=4) (enc:=stC) (z:=p.length+h) (by omega) (atL hh1) rfl)) (cA [(158,_),(164,_),(168,_)] rfl rfl ⟨⟨rfl,rfl⟩,⟨rfl,rfl⟩,⟨rfl,rfl⟩,trivial⟩ rfl (aR rfl rfl hent rfl (hcmp s2[M - 1 - h] s1[h])) (bL aA 2 rfl (gE [0,1,2,3,4,18,19,20,21,22,23,171] rfl rfl rfl (hK41 _ (aI rfl (fun hc11=>?_) (fun hc11=>?_))))))
      ·
       simp only[bs] at hc11
       refine aB (aE aA 1 rfl ?_)
       refine aF rfl (bJ rfl rfl (by omega) (by omega)) ?_
       refine aE aA 1 rfl ?_
       refine bB ?_
       exact⟨(h+1,R),⟨by omega,by omega,q3,.inr (fun z w hz hw=>by rw[Nat.add_sub_cancel,List.getElem?_eq_getElem hh1] at hz; rw[show M - (h+1)=M - 1 - h by omega,List.getElem?_eq_getElem hh2] at hw; cases hz; cases hw; have:=hc.swap s1[h] s2[M - 1 - h]; omega),q5⟩,by simp only; omega,bT ⟨(by first | rfl | exact aM (by omega)),(by first | rfl | exact aM (by omega)),(by first | rfl | exact aM (by omega)),(by first | rfl | exact aM (by omega)),(by first | rfl | exact aM (by omega)),(by first | rfl | exact aM (by omega)),(by first | rfl | exact aM (by omega)),(by first | rfl | exact aM (by omega)),(by first | rfl | exact aM (by omega)),(by first | rfl | exact aM (by omega)),trivial⟩ rfl⟩
      ·
       simp only[bs] at hc11
       refine aB (aE aA 2 rfl ?_)
       refine bB ?_
       exact⟨(S,h),⟨q1,by omega,by omega,q4,.inr (fun z w hz hw=>by rw[List.getElem?_eq_getElem hh2] at hz; rw[List.getElem?_eq_getElem hh1] at hw; cases hz; cases hw; omega)⟩,by simp only; omega,bT ⟨(by first | rfl | exact aM (by omega)),(by first | rfl | exact aM (by omega)),(by first | rfl | exact aM (by omega)),(by first | rfl | exact aM (by omega)),(by first | rfl | exact aM (by omega)),(by first | rfl | exact aM (by omega)),(by first | rfl | exact aM (by omega)),(by first | rfl | exact aM (by omega)),(by first | rfl | exact aM (by omega)),(by first | rfl | exact aM (by omega)),trivial⟩ rfl⟩
     ·
      simp only[bs] at hc10
      refine bA (hK37 _ (aC (fun K42 hK42=>(aB ?_))))
      obtain ⟨K,hK⟩:∃ K,K=M - S:=⟨_,rfl⟩
      have hA:∀ (h0:0<S) (h3:K<s2.length),c (s1[S - 1]'(by omega)) s2[K]≤0:=fun h0 h3=>by
       rcases q4 with e | e
       · exfalso; omega
       · exact e _ _ (List.getElem?_eq_getElem (by omega)) (by rw[← hK]; exact List.getElem?_eq_getElem h3)
      have hB:∀ (h0:0<K) (h3:S<s1.length),c (s2[K - 1]'(by omega)) s1[S]≤0:=fun h0 h3=>by
       have hSR:S=R:=by omega
       rw[← hSR] at q5
       rcases q5 with e | e
       · exfalso; omega
       · exact e _ _ (by rw[show M - 1 - S=K - 1 by omega]; exact List.getElem?_eq_getElem (by omega)) (List.getElem?_eq_getElem h3)
      have hsep:=sym_sep hc hs1 hs2 (show S≤s1.length by omega) (show K≤s2.length by omega) hA hB
      refine aE aA 2 rfl ?_
      refine aF rfl (fE rfl rfl (by omega) (by omega)) ?_
      rw[show (((p.length+M:Nat):Int)+((p.length+s1.length:Nat):Int)) - ((p.length+S:Nat):Int)=((p.length+s1.length+K:Nat):Int) from by omega]
      refine aE aA 1 rfl (aD (hK42 _ (aGm (ι:=Unit) (fun w=>⟨220,[(0,.own E0 4 0 N),(1,.s (.int .i64 (p.length:Nat))),(3,.s (.int .i64 ((p.length+s1.length+s2.length:Nat):Int))),(4,.fn g []),(18,.s (.int .i64 ((p.length+M:Nat):Int))),(20,.s (.int .i64 ((p.length+S:Nat):Int))),(24,.s (.int .i64 ((p.length+s1.length+K:Nat):Int)))],[(E0,.buf 4 (List.map stC (p++((s1.take S++s2.take K)++((s1.drop S++s2.drop K)++q)))))]⟩) (fun w=>True) ?_ ?_)))
      ·
       refine aC (fun K44 hK44=>(aB (aE aA 4 rfl (aY rfl rfl rfl (fun hg12=>?_) (fun hg12=>?_)))))
       ·
        simp only[bs] at hg12
        refine aF rfl (fA rfl) (aE aA 3 rfl (aD (hK44 _ (aI rfl (fun hc13=>?_) (fun hc13=>?_)))))
        ·
         simp only[bs] at hc13
         refine aB ?_
         rw[aQ5 (p:=p) (s1:=s1) (s2:=s2) (q:=q) S K]
         refine aE aA 5 rfl (gA hf E0 rfl rfl rfl rfl rfl aKa (aL7 g (p++s1.take S) (s1.drop S) (s2.take K) (s2.drop K++q) N _ _ _ (by(try simp only[List.length_take,List.length_drop,List.length_append]); omega) (by(try simp only[List.length_take,List.length_drop,List.length_append]); omega) (by(try simp only[List.length_take,List.length_drop,List.length_append]); omega) (by(try simp only[List.length_take,List.length_drop,List.length_append]); omega) (by(try simp only[List.length_take,List.length_drop,List.length_append]); omega) (by(try simp only[List.length_take,List.length_drop,List.length_append]); omega) hM) ?_)
         rintro r zs rfl
         refine aD ?_
         exact⟨(),trivial,bT ⟨(by first | rfl | exact aM (by omega)),(by first | rfl | exact aM (by omega)),(by first | rfl | exact aM (by omega)),(by first | rfl | exact aM (by omega)),(by first | rfl | exact aM (by omega)),(by first | rfl | exact aM (by omega)),(by first | rfl | exact aM (by omega)),trivial⟩ (congrArg (fun l=>[(E0,AM.buf 4 (List.map stC l))]) (by simp only[List.append_assoc]))⟩
        ·
         simp only[bs] at hc13
         refine aL ?_
         exact⟨(),trivial,bT ⟨(by first | rfl | exact aM (by omega)),(by first | rfl | exact aM (by omega)),(by first | rfl | exact aM (by omega)),(by first | rfl | exact aM (by omega)),(by first | rfl | exact aM (by omega)),(by first | rfl | exact aM (by omega)),(by first | rfl | exact aM (by omega)),trivial⟩ (by rw[aHa (p:=p) (s1:=s1) (s2:=s2) (q:=q) (S:=S) (K:=K) (by omega)])⟩
       ·
        simp only[bs] at hg12
        refine aE aA 3 rfl (aD (hK44 _ (bD rfl (aL ?_))))
        exact⟨(),trivial,bT ⟨(by first | rfl | exact aM (by omega)),(by first | rfl | exact aM (by omega)),(by first | rfl | exact aM (by omega)),(by first | rfl | exact aM (by omega)),(by first | rfl | exact aM (by omega)),(by first | rfl | exact aM (by omega)),(by first | rfl | exact aM (by omega)),trivial⟩ (by rw[aHa (p:=p) (s1:=s1) (s2:=s2) (q:=q) (S:=S) (K:=K) (by omega)])⟩
      ·
       intro w hj
       refine aGm (ι:=List bP) (fun l=>⟨220,[(0,.own E0 4 0 N),(3,.s (.int .i64 ((p.length+s1.length+s2.length:Nat):Int))),(4,.fn g []),(18,.s (.int .i64 ((p.length+M:Nat):Int))),(24,.s (.int .i64 ((p.length+s1.length+K:Nat):Int)))],[(E0,.buf 4 (List.map stC (p++(l++((s1.drop S++s2.drop K)++q)))))]⟩) (fun l=>l.Perm (s1.take S++s2.take K)∧Srt c l) ?_ ?_
       ·
        refine aC (fun K46 hK46=>(aB (aE aA 4 rfl (aY rfl rfl rfl (fun hg15=>?_) (fun hg15=>?_)))))
        ·
         simp only[bs] at hg15
         refine aF rfl (fA rfl) (aE aA 3 rfl (aD (hK46 _ (aI rfl (fun hc16=>?_) (fun hc16=>?_)))))
         ·
          simp only[bs] at hc16
          refine aB ?_
          rw[List.append_assoc (s1.take S)]
          refine aE aA 5 rfl (gA hf E0 rfl rfl rfl rfl rfl qF (ih p (s1.take S) (s2.take K) ((s1.drop S++s2.drop K)++q) N _ _ _ (by(try simp only[List.length_take,List.length_drop,List.length_append]); omega) (by(try simp only[List.length_take,List.length_drop,List.length_append]); omega) rfl (by(try simp only[List.length_take,List.length_drop,List.length_append]); omega) (by(try simp only[List.length_take,List.length_drop,List.length_append]); omega) (by(try simp only[List.length_take,List.length_drop,List.length_append]); omega) (by(try simp only[List.length_take,List.length_drop,List.length_append]); omega) (hs1.take S) (hs2.take K) hM) ?_)
          rintro r zs ⟨lq,hl1,hl2,rfl⟩
          refine aD ?_
          exact⟨lq,⟨hl1,hl2⟩,bT ⟨(by first | rfl | exact aM (by omega)),(by first | rfl | exact aM (by omega)),(by first | rfl | exact aM (by omega)),(by first | rfl | exact aM (by omega)),(by first | rfl | exact aM (by omega)),trivial⟩ rfl⟩
         ·
          simp only[bs] at hc16
          refine aL ?_
          exact⟨s1.take S++s2.take K,⟨.refl _,aHe hs1 hs2 (by omega)⟩,bT ⟨(by first | rfl | exact aM (by omega)),(by first | rfl | exact aM (by omega)),(by first | rfl | exact aM (by omega)),(by first | rfl | exact aM (by omega)),(by first | rfl | exact aM (by omega)),trivial⟩ rfl⟩
        ·
         simp only[bs] at hg15
         refine aE aA 3 rfl (aD (hK46 _ (bD rfl (aL ?_))))
         exact⟨s1.take S++s2.take K,⟨.refl _,aHe hs1 hs2 (by omega)⟩,bT ⟨(by first | rfl | exact aM (by omega)),(by first | rfl | exact aM (by omega)),(by first | rfl | exact aM (by omega)),(by first | rfl | exact aM (by omega)),(by first | rfl | exact aM (by omega)),trivial⟩ rfl⟩
       ·
        intro l hj
        obtain ⟨hl1,hl2⟩:=hj
        have hll:=hl1.length_eq
        rw[List.length_append,List.length_take,List.length_take] at hll
        refine aC (fun K47 hK47=>(aB (aE aA 4 rfl (aY rfl rfl rfl (fun hg18=>?_) (fun hg18=>?_)))))
        ·
         simp only[bs] at hg18
         refine aF rfl (fA rfl) (aE aA 3 rfl (aD (hK47 _ (aI rfl (fun hc19=>?_) (fun hc19=>?_)))))
         ·
          simp only[bs] at hc19
          refine aB ?_
          rw[show p++(l++((s1.drop S++s2.drop K)++q))=(p++l)++(s1.drop S++(s2.drop K++q)) from by simp only[List.append_assoc]]
          refine aE aA 5 rfl (gA hf E0 rfl rfl rfl rfl rfl qF (ih (p++l) (s1.drop S) (s2.drop K) q N _ _ _ (by(try simp only[List.length_take,List.length_drop,List.length_append]); omega) (by(try simp only[List.length_take,List.length_drop,List.length_append]); omega) (by(try simp only[List.length_take,List.length_drop,List.length_append]); omega) (by(try simp only[List.length_take,List.length_drop,List.length_append]); omega) (by(try simp only[List.length_take,List.length_drop,List.length_append]); omega) (by(try simp only[List.length_take,List.length_drop,List.length_append]); omega) (by(try simp only[List.length_take,List.length_drop,List.length_append]); omega) (hs1.drop S) (hs2.drop K) hM) ?_)
          rintro r zs ⟨rq,hr1,hr2,rfl⟩
          refine bB ?_
          exact⟨_,_,_,Le.refl _,rfl,rfl,l++rq,tE hl1 hr1,Srt.append hl2 hr2 (aBm hl1 hr1 hsep),by simp only[List.append_assoc]⟩
         ·
          simp only[bs] at hc19
          refine aL ?_
          exact⟨_,_,_,Le.refl _,rfl,rfl,l++(s1.drop S++s2.drop K),tE hl1 (.refl _),Srt.append hl2 (aEm hs1 hs2 (by omega)) (aBm hl1 (.refl _) hsep),by simp only[List.append_assoc]⟩
        ·
         simp only[bs] at hg18
         refine aE aA 3 rfl (aD (hK47 _ (bD rfl (aL ?_))))
         exact⟨_,_,_,Le.refl _,rfl,rfl,l++(s1.drop S++s2.drop K),tE hl1 (.refl _),Srt.append hl2 (aEm hs1 hs2 (by omega)) (aBm hl1 (.refl _) hsep),by simp only[List.append_assoc]⟩
theorem vF {g:Nat} (hent:∀ args w,(callFunc g args).run Tryz.prog w=.ok (.enter g args) w) {c:bP→bP→Int} (hc:Tri c) (hcmp:∀ x y:bP,Den Tryz.prog g [.agg (stC x),.agg (stC y)] (·=.s (.int .i64 (c x y)))):∀ (NN:Nat) (p s1 s2 q:List bP) (N:Nat) (za zm zb:Int),s1.length+s2.length≤NN→N=p.length+s1.length+s2.length+q.length→za=(p.length:Nat)→zm=((p.length+s1.length:Nat):Int)→zb=((p.length+s1.length+s2.length:Nat):Int)→0<s1.length→0<s2.length→Srt c s1→Srt c s2→N<4611686018427387904→DenM Tryz.prog 217 [.own E0 4 0 N,.s (.int .i64 za),.s (.int .i64 zm),.s (.int .i64 zb),.fn g []] 4 (List.map stC (p++(s1++(s2++q)))) (fun r ys=>∃ t:List bP,t.Perm (s1++s2)∧Srt c t∧ys=(List.map stC (p++(t++q))))
 | 0,p,s1,s2,q,N,za,zm,zb,hle,_,_,_,_,h01,_,_,_,_=>by exfalso; omega
 | NN+1,p,s1,s2,q,N,za,zm,zb,hle,hN,hza,hzm,hzb,h01,h02,hs1,hs2,hM=>aBh hent hc hcmp NN (vF hent hc hcmp NN) p s1 s2 q N za zm zb hle hN hza hzm hzb h01 h02 hs1 hs2 hM
theorem aDo {g:Nat} (hent:∀ args w,(callFunc g args).run Tryz.prog w=.ok (.enter g args) w) {c:bP→bP→Int} (hc:Tri c) (hcmp:∀ x y:bP,Den Tryz.prog g [.agg (stC x),.agg (stC y)] (·=.s (.int .i64 (c x y)))) (s0:List bP) (N:Nat) (hN:N=s0.length) (hM:N<4611686018427387904) :DenM Tryz.prog 175 [.own E0 4 0 N,.s (.int .i64 (N:Nat)),.fn g []] 4 ((List.map stC (s0))) (fun r ys=>∃ t:List bP,t.Perm s0∧Srt c t∧ys=(List.map stC (t))):=by
 refine gI Tryz.func175 rfl (Nat.le_of_ble_eq_true rfl) (fun w0 x0 A hf=>?_)
 refine aC (fun K1 hK1=>(aB (aE aA 1 rfl (aD (hK1 _ (aC (fun K2 hK2=>(aB (aE aA 3 rfl (aD (hK2 _ (aC (fun K3 hK3=>(aO (bS (ι:=List bP×List bP) (fun(⟨x,y⟩:List bP×List bP)=>⟨63,[(0,.own E0 4 0 N),(1,.s (.int .i64 (N:Nat))),(2,.fn g []),(6,.s (.int .i64 20)),(7,.s (.int .i64 (x.length:Nat))),(8,.s (.int .i64 ((x.length+20:Nat):Int)))],[(E0,.buf 4 (List.map stC (x++y)))]⟩) (fun(⟨x,y⟩:List bP×List bP)=>Fu c 20 x∧(x++y).Perm s0) (fun(⟨x,y⟩:List bP×List bP)=>y.length) ([],s0) ?_ ?_ ?_)))))))))))))))
 · exact⟨.nil,.refl _⟩
 · exact dN rfl
 ·
  rintro ⟨x,y⟩ hC
  obtain ⟨hd,hp⟩:=hC
  have hpl:=hp.length_eq
  rw[List.length_append] at hpl
  refine aC (fun K4 hK4=>(aC (fun K5 hK5=>(aB (aE aA 3 rfl (aD (hK5 _ (aI rfl (fun hc1=>?_) (fun hc1=>?_)))))))))
  ·
   simp only[bs] at hc1
   refine aL (hK4 _ (aO (aC (fun K6 hK6=>(aB ?_)))))
   have htk:=List.length_take (i:=20) (l:=y)
   have hdk:=List.length_drop (i:=20) (l:=y)
   rw[show x++y=x++(y.take 20++y.drop 20) from by rw[List.take_append_drop]]
   refine aE aA 4 rfl (gA hf E0 rfl rfl rfl rfl rfl zE (aBi hent hc hcmp x (y.take 20) (y.drop 20) N _ _ (by omega) (by omega) (by omega) hM) ?_)
   rintro r zs ⟨t,ht1,ht2,rfl⟩
   have htl:=ht1.length_eq
   refine aD (hK6 _ (aC (fun K7 hK7=>(aB (aE aA 2 rfl (aD (hK7 _ (aB (aE aA 2 rfl ?_)))))))))
   refine aF rfl (bJ rfl rfl (by omega) (by omega)) ?_
   refine aE aA 1 rfl ?_
   refine bB ?_
   exact⟨(x++t,y.drop 20),⟨.cons hd ht2 (by have:=ht1.length_eq; rw[List.length_take] at this; omega),(show ((x++t)++y.drop 20).Perm s0 from (by rw[List.append_assoc]; exact(List.Perm.append_left x ((List.Perm.append_right _ ht1).trans (by rw[List.take_append_drop]))).trans hp))⟩,by simp only[List.length_drop]; omega,bT ⟨(by first | rfl | exact aM (by simp only[List.length_append]; omega)),(by first | rfl | exact aM (by simp only[List.length_append]; omega)),(by first | rfl | exact aM (by simp only[List.length_append]; omega)),(by first | rfl | exact aM (by simp only[List.length_append]; omega)),(by first | rfl | exact aM (by simp only[List.length_append]; omega)),(by first | rfl | exact aM (by simp only[List.length_append]; omega)),trivial⟩ (by rw[List.append_assoc]; rfl)⟩
  ·
   simp only[bs] at hc1
   refine bA (hK3 _ (aC (fun K8 hK8=>(aB ?_))))
   rw[show x++y=x++(y++[]) from by rw[List.append_nil]]
   refine aE aA 4 rfl (gA hf E0 rfl rfl rfl rfl rfl zE (aBi hent hc hcmp x y [] N _ _ (by simp only[List.length_nil]; omega) (by omega) (by omega) hM) ?_)
   rintro r zs ⟨t0,ht01,ht02,rfl⟩
   refine aD (hK8 _ (aO (bS (ι:=Nat×List bP) (fun(⟨bz,l⟩:Nat×List bP)=>⟨63,[(0,.own E0 4 0 N),(1,.s (.int .i64 (N:Nat))),(2,.fn g []),(6,.s (.int .i64 (bz:Nat)))],[(E0,.buf 4 (List.map stC (l)))]⟩) (fun(⟨bz,l⟩:Nat×List bP)=>0<bz∧bz<9223372036854775808∧Ch c bz l∧l.Perm s0) (fun(⟨bz,l⟩:Nat×List bP)=>N - bz) (20,x++t0) ?_ ?_ ?_)))
   · exact⟨by decide,by decide,hd.ch (.last ht02 (by have:=ht01.length_eq; omega)),(List.Perm.append_left x ht01).trans hp⟩
   · exact bT ⟨rfl,rfl,rfl,rfl,trivial⟩ (by rw[List.append_nil]; rfl)
   ·
    rintro ⟨bz,l⟩ hC
    obtain ⟨hb0,hb1,hch,hlp⟩:=hC
    have hll:=hlp.length_eq
    refine aC (fun K9 hK9=>(aC (fun K10 hK10=>(aB (aE aA 3 rfl (aD (hK10 _ (aI rfl (fun hc2=>?_) (fun hc2=>?_)))))))))
    ·
     simp only[bs] at hc2
     refine aL (hK9 _ (aO (aC (fun K11 hK11=>(aB (aE aA 1 rfl (aF rfl (aOk rfl rfl rfl (by omega) (by omega)) (aE aA 2 rfl (aD (hK11 _ (aC (fun K12 hK12=>(aO (bS (ι:=List bP×List bP) (fun(⟨x,y⟩:List bP×List bP)=>⟨63,[(0,.own E0 4 0 N),(1,.s (.int .i64 (N:Nat))),(2,.fn g []),(6,.s (.int .i64 (bz:Nat))),(7,.s (.int .i64 (x.length:Nat))),(8,.s (.int .i64 ((x.length+2*bz:Nat):Int)))],[(E0,.buf 4 (List.map stC (x++y)))]⟩) (fun(⟨x,y⟩:List bP×List bP)=>Fu c (2*bz) x∧Ch c bz y∧(x++y).Perm s0) (fun(⟨x,y⟩:List bP×List bP)=>y.length) ([],l) ?_ ?_ ?_))))))))))))))
     · exact⟨.nil,hch,hlp⟩
     · exact bT ⟨rfl,rfl,rfl,rfl,rfl,aM (by simp only[List.length_nil]; omega),trivial⟩ rfl
     ·
      rintro ⟨x,y⟩ hC
      obtain ⟨hd2,hr2,hp2⟩:=hC
      have hpl2:=hp2.length_eq
      rw[List.length_append] at hpl2
      refine aC (fun K13 hK13=>(aC (fun K14 hK14=>(aB (aE aA 3 rfl (aD (hK14 _ (aI rfl (fun hc3=>?_) (fun hc3=>?_)))))))))
      ·
       simp only[bs] at hc3
       refine aL (hK13 _ (aO (aC (fun K15 hK15=>(aB ?_)))))
       obtain ⟨sa,sb,r3,hy,hsa1,hsa2,hsb1,hsb2,hr3⟩:=hr2.pair hb0 (by omega)
       subst hy
       simp only[List.length_append] at hpl2
       refine aE aA 4 rfl ?_
       refine aF rfl (bJ rfl rfl (by omega) (by omega)) ?_
       refine aE aA 2 rfl (gA hf E0 rfl rfl rfl rfl rfl qF (vF hent hc hcmp (sa.length+sb.length) x sa sb r3 N _ _ _ (Nat.le_refl _) (by omega) (by omega) (by omega) (by omega) (by omega) (by omega) hsa1 hsb1 hM) ?_)
       rintro r zs ⟨tt,htt1,htt2,rfl⟩
       have httl:=htt1.length_eq
       rw[List.length_append] at httl
       refine aD (hK15 _ (aC (fun K16 hK16=>(aB (aE aA 2 rfl (aD (hK16 _ (aB (aE aA 2 rfl (aF rfl (aOk rfl rfl rfl (by omega) (by omega)) ?_))))))))))
       refine aF rfl (bJ rfl rfl (by omega) (by omega)) ?_
       refine aE aA 1 rfl ?_
       refine bB ?_
       exact⟨(x++tt,r3),⟨.cons hd2 htt2 (by have:=htt1.length_eq; rw[List.length_append] at this; omega),hr3,(show ((x++tt)++r3).Perm s0 from (by rw[List.append_assoc]; exact(List.Perm.append_left x ((List.Perm.append_right r3 htt1).trans (by rw[List.append_assoc]))).trans hp2))⟩,by simp only[List.length_append]; omega,bT ⟨(by first | rfl | exact aM (by simp only[List.length_append]; omega)),(by first | rfl | exact aM (by simp only[List.length_append]; omega)),(by first | rfl | exact aM (by simp only[List.length_append]; omega)),(by first | rfl | exact aM (by simp only[List.length_append]; omega)),(by first | rfl | exact aM (by simp only[List.length_append]; omega)),(by first | rfl | exact aM (by simp only[List.length_append]; omega)),trivial⟩ (by rw[List.append_assoc]; rfl)⟩
      ·
       simp only[bs] at hc3
       refine bA (hK12 _ (aC (fun K17 hK17=>(aC (fun K18 hK18=>(aB (aE aA 2 rfl ?_)))))))
       refine aF rfl (bJ rfl rfl (by omega) (by omega)) ?_
       refine aE aA 1 rfl (aD (hK18 _ (aC (fun K19 hK19=>(aB (aE aA 3 rfl (aD (hK19 _ (aI rfl (fun hc4=>?_) (fun hc4=>?_))))))))))
       ·
        simp only[bs] at hc4
        refine aB ?_
        obtain ⟨sa,sb,hy,hsa1,hsa2,hsb1,hsb2⟩:=hr2.rest (by omega) (by omega)
        subst hy
        simp only[List.length_append] at hpl2
        rw[show x++(sa++sb)=x++(sa++(sb++[])) from by rw[List.append_nil]]
        refine aE aA 5 rfl (gA hf E0 rfl rfl rfl rfl rfl qF (vF hent hc hcmp (sa.length+sb.length) x sa sb [] N _ _ _ (Nat.le_refl _) (by simp only[List.length_nil]; omega) (by omega) (by omega) (by omega) (by omega) (by omega) hsa1 hsb1 hM) ?_)
        rintro r zs ⟨tq,htq1,htq2,rfl⟩
        refine aD (hK17 _ (aB (aE aA 1 rfl (aF rfl (aOk rfl rfl rfl (by omega) (by omega)) (aE aA 1 rfl ?_)))))
        refine bB ?_
        exact⟨(2*bz,x++tq),⟨by omega,by omega,hd2.ch (.last htq2 (by have:=htq1.length_eq; rw[List.length_append] at this; omega)),(List.Perm.append_left x htq1).trans hp2⟩,by simp only; omega,bT ⟨(by first | rfl | exact aM (by omega)),(by first | rfl | exact aM (by omega)),(by first | rfl | exact aM (by omega)),(by first | rfl | exact aM (by omega)),trivial⟩ (by rw[List.append_nil]; rfl)⟩
       ·
        simp only[bs] at hc4
        refine aL (hK17 _ (aB (aE aA 1 rfl (aF rfl (aOk rfl rfl rfl (by omega) (by omega)) (aE aA 1 rfl ?_)))))
        refine bB ?_
        exact⟨(2*bz,x++y),⟨by omega,by omega,hd2.ch (.last (hr2.short (by omega)) (by omega)),hp2⟩,by simp only; omega,bT ⟨(by first | rfl | exact aM (by omega)),(by first | rfl | exact aM (by omega)),(by first | rfl | exact aM (by omega)),(by first | rfl | exact aM (by omega)),trivial⟩ rfl⟩
    ·
     simp only[bs] at hc2
     refine bA ?_
     exact⟨_,_,_,Le.refl _,rfl,rfl,l,hlp,hch.short (by omega),rfl⟩
theorem vY {g:Nat} (hent:∀ args w,(callFunc g args).run Tryz.prog w=.ok (.enter g args) w) {c:bP→bP→Int} (hc:Tri c) (hcmp:∀ x y:bP,Den Tryz.prog g [.agg (stC x),.agg (stC y)] (·=.s (.int .i64 (c x y)))) (s0:List bP) (N:Nat) (hN:N=s0.length) (hM:N<4611686018427387904) :DenM Tryz.prog 116 [.own E0 4 0 N,.fn g []] 4 ((List.map stC (s0))) (fun r ys=>∃ t:List bP,t.Perm s0∧Srt c t∧ys=(List.map stC (t))):=by
 refine gI Tryz.func116 rfl (Nat.le_of_ble_eq_true rfl) (fun w0 x0 A hf=>?_)
 refine aB (aE aA 4 rfl (gA hf E0 rfl rfl rfl rfl rfl aK5 (aDo hent hc hcmp s0 N hN hM) ?_))
 rintro r zs ⟨t,ht1,ht2,rfl⟩
 refine bB ?_
 exact⟨_,_,_,Le.refl _,rfl,rfl,t,ht1,ht2,rfl⟩
end Go.Proofs.YtijnkglkchhomaaGreat
set_option linter.unusedVariables false
set_option linter.unusedSimpArgs false
namespace Go.Proofs.YtijnkglkchhomaaGreat
open Go Go.Abs
theorem aEa {g:Nat} {cap:List AV} (hent:∀ args w,(callFunc g args).run Tryz.prog w=.ok (.enter g args) w) (hcl:cleanL (fun _=>false) cap=true) (p:Sp→Bool) (l:List Sp) (hl:l.length≤9223372036854775807) (hp:∀ x∈l,Den Tryz.prog g (.agg (spC x)::cap) (·=.s (.bool (p x)))) :Den Tryz.prog 178 [.sl 2 (l.map spC),.fn g cap]  (·=.s (.int .i64 (kZ p l))):=by
 refine aS Tryz.func178 rfl (Nat.le_of_ble_eq_true rfl) (fun w0 A hf=>(aC (fun K1 hK1=>(aB (aE aA 1 rfl (aD (hK1 _ (aC (fun K2 hK2=>(aC (fun K3 hK3=>(aB (aE aA 3 rfl (aD (hK3 _ (aO ?_))))))))))))))))
 refine bS (ι:=Nat) (fun k=>⟨19,[(0,.sl 2 (l.map spC)),(1,.fn g cap),(7,.s (.int .i64 ((l.map spC).length:Nat))),(8,.s (.int .i64 (k:Nat)))],[]⟩) (fun k=>k≤l.length∧∀ (j:Nat) (hj:j<l.length),j<k→p l[j]=false) (fun k=>l.length - k) 0 ?_ ?_ ?_
 · exact⟨by omega,by omega⟩
 · exact dN rfl
 ·
  rintro k hC
  obtain ⟨h1,h2⟩:=hC
  refine aC (fun K4 hK4=>(aB (aE aA 1 rfl (aD (hK4 _ (aC (fun K5 hK5=>(aI rfl (fun hc1=>?_) (fun hc1=>?_)))))))))
  ·
   simp only[bs] at hc1
   refine aL (hK5 _ (aC (fun K6 hK6=>(aO (aC (fun K7 hK7=>(aB (aE aA 2 rfl (aD (hK7 _ (aC (fun K8 hK8=>(aB (aE aA 3 rfl ?_))))))))))))))
   refine aF rfl (aW rfl rfl kH eS (by first | exact ixm (by omega) | assumption | exact⟨by decide,rfl⟩)) ?_
   refine aE aA 1 rfl (aK hf rfl (aR rfl rfl hent (by rw[fN,hcl]; rfl) (hp _ (List.getElem_mem _))) ?_)
   refine aD (hK8 _ (aI rfl (fun hc2=>?_) (fun hc2=>?_)))
   ·
    refine aC (fun K9 hK9=>(aB (aE aA 2 rfl (aD (hK9 _ (aJ ?_))))))
    refine⟨_,rfl,?_⟩
    refine dM ?_
    rw[iK (by omega) h2 (by assumption)]
   ·
    refine aL (hK6 _ (aB ?_))
    refine aF rfl (bJ rfl rfl (by omega) (by omega)) ?_
    refine aE aA 1 rfl (aD ?_)
    exact⟨k+1,⟨by omega,fun j hj hjk=>by
      by_cases e:j=k
      · subst e; simp_all
      · exact h2 j hj (by omega)⟩,by omega,dN rfl⟩
  ·
   simp only[bs] at hc1
   refine bA (hK2 _ (aC (fun K10 hK10=>(aB (aE aA 1 rfl (aD (hK10 _ (aJ ?_))))))))
   refine⟨_,rfl,?_⟩
   refine dM ?_
   rw[lQ (fun j hj=>h2 j hj (by omega))]
theorem aCu {g:Nat} {cap:List AV} (hent:∀ args w,(callFunc g args).run Tryz.prog w=.ok (.enter g args) w) (hcl:cleanL (fun _=>false) cap=true) (hcv:∀ m,convL m cap=cap) (p:Sp→Bool) (l:List Sp) (n:Nat) (hn:n=l.length) (hl:l.length≤9223372036854775807) (hp:∀ x∈l,Den Tryz.prog g (.agg (spC x)::cap) (·=.s (.bool (p x)))) :DenM Tryz.prog 124 [.own E0 2 0 n,.fn g cap] 2 ((l.map spC)) (fun r ys=>r=.own E0 2 0 (l.filter fun x=>!p x).length∧ys=((l.filter fun x=>!p x).map spC)):=by
 subst hn
 have hq0:∀ j,((l.take j).filter fun x=>!p x).length≤j:=fun j=>gT _ l j
 have hq1:∀ j,((l.take j).filter fun x=>!p x).length≤l.length:=fun j=>gG _ l j
 refine gI Tryz.func124 rfl (Nat.le_of_ble_eq_true rfl) (fun w0 x0 A hf=>?_)
 refine aC (fun K1 hK1=>(aB (aF rfl (bE) (aD (hK1 _ (aC (fun K2 hK2=>(aB (aE aA 2 rfl (aK hf rfl (pW rfl rfl (by show [AV.conv _ _,AV.fn g (convL _ cap)]=_; rw[hcv,bV (g:=E0) rfl (by simp)]) aK3 (aEa hent hcl p l hl hp) rfl) ?_))))))))))
 refine aE aA 1 rfl (aD (hK2 _ (aC (fun K3 hK3=>(aC (fun K4 hK4=>(aB (aE aA 2 rfl (aD (hK4 _ (aI rfl (fun hc1=>?_) (fun hc1=>?_))))))))))))
 ·
  simp only[bs] at hc1
  refine aC (fun K5 hK5=>(aB (aE aA 2 rfl (aD (hK5 _ (aJ ?_))))))
  have hno:kZ p l=-1:=by simpa using hc1
  rcases dE p l with ⟨_,hn⟩ | ⟨k,hk,e,_⟩
  · exact⟨_,.own E0 2 0 l.length,(l.map spC),Le.refl _,rfl,rfl,by rw[fL p l hn],by rw[fL p l hn]⟩
  · exfalso; omega
 ·
  simp only[bs] at hc1
  refine aL (hK3 _ (aC (fun K6 hK6=>(aC (fun K7 hK7=>(aB ?_))))))
  rcases dE p l with ⟨e0,_⟩ | ⟨k0,hk0,ek0,hpk0,hbef⟩
  · exact absurd e0 (by simpa using hc1)
  have hst:=kP (fun x=>!p x) l k0 hk0 (fun j hj hjk=>by simp [hbef j hj hjk]) (by simp [hpk0])
  rw[ek0]
  refine aE aA 1 rfl ?_
  refine aF rfl (bJ rfl rfl (by omega) (by omega)) ?_
  refine aE aA 1 rfl (aD (hK7 _ (aO (bS (ι:=Nat) (fun j=>⟨42,[(0,.own E0 2 0 l.length),(1,.fn g cap),(5,.s (.int .i64 (((l.take j).filter fun x=>!p x).length:Nat))),(6,.s (.int .i64 (j:Nat)))],[(E0,.buf 2 ((iY (fun x=>!p x) l j).map spC))]⟩) (fun j=>j≤l.length) (fun j=>l.length - j) (k0+1) ?_ ?_ ?_))))
  · exact hk0
  · rw[hst.1,hst.2]; exact kX ⟨rfl,rfl,rfl,rfl,trivial⟩
  ·
   rintro j hC
   let q:=fun x=>!p x
   have hle:((l.take j).filter q).length≤j:=hq0 j
   have hle2:((l.take j).filter fun x=>!p x).length≤j:=hq0 j
   refine aC (fun K8 hK8=>(aC (fun K9 hK9=>(aB (aE aA 4 rfl (aD (hK9 _ (aI rfl (fun hc2=>?_) (fun hc2=>?_)))))))))
   ·
    simp only[bs] at hc2
    refine aL (hK8 _ (aC (fun K10 hK10=>(aO (aC (fun K11 hK11=>(aB (aE aA 2 rfl ?_))))))))
    refine aF rfl (bX rfl rfl kH eS (by omega)) ?_
    refine aF rfl (bM rfl yI eS rfl (pY (c:=2) (k:=j) (enc:=spC) (by omega) (by rw[eF]; omega) rfl) (cs':=spC l[j]) (by rw[nK (c:=2) (k:=j) (enc:=spC) (by omega) (by rw[eF]; omega) rfl,oM q l j j (by omega) hle])) ?_
    refine cH hf rfl oP rfl eS rfl rfl rfl rfl (lf rfl) (aD (hK11 _ (aC (fun K12 hK12=>(aB (aE aA 2 rfl (aK hf rfl (aR rfl rfl hent (by rw[fN,hcl]; rfl) (hp _ (List.getElem_mem _))) ?_)))))))
    refine aE aA 1 rfl (aD (hK12 _ (aI rfl (fun hc3=>?_) (fun hc3=>?_))))
    ·
     simp only[bs] at hc3
     refine aC (fun K13 hK13=>(aB (aE aA 3 rfl ?_)))
     refine aF rfl (bX rfl rfl kH eS (by omega)) ?_
     refine aP hf rfl rfl eS rfl rfl (by simp [spC,AV.cells,AV.one,Value.oneCell',splice]) (by simp [spC,AV.cells,AV.leaf,Value.oneCell',splice]) (gD (c:=2) (k:=((l.take j).filter fun x=>!p x).length) (enc:=spC) (v:=l[j]) (by omega) (by rw[eF]; omega) rfl (Nat.le_refl _)) ?_
     refine aD (hK13 _ (aB ?_))
     rw[jQ (fun x=>!p x) l j (by omega) (by simp_all)]
     refine aE aA 1 rfl ?_
     refine aF rfl (bJ rfl rfl (by omega) (by omega)) ?_
     rw[lR (fun x=>!p x) l j (by omega) (by simp_all)]
     refine aE aA 1 rfl ?_
     refine bB ?_
     refine hK10 _ (aB (aE aA 1 rfl ?_))
     refine aF rfl (bJ rfl rfl (by omega) (by omega)) ?_
     refine aE aA 1 rfl (aD ?_)
     exact⟨j+1,(by omega),by omega,dN rfl⟩
    ·
     simp only[bs] at hc3
     rw[jR (fun x=>!p x) l j (by omega) (by simp_all),lS (fun x=>!p x) l j (by omega) (by simp_all)]
     refine aL (hK10 _ (aB (aE aA 1 rfl ?_)))
     refine aF rfl (bJ rfl rfl (by omega) (by omega)) ?_
     refine aE aA 1 rfl (aD ?_)
     exact⟨j+1,(by omega),by omega,dN rfl⟩
   ·
    simp only[bs] at hc2
    refine bA (hK6 _ (aC (fun K14 hK14=>(aB (aE aA 2 rfl ?_)))))
    refine aF rfl (eG rfl kH eS rfl rfl (by omega) (by omega)) ?_
    refine tU hf kU oP (by simp [Value.oneCell']) rfl rfl ?_
    refine aD (hK14 _ (aC (fun K15 hK15=>(aB (aE aA 2 rfl ?_)))))
    refine aF rfl (eG rfl kH eS rfl rfl (by omega) (by omega)) ?_
    refine aE aA 1 rfl (aD (hK15 _ (aJ ?_)))
    have hjl:l.length≤j:=by omega
    have he:=mV (fun x=>!p x) l j hjl
    refine⟨_,_,_,Le.refl _,rfl,rfl,?_,?_⟩
    · rw[List.take_of_length_le hjl]; rfl
    · rw[List.take_of_length_le hjl,Nat.zero_add,Int.toNat_natCast,← List.map_take,he]
end Go.Proofs.YtijnkglkchhomaaGreat
set_option linter.unusedVariables false
set_option linter.unusedSimpArgs false
namespace Go.Proofs.YtijnkglkchhomaaGreat
open Go Go.Abs
theorem aQi (l:List Sp) (hl:l.length*16≤140737488355328) :DenO Tryz.prog 125 [.sl 2 (l.map spC)] 2 (·=(l.map spC)):=by
 refine fB Tryz.func125 rfl (Nat.le_of_ble_eq_true rfl) (fun w0 A hf=>?_)
 refine aC (fun K1 hK1=>(aB (aF rfl (bE) (aD (hK1 _ (aC (fun K2 hK2=>(aC (fun K3 hK3=>(aB (aE aA 1 rfl ?_)))))))))))
 refine lE rfl rfl rfl kH (fun b hb1=>?_)
 refine aD (hK3 _ (aI rfl (fun hc2=>?_) (fun hc2=>?_)))
 ·
  have hl0:l=[]:=by simpa using hb1 (by assumption)
  refine aC (fun K4 hK4=>(aB (jK hf 2 rfl rfl rfl (aD (hK4 _ (aJ ?_))))))
  exact⟨2,[],by decide,rfl,rfl,by rw[hl0]; rfl⟩
 ·
  refine aL (hK2 _ (aC (fun K5 hK5=>(aB (cP hf rfl rfl rfl kU rfl rfl rfl rfl (l2 rfl) ?_)))))
  refine aE aA 1 rfl (aT hf rfl kU rfl rfl rfl (.inl rfl) rfl rfl (by first | rfl | simp [cV,bF]) (by first | (simp only[maxLen,List.length_map,List.length_append,List.length_cons,List.length_nil]; omega) | (simp [maxLen] <;> omega)) (by first | (simp only[List.length_map,List.length_append,List.length_cons,List.length_nil]; omega) | (simp <;> omega)) ?_)
  refine aQ (cD [7] rfl) (aE aA 1 rfl (aD (hK5 _ (aJ ?_))))
  refine⟨5,(l.map spC),by decide,rfl,?_,rfl⟩
  show some (AV.own 5 2 0 (0+(l.map spC).length))=_
  rw[Nat.zero_add]
theorem rC (a:Int) :Den Tryz.prog 109 [.s (.int .i64 a)]  (·=.s (.bool false)):=by
 refine aS Tryz.func109 rfl (Nat.le_of_ble_eq_true rfl) (fun w0 A hf=>(aC (fun K1 hK1=>(aB (aE aA 1 rfl (aD (hK1 _ (aC (fun K2 hK2=>(aB (aE aA 4 rfl (aD (hK2 _ (aJ ?_))))))))))))))
 refine⟨_,rfl,?_⟩
 refine aV ?_
 simp
theorem hZ (a b:Int) :Den Tryz.prog 57 [.s (.int .i64 a),.s (.int .i64 b)]  (·=.s (.int .i64 (iN a b))):=by
 refine aS Tryz.func57 rfl (Nat.le_of_ble_eq_true rfl) (fun w0 A hf=>(aC (fun K1 hK1=>(aB (aE aA 1 rfl (aD (hK1 _ (aC (fun K2 hK2=>(aB (aE aA 1 rfl (aK hf rfl (aR rfl rfl zR rfl (rC _)) (aE aA 1 rfl (aD (hK2 _ ?_)))))))))))))))
 refine aC (fun K3 hK3=>(aB (aE aA 1 rfl (aK hf rfl (aR rfl rfl zR rfl (rC _)) (aE aA 1 rfl (aD (hK3 _ (aC (fun K4 hK4=>(aC (fun K5 hK5=>(aB (aE aA 1 rfl (aD (hK5 _ ?_)))))))))))))))
 refine bD rfl (aL (hK4 _ (aC (fun K6 hK6=>(aC (fun K7 hK7=>(aB (aE aA 1 rfl (aD (hK7 _ (bD rfl (aL (hK6 _ (aC (fun K8 hK8=>?_)))))))))))))))
 refine aC (fun K9 hK9=>(aB (aE aA 3 rfl (aD (hK9 _ (aI rfl (fun hc3=>?_) (fun hc3=>?_)))))))
 ·
  simp only[bs] at hc3
  refine aC (fun K10 hK10=>(aB (aE aA 1 rfl (aD (hK10 _ (aJ ?_))))))
  refine⟨_,rfl,?_⟩
  refine dM ?_
  unfold iN
  (repeat' split) <;> first | rfl | omega
 ·
  simp only[bs] at hc3
  refine aL (hK8 _ (aC (fun K11 hK11=>(aC (fun K12 hK12=>(aB (aE aA 3 rfl (aD (hK12 _ (aI rfl (fun hc4=>?_) (fun hc4=>?_)))))))))))
  ·
   simp only[bs] at hc4
   refine aC (fun K13 hK13=>(aB (aE aA 1 rfl (aD (hK13 _ (aJ ?_))))))
   refine⟨_,rfl,?_⟩
   refine dM ?_
   unfold iN
   (repeat' split) <;> first | rfl | omega
  ·
   simp only[bs] at hc4
   refine aL (hK11 _ (aC (fun K14 hK14=>(aB (aE aA 1 rfl (aD (hK14 _ (aJ ?_))))))))
   refine⟨_,rfl,?_⟩
   refine dM ?_
   unfold iN
   (repeat' split) <;> first | rfl | omega
theorem sX (s:Sp) :Den Tryz.prog 115 [.agg (spC s)]  (·=.s (.bool (decide (s.2≤s.1)))):=by
 refine aS Tryz.func115 rfl (Nat.le_of_ble_eq_true rfl) (fun w0 A hf=>(aC (fun K1 hK1=>(aB (aK hf rfl (cL rfl rfl (lf rfl)) (aE aA 1 rfl (aD (hK1 _ (aC (fun K2 hK2=>(aB (aE aA 6 rfl (aD (hK2 _ (aJ ?_)))))))))))))))
 refine⟨_,rfl,?_⟩
 rfl
theorem aIc (a b:Sp) :Den Tryz.prog 127 [.agg (spC a),.agg (spC b)]  (·=.s (.int .i64 (iN a.1 b.1))):=by
 refine aS Tryz.func127 rfl (Nat.le_of_ble_eq_true rfl) (fun w0 A hf=>(aC (fun K1 hK1=>(aB (aK hf rfl (cL rfl rfl (lf rfl)) (aK hf rfl (cL rfl rfl (lf rfl)) (aE aA 1 rfl (aD (hK1 _ (aC (fun K2 hK2=>(aB (aE aA 4 rfl (aK hf rfl (aR rfl rfl lL rfl (hZ _ _)) (aE aA 1 rfl ?_)))))))))))))))
 refine aD (hK2 _ (aJ ?_))
 refine⟨_,rfl,?_⟩
 rfl
end Go.Proofs.YtijnkglkchhomaaGreat
namespace Go.Proofs
open Go.Shelf
def Tryz.sortL_ren:Go.Shelf.Ren:=⟨fun | 6=>126 | 15=>180 | 14=>179 | 28=>226 | 29=>227 | 20=>218 | 21=>219 | 22=>220 | 23=>221 | 24=>222 | 25=>223 | 26=>224 | 27=>225 | 46=>235 | 47=>236 | 48=>237 | 49=>238 | 50=>239 | 57=>242 | n=>n,fun | 22=>78 | 24=>124 | 25=>188 | 3=>3 | 39=>234 | 0=>0 | 53=>279 | 55=>281 | 4=>4 | 46=>273 | 45=>272 | 50=>48 | 5=>5 | 9=>9 | 66=>286 | 70=>290 | 76=>292 | 77=>293 | n=>n,fun | n=>n⟩
theorem Tryz.sortL:Go.Proofs.SlLaysF0.n6 Tryz.prog Tryz.sortL_ren:={
  mixed:=by kernel_rfl
  f6:=⟨Tryz.f126.name,by decide,Tryz.func126.trans (congrArg some (by kernel_rfl))⟩
  f14:=⟨Tryz.f179.name,by decide,Tryz.func179.trans (congrArg some (by kernel_rfl))⟩
  f15:=Tryz.func180.trans (congrArg some (by kernel_rfl))
  f20:=⟨Tryz.f218.name,by decide,Tryz.func218.trans (congrArg some (by kernel_rfl))⟩
  f21:=⟨Tryz.f219.name,by decide,Tryz.func219.trans (congrArg some (by kernel_rfl))⟩
  f22:=⟨Tryz.f220.name,by decide,Tryz.func220.trans (congrArg some (by kernel_rfl))⟩
  f23:=⟨Tryz.f221.name,by decide,Tryz.func221.trans (congrArg some (by kernel_rfl))⟩
  f24:=⟨Tryz.f222.name,by decide,Tryz.func222.trans (congrArg some (by kernel_rfl))⟩
  f25:=⟨Tryz.f223.name,by decide,Tryz.func223.trans (congrArg some (by kernel_rfl))⟩
  f26:=⟨Tryz.f224.name,by decide,Tryz.func224.trans (congrArg some (by kernel_rfl))⟩
  f27:=⟨Tryz.f225.name,by decide,Tryz.func225.trans (congrArg some (by kernel_rfl))⟩
  f28:=Tryz.func226.trans (congrArg some (by kernel_rfl))
  f29:=Tryz.func227.trans (congrArg some (by kernel_rfl))
  f46:=⟨Tryz.f235.name,by decide,Tryz.func235.trans (congrArg some (by kernel_rfl))⟩
  f47:=Tryz.func236.trans (congrArg some (by kernel_rfl))
  f48:=Tryz.func237.trans (congrArg some (by kernel_rfl))
  f49:=⟨Tryz.f238.name,by decide,Tryz.func238.trans (congrArg some (by kernel_rfl))⟩
  f50:=⟨Tryz.f239.name,by decide,Tryz.func239.trans (congrArg some (by kernel_rfl))⟩
  f57:=⟨Tryz.f242.name,by decide,Tryz.func242.trans (congrArg some (by kernel_rfl))⟩
  t0:=Tryz.underlying0
  a0:=Tryz.isAgg0
  z0:=Tryz.sizeOf0
  v0:=Tryz.zeroValue0
  t3:=Tryz.underlying3
  a3:=Tryz.isAgg3
  z3:=Tryz.sizeOf3
  v3:=Tryz.zeroValue3
  t4:=Tryz.underlying4
  a4:=Tryz.isAgg4
  z4:=Tryz.sizeOf4
  v4:=Tryz.zeroValue4
  t5:=Tryz.underlying5
  a5:=Tryz.isAgg5
  z5:=Tryz.sizeOf5
  v5:=Tryz.zeroValue5
  t9:=Tryz.underlying9
  a9:=Tryz.isAgg9
  z9:=Tryz.sizeOf9
  v9:=Tryz.zeroValue9
  t22:=Tryz.underlying78
  a22:=Tryz.isAgg78
  z22:=Tryz.sizeOf78
  v22:=Tryz.zeroValue78
  t25:=Tryz.underlying188
  a25:=Tryz.isAgg188
  z25:=Tryz.sizeOf188
  v25:=Tryz.zeroValue188
  t39:=Tryz.underlying234
  a39:=Tryz.isAgg234
  z39:=Tryz.sizeOf234
  v39:=Tryz.zeroValue234
  t45:=Tryz.underlying272
  a45:=Tryz.isAgg272
  z45:=Tryz.sizeOf272
  v45:=Tryz.zeroValue272
  t46:=Tryz.underlying273
  a46:=Tryz.isAgg273
  z46:=Tryz.sizeOf273
  v46:=Tryz.zeroValue273
  t50:=Tryz.underlying48
  a50:=Tryz.isAgg48
  z50:=Tryz.sizeOf48
  v50:=Tryz.zeroValue48
  t53:=Tryz.underlying279
  a53:=Tryz.isAgg279
  z53:=Tryz.sizeOf279
  v53:=Tryz.zeroValue279
  t55:=Tryz.underlying281
  a55:=Tryz.isAgg281
  z55:=Tryz.sizeOf281
  v55:=Tryz.zeroValue281
  t66:=Tryz.underlying286
  a66:=Tryz.isAgg286
  z66:=Tryz.sizeOf286
  v66:=Tryz.zeroValue286
  t70:=Tryz.underlying290
  a70:=Tryz.isAgg290
  z70:=Tryz.sizeOf290
  v70:=Tryz.zeroValue290
  t76:=Tryz.underlying292
  a76:=Tryz.isAgg292
  z76:=Tryz.sizeOf292
  v76:=Tryz.zeroValue292
  t77:=Tryz.underlying293
  a77:=Tryz.isAgg293
  z77:=Tryz.sizeOf293
  v77:=Tryz.zeroValue293 }
end Go.Proofs
set_option linter.unusedVariables false
set_option linter.unusedSimpArgs false
namespace Go.Proofs.YtijnkglkchhomaaGreat
open Go Go.Abs
theorem aL8:aSy Tryz.prog 126 2:=fun m enc cf g cb blk off cap d w hk h1 hO eg hc hH hb hs=>Go.Proofs.AnyQ.slices_SortFunc Tryz.sortL 2 Tryz.isAgg124 Tryz.sizeOf124 enc hk h1 cf hO g cb blk off cap d w eg hc hH hb hs
theorem aL9:aSz Tryz.prog 126:=fun p cap fv w=>Go.Proofs.AnyF.slices_SortFunc_none Tryz.sortL p cap fv w
theorem aQ9 (l:List Sp) (n:Nat) (hn:n=l.length) (hl:l.length<4611686018427387904):DenM Tryz.prog 126 [.own E0 2 0 n,.fn 127 []] 2 (l.map spC)
    (fun r ys=>∃ ms:List Sp,ms.Perm l∧ms.Pairwise (fun x y=>¬ iN y.1 x.1<0)∧ys=(ms.map spC)):=by
  subst hn
  exact aMa (by decide) aL8 aL9 aLn l spC (fun _=>rfl) (fun a _=>aQ8 a) (fun x y=>iN x.1 y.1) aSe (fun x _ y _=>aIc x y) hl
theorem aRr (l:List Sp) (hl:l.length*16≤140737488355328) :Den Tryz.prog 83 [.sl 2 (l.map spC)]  (·=.sl 2 (oE l |>.map spC)):=by
 refine aS Tryz.func83 rfl (Nat.le_of_ble_eq_true rfl) (fun w0 A hf=>(aC (fun K1 hK1=>(aB (aF rfl (bE) (aD (hK1 _ (aC (fun K2 hK2=>(aB (aE aA 1 rfl (gW hf rfl rfl rfl rfl rfl aLp rfl (aQi _ (by first | assumption | omega)) ?_))))))))))))
 rintro _ rfl
 refine gA hf 8 rfl rfl rfl rfl rfl aLq (aCu nU rfl (fun _=>rfl) sY l _ (by rw[List.length_map]) (by omega) (fun x _=>sX x)) ?_
 rintro r zs ⟨rfl,rfl⟩
 refine aE aA 1 rfl (aD (hK2 _ (aC (fun K3 hK3=>(aB (aE aA 1 rfl ?_))))))
 have hfl:(l.filter fun x=>!sY x).length≤l.length:=List.length_filter_le _ _
 refine gA hf 8 rfl rfl rfl rfl rfl aLo (aQ9 (l.filter fun x=>!sY x) _ rfl (by omega)) ?_
 rintro r zs ⟨ms,hp,hs,rfl⟩
 have hml:=hp.length_eq
 refine aD (hK3 _ (aC (fun K4 hK4=>(aB (jK hf 2 rfl rfl rfl (aD (hK4 _ (aC (fun K5 hK5=>(aC (fun K6 hK6=>(aB (aE aA 3 rfl (aD (hK6 _ ?_)))))))))))))))
 refine aO (bS (ι:=Nat×List Sp) (fun(⟨k,out⟩:Nat×List Sp)=>⟨53,[(3,.own 3 2 0 out.length),(12,.own 8 2 0 (l.filter fun x=>!sY x).length),(13,.s (.int .i64 ((l.filter fun x=>!sY x).length:Nat))),(14,.s (.int .i64 (k:Nat)))],[(3,.buf 2 (out.map spC)),(8,.buf 2 (ms.map spC))]⟩) (fun(⟨k,out⟩:Nat×List Sp)=>k≤ms.length∧out=(ms.take k).foldl dG []∧out.length≤k) (fun(⟨k,out⟩:Nat×List Sp)=>ms.length - k) (0,[]) ?_ ?_ ?_)
 · exact⟨Nat.zero_le _,rfl,Nat.le_refl _⟩
 · exact dN rfl
 ·
  rintro ⟨k,out⟩ hC
  obtain ⟨h1,h2,h3⟩:=hC
  refine aC (fun K7 hK7=>(aB (aE aA 1 rfl (aD (hK7 _ (aC (fun K8 hK8=>(aI rfl (fun hc1=>?_) (fun hc1=>?_)))))))))
  ·
   simp only[bs] at hc1
   refine aL (hK8 _ (aC (fun K9 hK9=>(aO (aC (fun K10 hK10=>(aB ?_)))))))
   refine aF rfl (bX rfl rfl kH eS (by omega)) ?_
   refine aF rfl (bM rfl yI eS rfl (pY (c:=2) (k:=k) (enc:=spC) (by omega) (by omega) rfl) (cs':=spC ms[k]) (nK (c:=2) (k:=k) (enc:=spC) (by omega) (by omega) rfl)) (cH hf rfl oP rfl eS rfl rfl rfl rfl (lf rfl) (aD (hK10 _ (aC (fun K11 hK11=>(aB (aE aA 3 rfl (aD (hK11 _ (aC (fun K12 hK12=>(eQ hf bN (by kernel_rfl) rfl (bL aA 3 rfl (rZ 22 true rfl (fun hg2=>?_) (fun hg2=>?_)))))))))))))))
   ·
    simp only[bs] at hg2
    refine bL aA 4 rfl ?_
    refine bY [(26,_)] rfl rfl ⟨⟨rfl,rfl⟩,trivial⟩ rfl (fE rfl rfl (by omega) (by omega)) ?_
    refine bY [(25,_),(27,_)] rfl rfl ⟨⟨rfl,rfl⟩,⟨rfl,rfl⟩,trivial⟩ rfl (bX rfl rfl kH eS (by omega)) ?_
    refine bL aA 1 rfl (bY [(29,_)] rfl rfl ⟨⟨rfl,rfl⟩,trivial⟩ rfl (gR rfl kS rfl (c:=.s (.int .i64 (out[out.length - 1]'(by omega)).2)) (hJ (c:=2) (k:=out.length - 1) (enc:=spC) (by omega) (by omega) 1)) (bL aA 2 rfl (gE [3,5,6,12,13,14,32] rfl rfl rfl (hK12 _ (aI rfl (fun hc3=>?_) (fun hc3=>?_))))))
    ·
     simp only[bs] at hc3
     refine iA hf (L:=#[true,true,true,true,true,true,true,true,true,true,true,true,true,true,false]) 14 1 bN (by kernel_rfl) rfl (by kernel_rfl) rfl ?_
     refine bL aA 2 rfl ?_
     refine bY [(34,_)] rfl rfl ⟨⟨rfl,rfl⟩,trivial⟩ rfl (fE rfl rfl (by omega) (by omega)) ?_
     refine bL aA 2 rfl ?_
     refine bY [(37,_)] rfl rfl ⟨⟨rfl,rfl⟩,trivial⟩ rfl (fE rfl rfl (by omega) (by omega)) ?_
     refine bY [(36,_),(38,_)] rfl rfl ⟨⟨rfl,rfl⟩,⟨rfl,rfl⟩,trivial⟩ rfl (bX rfl rfl kH eS (by omega)) ?_
     refine bL aA 1 rfl (bY [(40,_)] rfl rfl ⟨⟨rfl,rfl⟩,trivial⟩ rfl (gR rfl kS rfl (c:=.s (.int .i64 (out[out.length - 1]'(by omega)).2)) (hJ (c:=2) (k:=out.length - 1) (enc:=spC) (by omega) (by omega) 1)) (bL aA 2 rfl (bY [(41,_),(43,_)] rfl rfl ⟨⟨rfl,rfl⟩,⟨rfl,rfl⟩,trivial⟩ rfl (aH7 rfl rfl) ?_)))
     refine bY [(33,_),(35,_)] rfl rfl ⟨⟨rfl,rfl⟩,⟨rfl,rfl⟩,trivial⟩ rfl (bX rfl rfl kH eS (by omega)) ?_
     refine bL aA 1 rfl (tC [3,12,13,14,44,46] rfl rfl rfl ?_)
     refine aH 14 [] (by kernel_rfl) ⟨?_,trivial⟩
     ·
      refine⟨_,rfl,rfl,(ao rfl (aP hf rfl rfl cB rfl rfl (by simp [AV.cells,AV.one,Value.oneCell']) (by simp [AV.cells,AV.leaf,Value.oneCell']) (gD (c:=2) (k:=out.length - 1) (f:=1) (enc:=spC) (v:=((out[out.length - 1]'(by omega)).1,max (out[out.length - 1]'(by omega)).2 ms[k].2)) (by omega) (by omega) rfl (Nat.le_refl _)) ?_))⟩
      refine aG (bW (by kernel_rfl) ?_)
      refine hK9 _ (aB ?_)
      refine aF rfl (bJ rfl rfl (by omega) (by omega)) ?_
      refine aE aA 1 rfl (aD ?_)
      refine⟨(k+1,dG out ms[k]),⟨by omega,by rw[mS ms dG [] k (by omega),← h2],by have:=qK out ms[k]; omega⟩,by simp only; omega,?_⟩
      (rw[uU (by omega) (by assumption)]; exact bT ⟨by rw[List.length_set]; rfl,rfl,rfl,rfl,trivial⟩ rfl)
    ·
     simp only[bs] at hc3
     refine aB (aE aA 2 rfl (aK hf rfl (aN kU rfl rfl rfl rfl (l2 rfl)) (aT hf rfl kU rfl rfl rfl (by first | exact Or.inl rfl | exact Or.inr rfl) (by first | rfl | simp) rfl (by first | rfl | simp [cV,bF]) (by first | (simp only[maxLen,List.length_map,List.length_append,List.length_cons,List.length_nil]; omega) | (simp [maxLen] <;> omega)) (by first | (simp only[List.length_map,List.length_append,List.length_cons,List.length_nil]; omega) | (simp <;> omega)) ?_)))
     refine aQ (cD [12,13,14,50] rfl) (aE aA 1 rfl ?_)
     refine bB ?_
     refine hK9 _ (aB ?_)
     refine aF rfl (bJ rfl rfl (by omega) (by omega)) ?_
     refine aE aA 1 rfl (aD ?_)
     refine⟨(k+1,dG out ms[k]),⟨by omega,by rw[mS ms dG [] k (by omega),← h2],by have:=qK out ms[k]; omega⟩,by simp only; omega,?_⟩
     (rw[uV (by omega) (by omega)]; exact bT ⟨by rw[List.length_append]; rfl,rfl,rfl,rfl,trivial⟩ (by rw[List.map_append]; rfl))
   ·
    simp only[bs] at hg2
    refine bL aA 10 rfl (gE [3,5,6,12,13,14,32] rfl rfl rfl (hK12 _ (bD rfl (aB (aE aA 2 rfl (aK hf rfl (aN kU rfl rfl rfl rfl (l2 rfl)) (aT hf rfl kU rfl rfl rfl (by first | exact Or.inl rfl | exact Or.inr rfl) (by first | rfl | simp) rfl (by first | rfl | simp [cV,bF]) (by first | (simp only[maxLen,List.length_map,List.length_append,List.length_cons,List.length_nil]; omega) | (simp [maxLen] <;> omega)) (by first | (simp only[List.length_map,List.length_append,List.length_cons,List.length_nil]; omega) | (simp <;> omega)) ?_)))))))
    refine aQ (cD [12,13,14,50] rfl) (aE aA 1 rfl ?_)
    refine bB ?_
    refine hK9 _ (aB ?_)
    refine aF rfl (bJ rfl rfl (by omega) (by omega)) ?_
    refine aE aA 1 rfl (aD ?_)
    refine⟨(k+1,dG out ms[k]),⟨by omega,by rw[mS ms dG [] k (by omega),← h2],by have:=qK out ms[k]; omega⟩,by simp only; omega,?_⟩
    (obtain rfl:out=[]:=List.eq_nil_of_length_eq_zero (by omega); exact bT ⟨rfl,rfl,rfl,rfl,trivial⟩ rfl)
  ·
   simp only[bs] at hc1
   refine bA (hK5 _ (aC (fun K13 hK13=>(aB (aE aA 2 rfl (aD (hK13 _ (aJ ?_))))))))
   refine⟨_,rfl,?_⟩
   refine(bV (g:=3) rfl (by rw[List.length_map])).trans ?_
   rw[h2,aA9 ms dG [] k (by omega),aPt hp hs]
end Go.Proofs.YtijnkglkchhomaaGreat
set_option linter.unusedVariables false
set_option linter.unusedSimpArgs false
namespace Go.Proofs.YtijnkglkchhomaaGreat
open Go Go.Abs
theorem vI (l:List bP) (hl:l.length*32≤140737488355328) :DenO Tryz.prog 69 [.sl 4 (l.map stC)] 4 (·=(l.map stC)):=by
 refine fB Tryz.func69 rfl (Nat.le_of_ble_eq_true rfl) (fun w0 A hf=>?_)
 refine aC (fun K1 hK1=>(aB (aF rfl (bE) (aD (hK1 _ (aC (fun K2 hK2=>(aC (fun K3 hK3=>(aB (aE aA 1 rfl ?_)))))))))))
 refine lE rfl rfl rfl cG (fun b hb1=>?_)
 refine aD (hK3 _ (aI rfl (fun hc2=>?_) (fun hc2=>?_)))
 ·
  have hl0:l=[]:=by simpa using hb1 (by assumption)
  refine aC (fun K4 hK4=>(aB (jK hf 4 rfl rfl rfl (aD (hK4 _ (aJ ?_))))))
  exact⟨2,[],by decide,rfl,rfl,by rw[hl0]; rfl⟩
 ·
  refine aL (hK2 _ (aC (fun K5 hK5=>(aB (cP hf rfl rfl rfl kV rfl rfl rfl rfl (l2 rfl) ?_)))))
  refine aE aA 1 rfl (aT hf rfl kV rfl rfl rfl (.inl rfl) rfl rfl (by first | rfl | simp [cV,bF]) (by first | (simp only[maxLen,List.length_map,List.length_append,List.length_cons,List.length_nil]; omega) | (simp [maxLen] <;> omega)) (by first | (simp only[List.length_map,List.length_append,List.length_cons,List.length_nil]; omega) | (simp <;> omega)) ?_)
  refine aQ (cD [7] rfl) (aE aA 1 rfl (aD (hK5 _ (aJ ?_))))
  refine⟨5,(l.map stC),by decide,rfl,?_,rfl⟩
  show some (AV.own 5 4 0 (0+(l.map stC).length))=_
  rw[Nat.zero_add]
theorem aPc (n:Nat) (hn:n*32≤140737488355328) :DenO Tryz.prog 177 [.s (.slice none 0 0),.s (.int .i64 (n:Nat))] 4 (·=[]):=by
 refine fB Tryz.func177 rfl (Nat.le_of_ble_eq_true rfl) (fun w0 A hf=>?_)
 refine aC (fun K1 hK1=>(aB (aF rfl (bE) (aD (hK1 _ (aC (fun K2 hK2=>(aC (fun K3 hK3=>(aB (aE aA 2 rfl (aD (hK3 _ (aI rfl (fun hc1=>?_) (fun hc1=>?_)))))))))))))))
 ·
  simp only[bs] at hc1
  omega
 ·
  simp only[bs] at hc1
  refine aL (hK2 _ (aC (fun K4 hK4=>(aC (fun K5 hK5=>(aB (aE aA 2 rfl (aF rfl (lO rfl cG) (aE aA 2 rfl ?_)))))))))
  refine aF rfl (fE rfl rfl (by omega) (by omega)) ?_
  refine aF rfl (fE rfl rfl (by omega) (by omega)) ?_
  refine aE aA 1 rfl (aD (hK5 _ (aC (fun K6 hK6=>(aB (aE aA 2 rfl (aD (hK6 _ (aI rfl (fun hc2=>?_) (fun hc2=>?_))))))))))
  ·
   simp only[bs] at hc2
   refine aB (aE aA 2 rfl (aF rfl (lO rfl cG) ?_))
   refine aF rfl (pX rfl cG aX rfl) ?_
   refine aE aA 1 rfl (tV hf rfl rfl rfl kV Tryz.underlying3 rfl rfl (by omega) (by omega) (by simp only[maxLen]; omega) ?_)
   refine aE aA 2 rfl ?_
   refine aF rfl (eG rfl cG aX rfl rfl (by omega) (by omega)) ?_
   refine aE aA 1 rfl (aD (hK4 _ (aC (fun K7 hK7=>(aB (aE aA 1 rfl ?_))))))
   refine aF rfl (sU rfl) ?_
   refine aD (hK7 _ (aJ ?_))
   exact⟨22,[],by decide,rfl,rfl,rfl⟩
  ·
   simp only[bs] at hc2
   refine aL (hK4 _ (aC (fun K8 hK8=>(aB (aE aA 1 rfl ?_)))))
   refine aFk hf 4 rfl rfl rfl rfl ?_
   refine aD (hK8 _ (aJ ?_))
   exact⟨4,[],by decide,rfl,rfl,rfl⟩
theorem yM (rows:List (List bP)) (hl:rows.length≤9223372036854775807) (hb:rows.flatten.length*32≤140737488355328) :DenO Tryz.prog 118 [.sl 1 (rows.map fun r=>[AV.sl 4 (r.map stC)])] 4 (·=(rows.flatten.map stC)):=by
 refine fB Tryz.func118 rfl (Nat.le_of_ble_eq_true rfl) (fun w0 A hf=>?_)
 refine aC (fun K1 hK1=>(aB (aF rfl (bE) (aD (hK1 _ (aC (fun K2 hK2=>(aB (aE aA 1 rfl (aD (hK2 _ (aC (fun K3 hK3=>(aC (fun K4 hK4=>(aB ?_))))))))))))))))
 refine aE aA 3 rfl (aD (hK4 _ (aO (bS (ι:=Nat) (fun k=>⟨36,[(0,.sl 1 (rows.map fun r=>[AV.sl 4 (r.map stC)])),(3,.s (.int .i64 ((rows.take k).flatten.length:Nat))),(9,.sl 1 (rows.map fun r=>[AV.sl 4 (r.map stC)])),(10,.s (.int .i64 ((rows.map fun r=>[AV.sl 4 (r.map stC)]).length:Nat))),(11,.s (.int .i64 (k:Nat)))],[]⟩) (fun k=>k≤rows.length) (fun k=>rows.length - k) 0 ?_ ?_ ?_))))
 · exact Nat.zero_le _
 · exact dN rfl
 ·
  rintro k hC
  refine aC (fun K5 hK5=>(aB (aE aA 1 rfl (aD (hK5 _ (aC (fun K6 hK6=>(aI rfl (fun hc1=>?_) (fun hc1=>?_)))))))))
  ·
   simp only[bs] at hc1
   refine aL (hK6 _ (aC (fun K7 hK7=>(aO (aC (fun K8 hK8=>(aB ?_)))))))
   refine aF rfl (aW rfl rfl aFg xE (by first | exact ixm (by omega) | assumption | exact⟨by decide,rfl⟩)) ?_
   refine aE aA 2 rfl (aD (hK8 _ (aC (fun K9 hK9=>(aB ?_)))))
   have hk:k<rows.length:=by omega
   have e1:=congrArg List.length (gY rows k hk)
   rw[List.length_append] at e1
   have e2:=qB rows (k+1)
   have e3:(rows[k].map stC).length=rows[k].length:=List.length_map _
   refine aE aA 3 rfl ?_
   refine aF rfl (bJ rfl rfl (by omega) (by omega)) ?_
   rw[show ((((rows.take k).flatten.length:Nat):Int)+(((rows[k].map stC).length:Nat):Int))=(((rows.take (k+1)).flatten.length:Nat):Int) from by omega]
   refine aE aA 1 rfl (aD (hK9 _ (aC (fun K10 hK10=>(aB (aE aA 2 rfl (aD (hK10 _ (aI rfl (fun hc2=>?_) (fun hc2=>?_))))))))))
   ·
    simp only[bs] at hc2
    omega
   ·
    simp only[bs] at hc2
    refine aL (hK7 _ (aB ?_))
    refine aF rfl (bJ rfl rfl (by omega) (by omega)) ?_
    refine aE aA 1 rfl (aD ?_)
    exact⟨k+1,(by omega),by omega,dN rfl⟩
  ·
   simp only[bs] at hc1
   refine bA (hK3 _ (aC (fun K11 hK11=>(aB ?_))))
   rw[List.take_of_length_le (show rows.length≤k by omega)]
   refine aE aA 1 rfl (gW hf rfl rfl rfl rfl rfl aK4 rfl (aPc rows.flatten.length (by omega)) ?_)
   rintro _ rfl
   refine aE aA 1 rfl (aD (hK11 _ (aC (fun K12 hK12=>(aC (fun K13 hK13=>(aB (aE aA 3 rfl (aD (hK13 _ (aO (bS (ι:=Nat) (fun j=>⟨36,[(6,.own 24 4 0 (rows.take j).flatten.length),(25,.sl 1 (rows.map fun r=>[AV.sl 4 (r.map stC)])),(26,.s (.int .i64 ((rows.map fun r=>[AV.sl 4 (r.map stC)]).length:Nat))),(27,.s (.int .i64 (j:Nat)))],[(24,.buf 4 ((rows.take j).flatten.map stC))]⟩) (fun j=>j≤rows.length) (fun j=>rows.length - j) 0 ?_ ?_ ?_))))))))))))
   · exact Nat.zero_le _
   · exact dN rfl
   ·
    rintro j hC
    refine aC (fun K14 hK14=>(aB (aE aA 1 rfl (aD (hK14 _ (aC (fun K15 hK15=>(aI rfl (fun hc3=>?_) (fun hc3=>?_)))))))))
    ·
     simp only[bs] at hc3
     refine aL (hK15 _ (aC (fun K16 hK16=>(aO (aC (fun K17 hK17=>(aB ?_)))))))
     refine aF rfl (aW rfl rfl aFg xE (by first | exact ixm (by omega) | assumption | exact⟨by decide,rfl⟩)) ?_
     refine aE aA 2 rfl (aD (hK17 _ (aB ?_)))
     have hj:j<rows.length:=by omega
     have e1:=congrArg List.length (gY rows j hj)
     rw[List.length_append] at e1
     have e2:=qB rows (j+1)
     have e3:(rows[j].map stC).length=rows[j].length:=List.length_map _
     refine aE aA 2 rfl (aT hf rfl kV rfl rfl rfl (.inl rfl) (by simp only[List.length_map]) rfl (by first | rfl | simp [cV,bF]) (by first | (simp only[maxLen,List.length_map,List.length_append,List.length_cons,List.length_nil]; omega) | (simp [maxLen] <;> omega)) (by first | (simp only[List.length_map,List.length_append,List.length_cons,List.length_nil]; omega) | (simp <;> omega)) ?_)
     refine aQ (cD [25,26,27,33] rfl) ?_
     rw[show (rows.take j).flatten.length+(rows[j].map stC).length=(rows.take (j+1)).flatten.length from by omega,← List.map_append,← gY rows j hj]
     refine aE aA 1 rfl ?_
     refine bB ?_
     refine hK16 _ (aB ?_)
     refine aF rfl (bJ rfl rfl (by omega) (by omega)) ?_
     refine aE aA 1 rfl (aD ?_)
     exact⟨j+1,(by omega),by omega,dN rfl⟩
    ·
     simp only[bs] at hc3
     refine bA (hK12 _ (aC (fun K18 hK18=>(aB (aE aA 2 rfl (aD (hK18 _ (aJ ?_))))))))
     refine⟨24,(rows.flatten.map stC),by decide,?_,?_,rfl⟩
     · rw[List.take_of_length_le (show rows.length≤j by omega)]; rfl
     · rw[List.take_of_length_le (show rows.length≤j by omega)]
       show some (AV.own 24 4 0 rows.flatten.length)=_
       rw[List.length_map]
theorem aJo (a b:bP) :Den Tryz.prog 117 [.agg (stC a),.agg (stC b)]  (·=.s (.int .i64 (iP a b))):=by
 refine aS Tryz.func117 rfl (Nat.le_of_ble_eq_true rfl) (fun w0 A hf=>(aC (fun K1 hK1=>(aB (aK hf rfl (cL rfl rfl (lf rfl)) (aK hf rfl (cL rfl rfl (lf rfl)) (aE aA 1 rfl (aD (hK1 _ (aC (fun K2 hK2=>(eQ hf bN (by kernel_rfl) rfl (bL aA 6 rfl (cA [(7,_),(10,_)] rfl rfl ⟨⟨rfl,rfl⟩,⟨rfl,rfl⟩,trivial⟩ rfl (aR rfl rfl lL rfl (hZ _ _)) (bL aA 6 rfl ?_)))))))))))))))
 refine cA [(14,_),(17,_)] rfl rfl ⟨⟨rfl,rfl⟩,⟨rfl,rfl⟩,trivial⟩ rfl (aR rfl rfl lL rfl (hZ _ _)) (bL aA 4 rfl (cA [(20,_),(22,_)] rfl rfl ⟨⟨rfl,rfl⟩,⟨rfl,rfl⟩,trivial⟩ rfl (aR rfl rfl lL rfl (hZ _ _)) (bL aA 4 rfl (cA [(25,_),(27,_)] rfl rfl ⟨⟨rfl,rfl⟩,⟨rfl,rfl⟩,trivial⟩ rfl (aR rfl rfl lL rfl (hZ _ _)) (cA [(11,_),(18,_),(23,_),(28,_)] rfl rfl ⟨⟨rfl,rfl⟩,⟨rfl,rfl⟩,⟨rfl,rfl⟩,⟨rfl,rfl⟩,trivial⟩ rfl (aN fC rfl rfl rfl rfl (l2 rfl)) (cA [(29,_)] rfl rfl ⟨⟨rfl,rfl⟩,trivial⟩ rfl (aR rfl rfl tL rfl (Nm.or_den [_,_,_,_] (by simp))) ?_))))))
 refine bL aA 1 rfl (gE [4] rfl rfl rfl (hK2 _ (aJ ?_)))
 refine⟨_,rfl,?_⟩
 rfl
theorem aNa (a b:bP) :Den Tryz.prog 119 [.agg (stC a),.agg (stC b)]  (·=.s (.bool (decide (iP a b<0)))):=by
 refine aS Tryz.func119 rfl (Nat.le_of_ble_eq_true rfl) (fun w0 A hf=>(aC (fun K1 hK1=>(aB (aK hf rfl (cL rfl rfl (lf rfl)) (aK hf rfl (cL rfl rfl (lf rfl)) (aE aA 1 rfl (aD (hK1 _ (aC (fun K2 hK2=>(aC (fun K3 hK3=>(aB (aE aA 5 rfl (aD ?_))))))))))))))))
 refine hK3 _ (aI rfl (fun hc1=>?_) (fun hc1=>?_))
 ·
  simp only[bs] at hc1
  refine aC (fun K4 hK4=>(aB (aE aA 6 rfl (aD (hK4 _ (aJ ?_))))))
  refine⟨_,rfl,?_⟩
  exact aV (ah1 (by assumption))
 ·
  simp only[bs] at hc1
  refine aL (hK2 _ (aC (fun K5 hK5=>(aC (fun K6 hK6=>(aB (aE aA 5 rfl (aD (hK6 _ (aI rfl (fun hc2=>?_) (fun hc2=>?_)))))))))))
  ·
   simp only[bs] at hc2
   refine aC (fun K7 hK7=>(aB (aE aA 6 rfl (aD (hK7 _ (aJ ?_))))))
   refine⟨_,rfl,?_⟩
   exact aV (ah2 (by assumption) (by assumption))
  ·
   simp only[bs] at hc2
   refine aL (hK5 _ (aC (fun K8 hK8=>(aC (fun K9 hK9=>(aB (aE aA 5 rfl (aD (hK9 _ (aI rfl (fun hc3=>?_) (fun hc3=>?_)))))))))))
   ·
    simp only[bs] at hc3
    refine aC (fun K10 hK10=>(aB (aE aA 6 rfl (aD (hK10 _ (aJ ?_))))))
    refine⟨_,rfl,?_⟩
    exact aV (ah3 (by assumption) (by assumption) (by assumption))
   ·
    simp only[bs] at hc3
    refine aL (hK8 _ (aC (fun K11 hK11=>(aB (aE aA 6 rfl (aD (hK11 _ (aJ ?_))))))))
    refine⟨_,rfl,?_⟩
    exact aV (ah4 (by assumption) (by assumption) (by assumption))
end Go.Proofs.YtijnkglkchhomaaGreat
namespace Go.Abs
open Go
theorem aQ2 {c:AV} (h:Ty .str [c]):∃ s:ByteArray,c=.s (.string s)∧s.size≤140737488351232:=by
  simp only[Ty] at h
  obtain ⟨s,hx,hw⟩:=h
  simp only[List.cons.injEq,and_true] at hx
  exact⟨s,hx,hw⟩
end Go.Abs
set_option linter.unusedVariables false
set_option linter.unusedSimpArgs false
namespace Go.Abs
theorem aRj (x y:Pr):(x.1.toList == y.1.toList&&(x.2.toList == y.2.toList&&true))=decide (x=y):=by
  rw[Bool.eq_iff_iff]
  simp only[Bool.and_eq_true,beq_iff_eq,toList_inj,and_true,decide_eq_true_eq,Prod.ext_iff]
def RevI (l:List En) (n:Nat) (t:Int) (k:Nat) (out:List En):Prop :=
  k≤l.length∧∃ hn:n<l.length,(k≤n∧out=l.take k)∨(n<k∧out=l.take n++(nI l[n] t++(l.take k).drop (n+1)))
theorem RevI.start {l:List En} {n:Nat} (t:Int) (hn:n<l.length):RevI l n t 0 []:=⟨Nat.zero_le _,hn,.inl ⟨Nat.zero_le _,rfl⟩⟩
theorem RevI.len {l:List En} {n:Nat} {t:Int} {k:Nat} {out:List En} (h:RevI l n t k out):out.length≤k:=by
  obtain ⟨hk,hn,⟨h1,rfl⟩ | ⟨h1,rfl⟩⟩:=h
  · simp; omega
  · simp only[List.length_append,List.length_take,List.length_drop,nI]
    split <;> simp <;> omega
theorem aEj {α:Type} {l:List α} {k:Nat} (h:k<l.length):l.take (k+1)=l.take k++[l[k]]:=(List.take_append_getElem h).symm
theorem RevI.ne {l:List En} {n:Nat} {t:Int} {k:Nat} {out:List En} (h:RevI l n t k out) (hk:k<l.length) (hne:k≠n):RevI l n t (k+1) (out++[l[k]]):=by
  obtain ⟨_,hn,⟨h1,rfl⟩ | ⟨h1,rfl⟩⟩:=h
  · exact⟨hk,hn,.inl ⟨by omega,(aEj hk).symm⟩⟩
  · refine⟨hk,hn,.inr ⟨by omega,?_⟩⟩
    rw[aEj hk,List.drop_append_of_le_length (by simp; omega)]
    simp [List.append_assoc]
theorem RevI.keep {l:List En} {n:Nat} {t:Int} {k:Nat} {out:List En} (h:RevI l n t k out) (hk:k<l.length) (he:k=n) (ht:l[k].2.1<t):RevI l n t (k+1) (out++[(l[k].1,(l[k].2.1,t))]):=by
  subst he
  obtain ⟨_,hn,⟨h1,rfl⟩ | ⟨h1,rfl⟩⟩:=h
  · refine⟨hk,hn,.inr ⟨by omega,?_⟩⟩
    rw[nI,if_neg (by omega),List.drop_eq_nil_of_le (by simp; omega),List.append_nil]
  · omega
theorem RevI.gone {l:List En} {n:Nat} {t:Int} {k:Nat} {out:List En} (h:RevI l n t k out) (hk:k<l.length) (he:k=n) (ht:t≤l[k].2.1):RevI l n t (k+1) out:=by
  subst he
  obtain ⟨_,hn,⟨h1,rfl⟩ | ⟨h1,rfl⟩⟩:=h
  · refine⟨hk,hn,.inr ⟨by omega,?_⟩⟩
    rw[nI,if_pos ht,List.drop_eq_nil_of_le (by simp; omega),List.append_nil,List.append_nil]
  · omega
theorem RevI.fin {l:List En} {p:Pr} {n:Nat} {t:Int} {k:Nat} {out:List En} (h:RevI l n t k out) (hk:l.length≤k) (h1:∀ (j:Nat) (hj:j<l.length),j<n→dY p l[j]=false) (h2:∀ hn:n<l.length,dY p l[n]=true):out=jH l p t:=by
  obtain ⟨_,hn,⟨h3,rfl⟩ | ⟨h3,rfl⟩⟩:=h
  · omega
  · rw[aAr p t l n hn h1 (h2 hn),List.take_of_length_le hk]
theorem rev_set {l:List En} {p:Pr} {t:Int} {k:Nat} (hk:k<l.length) (h1:∀ (j:Nat) (hj:j<l.length),j<k→dY p l[j]=false) (h2:dY p l[k]=true) (ht:l[k].2.1<t):l.set k (l[k].1,(l[k].2.1,t))=jH l p t:=by
  rw[aAr p t l k hk h1 h2,nI,if_neg (by omega),List.set_eq_take_append_cons_drop,if_pos hk]; rfl
theorem rev_del {l:List En} {p:Pr} {t:Int} {k:Nat} {v:En} (hk:k<l.length) (h1:∀ (j:Nat) (hj:j<l.length),j<k→dY p l[j]=false) (h2:dY p l[k]=true) (ht:t≤l[k].2.1):(l.set k v).take k++(l.set k v).drop (k+1)=jH l p t:=by
  rw[aAr p t l k hk h1 h2,nI,if_pos ht,List.take_set_of_le (Nat.le_refl _),List.drop_set_of_lt (by omega)]; rfl
theorem aOm {l:List En} {p:Pr} (h:kZ (dY p) l<0):onB l p=false:=by
  rw[onB,← aCk]; simp; omega
theorem onB_t {l:List En} {p:Pr} (h:0≤kZ (dY p) l):onB l p=true:=by
  rw[onB,← aCk]; simp; omega
theorem aMj {l:List En} {p:Pr} {k:Nat} (hk:k<l.length) (h:dY p l[k]=true):onB l p=true:=List.any_eq_true.2 ⟨_,List.getElem_mem hk,h⟩
theorem aeq_pr {x y:Pr}:aeqL [.str,.str] (prC x) (prC y)=some (decide (x=y),[],[]):=by
  rw[← aRj]; rfl
theorem nextE_t {a b:En}:aRs a b=true↔mG a b<0∧(a.1=b.1→a.2.2≤b.2.1):=by
  simp only[aRs,Bool.and_eq_true,decide_eq_true_eq,Bool.not_eq_true',Bool.and_eq_false_iff,decide_eq_false_iff_not]
  refine and_congr_right fun _=>?_
  by_cases e:a.1=b.1
  · simp only[e,not_true_eq_false,false_or,forall_const]; omega
  · simp [e]
theorem aR1 {u:ByteArray} {e:En} (h:e.1.1.toList=u.toList∨e.1.2.toList=u.toList):(!mQ u e)=false:=by
  simp only[toList_inj] at h
  rcases h with h | h <;> simp [mQ,nJ,h]
theorem hasU_f {u:ByteArray} {e:En} (h1:¬ e.1.1.toList=u.toList) (h2:¬ e.1.2.toList=u.toList):(!mQ u e)=true:=by
  simp only[toList_inj] at h1 h2
  simp [mQ,nJ,h1,h2]
end Go.Abs
set_option linter.unusedVariables false
set_option linter.unusedSimpArgs false
namespace Go.Abs
open Go Go.RowKit
variable {P:Program}
theorem iM {f:Nat} {args:List AV} {x y:AV} (h:Den P f args (·=x)) (e:x=y):Den P f args (·=y):=e ▸ h
def RisR (a b:En):Prop:=mG a b<0∧(a.1=b.1→a.2.2≤b.2.1)
theorem RisR.trans {a b c:En} (hb:okE b=true) (h1:RisR a b) (h2:RisR b c):RisR a c:=by
  refine⟨ordE_tri.lt_tr h1.1 h2.1,fun e=>?_⟩
  have hab:qW a.1 b.1≤0:=by
    have:=h1.1; rw[sV] at this; unfold tD at this; split at this <;> simp only[] at*<;> omega
  have hbc:qW b.1 c.1≤0:=by
    have:=h2.1; rw[sV] at this; unfold tD at this; split at this <;> simp only[] at*<;> omega
  have hba:qW b.1 a.1≤0:=by rw[e]; exact hbc
  have h0:qW a.1 b.1=0:=by have:=pairC_tri.swap a.1 b.1; omega
  have e1:=aB2.1 h0
  have g1:=h1.2 e1
  have g2:=h2.2 (e1 ▸ e)
  have g3:b.2.1<b.2.2:=by
    simp only[okE,Bool.and_eq_true,decide_eq_true_eq] at hb; exact hb.1
  omega
theorem oU (l:List En):aFs l=true↔(∀ x∈l,okE x=true)∧l.Pairwise RisR:=by
  rw[aFs,qU RisR (fun x y=>nextE_t) (fun x y z hy h1 h2=>RisR.trans hy h1 h2)]
  simp
theorem aHm {l:List En} (q:En→Bool) (h:aFs l=true):aFs (l.filter q)=true:=by
  rw[oU] at *
  exact⟨fun x hx=>h.1 x (List.mem_filter.1 hx).1,h.2.filter q⟩
theorem aH5 (l:List En) (p:Pr):(qV l p).length≤2*l.length:=by
  have h1:=aRq ((l.filter (ofB p)).map Prod.snd)
  have h2:=List.length_filter_le (ofB p) l
  rw[List.length_map] at h1
  show (oE _).length≤_
  omega
end Go.Abs
set_option linter.unusedVariables false
set_option linter.unusedSimpArgs false
namespace Go.Abs
abbrev Se:=(Int×ByteArray)×(Int×Int)
def seC (e:Se):List AV:=[.s (.int .i64 e.1.1),.s (.string e.1.2),.s (.int .i64 e.2.1),.s (.int .i64 e.2.2)]
abbrev se0:Se:=((0,⟨#[]⟩),(0,0))
abbrev st0:bP:=((0,0),(0,0))
def aCj {α:Type} (q:α→Bool) (e:α):List α→List α
  | []=>[e]
  | x::l=>if q x=true then e::x::l else x::aCj q e l
theorem wR {α:Type} (q:α→Bool) (e:α):∀ (l:List α) (k:Nat),k≤l.length→(∀ (j:Nat) (hj:j<l.length),j<k→q l[j]=false)→(∀ (h:k<l.length),q l[k]=true)→aCj q e l=l.take k++e::l.drop k
  | [],k,hk,_,_=>by
                          have:k=0:=by simpa using hk
                          subst this; rfl
  | x::l,0,_,_,h=>by have:=h (by simp); simp only[List.getElem_cons_zero] at this; simp [aCj,this]
  | x::l,k+1,hk,h1,h2=>by
    have hx:=h1 0 (by simp) (by omega)
    simp only[List.getElem_cons_zero] at hx
    rw[aCj,if_neg (by simp [hx]),wR q e l k (by simpa using hk) (fun j hj hjk=>by have:=h1 (j+1) (by simpa using hj) (by omega); simpa using this) (fun h=>by have:=h2 (by simpa using h); simpa using this)]
    rfl
theorem aCi {α:Type} (q:α→Bool) (e:α):∀ l:List α,(aCj q e l).length=l.length+1
  | []=>rfl
  | x::l=>by rw[aCj]; split <;> simp [aCi q e l]
theorem wQ {α:Type} {q:α→Bool} {e x:α}:∀ {l:List α},x∈aCj q e l↔x=e∨x∈l
  | []=>by simp [aCj]
  | y::l=>by
    rw[aCj]; split
    · simp
    · simp only[List.mem_cons,wQ (l:=l)]
      constructor
      · rintro (h | h | h) <;> simp [h]
      · rintro (h | h | h) <;> simp [h]
def isN (n:Int) (e:Se):Bool:=decide (e.1.1=n)
def aF9 (l:List Se) (n:Int):Bool:=l.any (isN n)
def aJb:List Se→Int→Se
  | [],_=>se0
  | e::l,n=>if isN n e=true then e else aJb l n
def fM:List Se→Int→ByteArray→Int
  | [],_,_=>101
  | e::l,n,u=>if isN n e=true then (if e.1.2=u then 0 else 102) else fM l n u
def aJt:List Se→Int→Int→Int→List Se
  | [],_,_,_=>[]
  | e::l,n,st,t=>if isN n e=true then (e.1,(st,t))::l else e::aJt l n st t
def aJq:List Se→Int→List Se
  | [],_=>[]
  | e::l,n=>if isN n e=true then l else e::aJq l n
def atK (l:List Se) (n:Int):Nat:=l.findIdx (isN n)
theorem lC (n:Int) (u:ByteArray) (st t:Int):∀ (l:List Se) (k:Nat) (hk:k<l.length),(∀ (j:Nat) (hj:j<l.length),j<k→isN n l[j]=false)→isN n l[k]=true →
    atK l n=k∧aJb l n=l[k]∧fM l n u=(if l[k].1.2=u then 0 else 102)∧aJt l n st t=l.set k (l[k].1,(st,t))∧aJq l n=l.take k++l.drop (k+1)
  | [],k,hk,_,_=>by simp at hk
  | x::l,0,_,_,h=>by
    simp only[List.getElem_cons_zero] at h
    simp [atK,aJb,fM,aJt,aJq,h,List.findIdx_cons]
  | x::l,k+1,hk,h1,h2=>by
    have hx:=h1 0 (by simp) (by omega)
    simp only[List.getElem_cons_zero] at hx
    obtain ⟨e1,e2,e3,e4,e5⟩:=lC n u st t l k (by simpa using hk) (fun j hj hjk=>by have:=h1 (j+1) (by simpa using hj) (by omega); simpa using this) (by simpa using h2)
    have hx':¬ isN n x=true:=by simp [hx]
    refine⟨?_,?_,?_,?_,?_⟩
    · rw[atK] at *; rw[List.findIdx_cons,hx,e1]; rfl
    · rw[aJb,if_neg hx',e2]; rfl
    · rw[fM,if_neg hx',e3]; rfl
    · rw[aJt,if_neg hx',e4]; rfl
    · rw[aJq,if_neg hx',e5]; rfl
theorem xB (n:Int) (u:ByteArray):∀ (l:List Se),(∀ (j:Nat) (hj:j<l.length),isN n l[j]=false)→atK l n=l.length∧fM l n u=101∧aF9 l n=false
  | [],_=>⟨rfl,rfl,rfl⟩
  | x::l,h=>by
    have hx:=h 0 (by simp)
    simp only[List.getElem_cons_zero] at hx
    obtain ⟨e1,e2,e3⟩:=xB n u l (fun j hj=>by have:=h (j+1) (by simpa using hj); simpa using this)
    refine⟨?_,?_,?_⟩
    · rw[atK] at *; rw[List.findIdx_cons,hx,e1]; rfl
    · rw[fM,if_neg (by simp [hx]),e2]
    · rw[aF9] at *; rw[List.any_cons,hx,e3]; rfl
theorem aCw (l:List Se) (n:Int) (u:ByteArray):(fM l n u=101∧aF9 l n=false∧atK l n=l.length)∨(aF9 l n=true∧fM l n u≠101∧∃ k,∃ hk:k<l.length,isN n l[k]=true∧(∀ (j:Nat) (hj:j<l.length),j<k→isN n l[j]=false)∧atK l n=k∧fM l n u=(if l[k].1.2=u then 0 else 102)):=by
  rcases dE (isN n) l with ⟨_,h⟩ | ⟨k,hk,_,h1,h2⟩
  · obtain ⟨e1,e2,e3⟩:=xB n u l (fun j hj=>h _ (List.getElem_mem hj))
    exact .inl ⟨e2,e3,e1⟩
  · obtain ⟨e1,_,e3,_⟩:=lC n u 0 0 l k hk h2 h1
    exact .inr ⟨List.any_eq_true.2 ⟨_,List.getElem_mem hk,h1⟩,by rw[e3]; split <;> decide,k,hk,h1,h2,e1,e3⟩
theorem wY {l:List Se} {n:Int} {u:ByteArray} (h:fM l n u=0):∃ k,∃ hk:k<l.length,atK l n=k∧isN n l[k]=true∧l[k].1.2=u∧∀ (j:Nat) (hj:j<l.length),j<k→isN n l[j]=false:=by
  rcases aCw l n u with ⟨e,_⟩ | ⟨_,_,k,hk,h1,h2,h3,h4⟩
  · omega
  · refine⟨k,hk,h3,h1,?_,h2⟩
    rw[h4] at h
    split at h
    · assumption
    · omega
theorem aJm {l:List Se} {n:Int} {u:ByteArray}:fM l n u=101↔aF9 l n=false:=by
  rcases aCw l n u with ⟨e,h,_⟩ | ⟨e,h,_⟩
  · simp [e,h]
  · simp [e,h]
def nZ (l:List Se) (e:Se):Int:=if aF9 l e.1.1=true then 100 else if 16≤l.length then 103 else 0
def jJ (n:Int) (x:Se):Bool:=decide (n<x.1.1)
def aB6 (l:List Se) (e:Se):List Se:=aCj (jJ e.1.1) e l
def fO (e:Se) (t:Int):bP:=((e.2.2,t),(e.1.1,e.2.1))
def aIa (e:Se):Bool:=dD e.1.2&&(decide (1≤e.1.1)&&decide (e.1.1≤999)&&(decide (1≤e.2.1)&&decide (e.2.1≤4))&&(decide (0≤e.2.2)&&decide (e.2.2≤1099511627775)))
def nextN (a b:Se):Bool:=decide (a.1.1<b.1.1)
def uP (l:List Se):Bool:=aDr aIa nextN none l&&decide (l.length≤16)
theorem kD (l:List Se):uP l=true↔((∀ x∈l,aIa x=true)∧l.Pairwise fun a b=>a.1.1<b.1.1)∧l.length≤16:=by
  rw[uP,Bool.and_eq_true,decide_eq_true_eq,qU (fun a b:Se=>a.1.1<b.1.1) (fun x y=>by simp [nextN]) (fun x y z _ h1 h2=>Int.lt_trans h1 h2)]
  simp
theorem opn_ris {l:List Se} {e:Se} (h:uP l=true) (he:uP [e]=true) (ho:nZ l e=0):uP (aB6 l e)=true:=by
  obtain ⟨⟨h1,h2⟩,h3⟩:=(kD l).1 h
  have h4:=((kD [e]).1 he).1.1 e (by simp)
  unfold nZ at ho
  split at ho
  · omega
  · rename_i hn
    split at ho
    · omega
    · rename_i h16
      refine(kD _).2 ⟨⟨fun x hx=>?_,?_⟩,by rw[aB6,aCi]; omega⟩
      · rcases wQ.1 hx with rfl | hx
        · exact h4
        · exact h1 x hx
      · have hne:∀ x∈l,x.1.1≠e.1.1:=fun x hx hh=>hn (List.any_eq_true.2 ⟨x,hx,by simp [isN,hh]⟩)
        clear h1 h h3 h16 ho hn
        revert h2 hne
        induction l with
        | nil=>intro _ _; exact List.pairwise_singleton _ _
        | cons x l ih =>
          intro h2 hne
          obtain ⟨q1,q2⟩:=List.pairwise_cons.1 h2
          have hx:=hne x (by simp)
          rw[aB6,aCj]
          split
          · rename_i hq
            simp only[jJ,decide_eq_true_eq] at hq
            refine List.pairwise_cons.2 ⟨fun y hy=>?_,h2⟩
            rcases List.mem_cons.1 hy with rfl | hy
            · exact hq
            · have:=q1 y hy; omega
          · rename_i hq
            simp only[jJ,decide_eq_true_eq] at hq
            refine List.pairwise_cons.2 ⟨fun y hy=>?_,ih q2 (fun y hy=>hne y (by simp [hy]))⟩
            rcases wQ.1 hy with rfl | hy
            · omega
            · exact q1 y hy
def qM (u:ByteArray) (e:Se):Bool:=decide (e.1.2=u)
def kY (l:List Se) (u:ByteArray) (t:Int):List bP:=l.flatMap fun e=>if qM u e=true∧¬ t≤e.2.2 then [fO e t] else []
def gQ (l:List Se) (u:ByteArray) (t:Int):List bP:=aHf (kY l u t)
theorem aO7 (l:List Se) (u:ByteArray) (t:Int):(gQ l u t).length≤l.length:=by
  rw[gQ,aO9]
  induction l with
  | nil=>simp [kY]
  | cons e l ih =>
    have:(if qM u e=true∧¬ t≤e.2.2 then [fO e t] else []).length≤1:=by split <;> simp
    simp only[kY,List.flatMap_cons,List.length_append,List.length_cons] at *
    omega
end Go.Abs
set_option linter.unusedVariables false
set_option linter.unusedSimpArgs false
namespace Go.Abs
open Go
end Go.Abs
set_option linter.unusedVariables false
namespace Go.Abs
open Go
theorem er_ne {l:List Se} {k n:Nat} (hk:k<l.length) (h:k≠n):(l.take (k+1)).eraseIdx n=(l.take k).eraseIdx n++[l[k]]:=by
  rw[List.take_succ_eq_append_getElem hk]
  have hl:(l.take k).length=k:=by rw[List.length_take]; omega
  by_cases hn:n<k
  · rw[List.eraseIdx_append_of_lt_length (by omega)]
  · rw[List.eraseIdx_of_length_le (by simp only[List.length_append,List.length_cons,List.length_nil]; omega),List.eraseIdx_of_length_le (by omega)]
theorem er_eq {l:List Se} {k:Nat} (hk:k<l.length):(l.take (k+1)).eraseIdx k=(l.take k).eraseIdx k:=by
  rw[List.take_succ_eq_append_getElem hk]
  have hl:(l.take k).length=k:=by rw[List.length_take]; omega
  rw[List.eraseIdx_append_of_length_le (by omega),hl,Nat.sub_self,List.eraseIdx_of_length_le (show (List.take k l).length≤k by omega)]
  simp
theorem er_end (l:List Se) (n:Nat):l.eraseIdx n=l.take n++l.drop (n+1):=List.eraseIdx_eq_take_drop_succ l n
abbrev lG (l:List Se) (e:Se):List Se:=if nZ l e=0 then aB6 l e else []
abbrev mD (l:List Se) (n:Int) (u:ByteArray) (st t:Int):List Se:=if fM l n u=0 then aJt l n st t else []
abbrev mC (l:List Se) (n:Int) (u:ByteArray):List Se:=if fM l n u=0 then aJq l n else []
abbrev aGc (l:List Se) (n:Int) (u:ByteArray):Se:=if fM l n u=0 then aJb l n else se0
abbrev stR (l:List Se) (n:Int) (u:ByteArray) (t:Int):bP:=if fM l n u=0 then fO (aJb l n) t else st0
theorem aOu (n st t:Int):∀ l:List Se,(aJt l n st t).length=l.length
  | []=>rfl
  | e::l=>by rw[aJt]; split <;> simp [aOu n st t l]
theorem aOt (n:Int):∀ l:List Se,(aJq l n).length≤l.length
  | []=>Nat.le_refl _
  | e::l=>by
    rw[aJq]; split
    · simp
    · have:=aOt n l; simp only[List.length_cons]; omega
theorem aB5 (l:List Se) (e:Se):(lG l e).length≤l.length+1:=by
  unfold lG; split
  · rw[aB6,aCi]; omega
  · simp
theorem aCy (l:List Se) (n:Int) (u:ByteArray) (st t:Int):(mD l n u st t).length≤l.length:=by
  unfold mD; split
  · rw[aOu]; omega
  · simp
theorem aCx (l:List Se) (n:Int) (u:ByteArray):(mC l n u).length≤l.length:=by
  unfold mC; split
  · exact aOt n l
  · simp
theorem aGb {l:List Se} {n:Int} {u:ByteArray} {k:Nat} (hk:k<l.length) (h1:isN n l[k]=true) (h2:l[k].1.2=u) (h3:∀ (j:Nat) (hj:j<l.length),j<k→isN n l[j]=false):fM l n u=0∧aJb l n=l[k]∧l[k].1=(n,u):=by
  obtain ⟨e1,e2,e3,_⟩:=lC n u 0 0 l k hk h3 h1
  simp only[isN,decide_eq_true_eq] at h1
  exact⟨by rw[e3,if_pos h2],e2,Prod.ext h1 h2⟩
end Go.Abs
set_option linter.unusedVariables false
set_option linter.unusedSimpArgs false
namespace Go.Proofs.YtijnkglkchhomaaGreat
open Go Go.Abs
theorem sJ {g:Nat} {cap:List AV} (hent:∀ args w,(callFunc g args).run Tryz.prog w=.ok (.enter g args) w) (hcl:cleanL (fun _=>false) cap=true) (p:Se→Bool) (l:List Se) (hl:l.length≤9223372036854775807) (hp:∀ x∈l,Den Tryz.prog g (.agg (seC x)::cap) (·=.s (.bool (p x)))) :Den Tryz.prog 188 [.sl 4 (l.map seC),.fn g cap]  (·=.s (.int .i64 (kZ p l))):=by
 refine aS Tryz.func188 rfl (Nat.le_of_ble_eq_true rfl) (fun w0 A hf=>(aC (fun K1 hK1=>(aB (aE aA 1 rfl (aD (hK1 _ (aC (fun K2 hK2=>(aC (fun K3 hK3=>(aB (aE aA 3 rfl (aD (hK3 _ (aO ?_))))))))))))))))
 refine bS (ι:=Nat) (fun k=>⟨19,[(0,.sl 4 (l.map seC)),(1,.fn g cap),(7,.s (.int .i64 ((l.map seC).length:Nat))),(8,.s (.int .i64 (k:Nat)))],[]⟩) (fun k=>k≤l.length∧∀ (j:Nat) (hj:j<l.length),j<k→p l[j]=false) (fun k=>l.length - k) 0 ?_ ?_ ?_
 · exact⟨by omega,by omega⟩
 · exact dN rfl
 ·
  rintro k hC
  obtain ⟨h1,h2⟩:=hC
  refine aC (fun K4 hK4=>(aB (aE aA 1 rfl (aD (hK4 _ (aC (fun K5 hK5=>(aI rfl (fun hc1=>?_) (fun hc1=>?_)))))))))
  ·
   simp only[bs] at hc1
   refine aL (hK5 _ (aC (fun K6 hK6=>(aO (aC (fun K7 hK7=>(aB (aE aA 2 rfl (aD (hK7 _ (aC (fun K8 hK8=>(aB (aE aA 3 rfl ?_))))))))))))))
   refine aF rfl (aW rfl rfl eU dU (by first | exact ixm (by omega) | assumption | exact⟨by decide,rfl⟩)) ?_
   refine aE aA 1 rfl (aK hf rfl (aR rfl rfl hent (by rw[fN,hcl]; rfl) (hp _ (List.getElem_mem _))) ?_)
   refine aD (hK8 _ (aI rfl (fun hc2=>?_) (fun hc2=>?_)))
   ·
    refine aC (fun K9 hK9=>(aB (aE aA 2 rfl (aD (hK9 _ (aJ ?_))))))
    refine⟨_,rfl,?_⟩
    refine dM ?_
    rw[iK (by omega) h2 (by assumption)]
   ·
    refine aL (hK6 _ (aB ?_))
    refine aF rfl (bJ rfl rfl (by omega) (by omega)) ?_
    refine aE aA 1 rfl (aD ?_)
    exact⟨k+1,⟨by omega,fun j hj hjk=>by
      by_cases e:j=k
      · subst e; simp_all
      · exact h2 j hj (by omega)⟩,by omega,dN rfl⟩
  ·
   simp only[bs] at hc1
   refine bA (hK2 _ (aC (fun K10 hK10=>(aB (aE aA 1 rfl (aD (hK10 _ (aJ ?_))))))))
   refine⟨_,rfl,?_⟩
   refine dM ?_
   rw[lQ (fun j hj=>h2 j hj (by omega))]
theorem zT {g:Nat} {cap:List AV} (hent:∀ args w,(callFunc g args).run Tryz.prog w=.ok (.enter g args) w) (hcl:cleanL (fun _=>false) cap=true) (hcv:∀ m,convL m cap=cap) (p:Se→Bool) (l:List Se) (n:Nat) (hn:n=l.length) (hl:l.length≤9223372036854775807) (hp:∀ x∈l,Den Tryz.prog g (.agg (seC x)::cap) (·=.s (.bool (p x)))) :DenM Tryz.prog 184 [.own E0 4 0 n,.fn g cap] 4 ((l.map seC)) (fun r ys=>r=.own E0 4 0 (l.filter fun x=>!p x).length∧ys=((l.filter fun x=>!p x).map seC)):=by
 subst hn
 have hq0:∀ j,((l.take j).filter fun x=>!p x).length≤j:=fun j=>gT _ l j
 have hq1:∀ j,((l.take j).filter fun x=>!p x).length≤l.length:=fun j=>gG _ l j
 refine gI Tryz.func184 rfl (Nat.le_of_ble_eq_true rfl) (fun w0 x0 A hf=>?_)
 refine aC (fun K1 hK1=>(aB (aF rfl (bE) (aD (hK1 _ (aC (fun K2 hK2=>(aB (aE aA 2 rfl (aK hf rfl (pW rfl rfl (by show [AV.conv _ _,AV.fn g (convL _ cap)]=_; rw[hcv,bV (g:=E0) rfl (by simp)]) zJ (sJ hent hcl p l hl hp) rfl) ?_))))))))))
 refine aE aA 1 rfl (aD (hK2 _ (aC (fun K3 hK3=>(aC (fun K4 hK4=>(aB (aE aA 2 rfl (aD (hK4 _ (aI rfl (fun hc1=>?_) (fun hc1=>?_))))))))))))
 ·
  simp only[bs] at hc1
  refine aC (fun K5 hK5=>(aB (aE aA 2 rfl (aD (hK5 _ (aJ ?_))))))
  have hno:kZ p l=-1:=by simpa using hc1
  rcases dE p l with ⟨_,hn⟩ | ⟨k,hk,e,_⟩
  · exact⟨_,.own E0 4 0 l.length,(l.map seC),Le.refl _,rfl,rfl,by rw[fL p l hn],by rw[fL p l hn]⟩
  · exfalso; omega
 ·
  simp only[bs] at hc1
  refine aL (hK3 _ (aC (fun K6 hK6=>(aC (fun K7 hK7=>(aB ?_))))))
  rcases dE p l with ⟨e0,_⟩ | ⟨k0,hk0,ek0,hpk0,hbef⟩
  · exact absurd e0 (by simpa using hc1)
  have hst:=kP (fun x=>!p x) l k0 hk0 (fun j hj hjk=>by simp [hbef j hj hjk]) (by simp [hpk0])
  rw[ek0]
  refine aE aA 1 rfl ?_
  refine aF rfl (bJ rfl rfl (by omega) (by omega)) ?_
  refine aE aA 1 rfl (aD (hK7 _ (aO (bS (ι:=Nat) (fun j=>⟨42,[(0,.own E0 4 0 l.length),(1,.fn g cap),(5,.s (.int .i64 (((l.take j).filter fun x=>!p x).length:Nat))),(6,.s (.int .i64 (j:Nat)))],[(E0,.buf 4 ((iY (fun x=>!p x) l j).map seC))]⟩) (fun j=>j≤l.length) (fun j=>l.length - j) (k0+1) ?_ ?_ ?_))))
  · exact hk0
  · rw[hst.1,hst.2]; exact kX ⟨rfl,rfl,rfl,rfl,trivial⟩
  ·
   rintro j hC
   let q:=fun x=>!p x
   have hle:((l.take j).filter q).length≤j:=hq0 j
   have hle2:((l.take j).filter fun x=>!p x).length≤j:=hq0 j
   refine aC (fun K8 hK8=>(aC (fun K9 hK9=>(aB (aE aA 4 rfl (aD (hK9 _ (aI rfl (fun hc2=>?_) (fun hc2=>?_)))))))))
   ·
    simp only[bs] at hc2
    refine aL (hK8 _ (aC (fun K10 hK10=>(aO (aC (fun K11 hK11=>(aB (aE aA 2 rfl ?_))))))))
    refine aF rfl (bX rfl rfl eU dU (by omega)) ?_
    refine aF rfl (bM rfl aQw dU rfl (pY (c:=4) (k:=j) (enc:=seC) (by omega) (by rw[eF]; omega) rfl) (cs':=seC l[j]) (by rw[nK (c:=4) (k:=j) (enc:=seC) (by omega) (by rw[eF]; omega) rfl,oM q l j j (by omega) hle])) ?_
    refine cH hf rfl rH rfl dU rfl rfl rfl rfl (lf rfl) (aD (hK11 _ (aC (fun K12 hK12=>(aB (aE aA 2 rfl (aK hf rfl (aR rfl rfl hent (by rw[fN,hcl]; rfl) (hp _ (List.getElem_mem _))) ?_)))))))
    refine aE aA 1 rfl (aD (hK12 _ (aI rfl (fun hc3=>?_) (fun hc3=>?_))))
    ·
     simp only[bs] at hc3
     refine aC (fun K13 hK13=>(aB (aE aA 3 rfl ?_)))
     refine aF rfl (bX rfl rfl eU dU (by omega)) ?_
     refine aP hf rfl rfl dU rfl rfl (by simp [seC,AV.cells,AV.one,Value.oneCell',splice]) (by simp [seC,AV.cells,AV.leaf,Value.oneCell',splice]) (gD (c:=4) (k:=((l.take j).filter fun x=>!p x).length) (enc:=seC) (v:=l[j]) (by omega) (by rw[eF]; omega) rfl (Nat.le_refl _)) ?_
     refine aD (hK13 _ (aB ?_))
     rw[jQ (fun x=>!p x) l j (by omega) (by simp_all)]
     refine aE aA 1 rfl ?_
     refine aF rfl (bJ rfl rfl (by omega) (by omega)) ?_
     rw[lR (fun x=>!p x) l j (by omega) (by simp_all)]
     refine aE aA 1 rfl ?_
     refine bB ?_
     refine hK10 _ (aB (aE aA 1 rfl ?_))
     refine aF rfl (bJ rfl rfl (by omega) (by omega)) ?_
     refine aE aA 1 rfl (aD ?_)
     exact⟨j+1,(by omega),by omega,dN rfl⟩
    ·
     simp only[bs] at hc3
     rw[jR (fun x=>!p x) l j (by omega) (by simp_all),lS (fun x=>!p x) l j (by omega) (by simp_all)]
     refine aL (hK10 _ (aB (aE aA 1 rfl ?_)))
     refine aF rfl (bJ rfl rfl (by omega) (by omega)) ?_
     refine aE aA 1 rfl (aD ?_)
     exact⟨j+1,(by omega),by omega,dN rfl⟩
   ·
    simp only[bs] at hc2
    refine bA (hK6 _ (aC (fun K14 hK14=>(aB (aE aA 2 rfl ?_)))))
    refine aF rfl (eG rfl eU dU rfl rfl (by omega) (by omega)) ?_
    refine tU hf nC rH (by simp [Value.oneCell']) rfl rfl ?_
    refine aD (hK14 _ (aC (fun K15 hK15=>(aB (aE aA 2 rfl ?_)))))
    refine aF rfl (eG rfl eU dU rfl rfl (by omega) (by omega)) ?_
    refine aE aA 1 rfl (aD (hK15 _ (aJ ?_)))
    have hjl:l.length≤j:=by omega
    have he:=mV (fun x=>!p x) l j hjl
    refine⟨_,_,_,Le.refl _,rfl,rfl,?_,?_⟩
    · rw[List.take_of_length_le hjl]; rfl
    · rw[List.take_of_length_le hjl,Nat.zero_add,Int.toNat_natCast,← List.map_take,he]
theorem iI (l:List Se) (hl:l.length*40≤140737488355328) :DenO Tryz.prog 95 [.sl 4 (l.map seC)] 4 (·=(l.map seC)):=by
 refine fB Tryz.func95 rfl (Nat.le_of_ble_eq_true rfl) (fun w0 A hf=>?_)
 refine aC (fun K1 hK1=>(aB (aF rfl (bE) (aD (hK1 _ (aC (fun K2 hK2=>(aC (fun K3 hK3=>(aB (aE aA 1 rfl ?_)))))))))))
 refine lE rfl rfl rfl eU (fun b hb1=>?_)
 refine aD (hK3 _ (aI rfl (fun hc2=>?_) (fun hc2=>?_)))
 ·
  have hl0:l=[]:=by simpa using hb1 (by assumption)
  refine aC (fun K4 hK4=>(aB (jK hf 4 rfl rfl rfl (aD (hK4 _ (aJ ?_))))))
  exact⟨2,[],by decide,rfl,rfl,by rw[hl0]; rfl⟩
 ·
  refine aL (hK2 _ (aC (fun K5 hK5=>(aB (cP hf rfl rfl rfl nC rfl rfl rfl rfl (l2 rfl) ?_)))))
  refine aE aA 1 rfl (aT hf rfl nC rfl rfl rfl (.inl rfl) rfl rfl (by first | rfl | simp [cV,bF]) (by first | (simp only[maxLen,List.length_map,List.length_append,List.length_cons,List.length_nil]; omega) | (simp [maxLen] <;> omega)) (by first | (simp only[List.length_map,List.length_append,List.length_cons,List.length_nil]; omega) | (simp <;> omega)) ?_)
  refine aQ (cD [7] rfl) (aE aA 1 rfl (aD (hK5 _ (aJ ?_))))
  refine⟨5,(l.map seC),by decide,rfl,?_,rfl⟩
  show some (AV.own 5 4 0 (0+(l.map seC).length))=_
  rw[Nat.zero_add]
theorem aO0 (n:Nat) (hn:n*40≤140737488355328) :DenO Tryz.prog 210 [.s (.slice none 0 0),.s (.int .i64 (n:Nat))] 4 (·=[]):=by
 refine fB Tryz.func210 rfl (Nat.le_of_ble_eq_true rfl) (fun w0 A hf=>?_)
 refine aC (fun K1 hK1=>(aB (aF rfl (bE) (aD (hK1 _ (aC (fun K2 hK2=>(aC (fun K3 hK3=>(aB (aE aA 2 rfl (aD (hK3 _ (aI rfl (fun hc1=>?_) (fun hc1=>?_)))))))))))))))
 ·
  simp only[bs] at hc1
  omega
 ·
  simp only[bs] at hc1
  refine aL (hK2 _ (aC (fun K4 hK4=>(aC (fun K5 hK5=>(aB (aE aA 2 rfl (aF rfl (lO rfl eU) (aE aA 2 rfl ?_)))))))))
  refine aF rfl (fE rfl rfl (by omega) (by omega)) ?_
  refine aF rfl (fE rfl rfl (by omega) (by omega)) ?_
  refine aE aA 1 rfl (aD (hK5 _ (aC (fun K6 hK6=>(aB (aE aA 2 rfl (aD (hK6 _ (aI rfl (fun hc2=>?_) (fun hc2=>?_))))))))))
  ·
   simp only[bs] at hc2
   refine aB (aE aA 2 rfl (aF rfl (lO rfl eU) ?_))
   refine aF rfl (pX rfl eU dU rfl) ?_
   refine aE aA 1 rfl (tV hf rfl rfl rfl nC Tryz.underlying3 rfl rfl (by omega) (by omega) (by simp only[maxLen]; omega) ?_)
   refine aE aA 2 rfl ?_
   refine aF rfl (eG rfl eU dU rfl rfl (by omega) (by omega)) ?_
   refine aE aA 1 rfl (aD (hK4 _ (aC (fun K7 hK7=>(aB (aE aA 1 rfl ?_))))))
   refine aF rfl (sU rfl) ?_
   refine aD (hK7 _ (aJ ?_))
   exact⟨22,[],by decide,rfl,rfl,rfl⟩
  ·
   simp only[bs] at hc2
   refine aL (hK4 _ (aC (fun K8 hK8=>(aB (aE aA 1 rfl ?_)))))
   refine aFk hf 4 rfl rfl rfl rfl ?_
   refine aD (hK8 _ (aJ ?_))
   exact⟨4,[],by decide,rfl,rfl,rfl⟩
theorem sK (rows:List (List Se)) (hl:rows.length≤9223372036854775807) (hb:rows.flatten.length*40≤140737488355328) :DenO Tryz.prog 161 [.sl 1 (rows.map fun r=>[AV.sl 4 (r.map seC)])] 4 (·=(rows.flatten.map seC)):=by
 refine fB Tryz.func161 rfl (Nat.le_of_ble_eq_true rfl) (fun w0 A hf=>?_)
 refine aC (fun K1 hK1=>(aB (aF rfl (bE) (aD (hK1 _ (aC (fun K2 hK2=>(aB (aE aA 1 rfl (aD (hK2 _ (aC (fun K3 hK3=>(aC (fun K4 hK4=>(aB ?_))))))))))))))))
 refine aE aA 3 rfl (aD (hK4 _ (aO (bS (ι:=Nat) (fun k=>⟨36,[(0,.sl 1 (rows.map fun r=>[AV.sl 4 (r.map seC)])),(3,.s (.int .i64 ((rows.take k).flatten.length:Nat))),(9,.sl 1 (rows.map fun r=>[AV.sl 4 (r.map seC)])),(10,.s (.int .i64 ((rows.map fun r=>[AV.sl 4 (r.map seC)]).length:Nat))),(11,.s (.int .i64 (k:Nat)))],[]⟩) (fun k=>k≤rows.length) (fun k=>rows.length - k) 0 ?_ ?_ ?_))))
 · exact Nat.zero_le _
 · exact dN rfl
 ·
  rintro k hC
  refine aC (fun K5 hK5=>(aB (aE aA 1 rfl (aD (hK5 _ (aC (fun K6 hK6=>(aI rfl (fun hc1=>?_) (fun hc1=>?_)))))))))
  ·
   simp only[bs] at hc1
   refine aL (hK6 _ (aC (fun K7 hK7=>(aO (aC (fun K8 hK8=>(aB ?_)))))))
   refine aF rfl (aW rfl rfl aFf nV (by first | exact ixm (by omega) | assumption | exact⟨by decide,rfl⟩)) ?_
   refine aE aA 2 rfl (aD (hK8 _ (aC (fun K9 hK9=>(aB ?_)))))
   have hk:k<rows.length:=by omega
   have e1:=congrArg List.length (gY rows k hk)
   rw[List.length_append] at e1
   have e2:=qB rows (k+1)
   have e3:(rows[k].map seC).length=rows[k].length:=List.length_map _
   refine aE aA 3 rfl ?_
   refine aF rfl (bJ rfl rfl (by omega) (by omega)) ?_
   rw[show ((((rows.take k).flatten.length:Nat):Int)+(((rows[k].map seC).length:Nat):Int))=(((rows.take (k+1)).flatten.length:Nat):Int) from by omega]
   refine aE aA 1 rfl (aD (hK9 _ (aC (fun K10 hK10=>(aB (aE aA 2 rfl (aD (hK10 _ (aI rfl (fun hc2=>?_) (fun hc2=>?_))))))))))
   ·
    simp only[bs] at hc2
    omega
   ·
    simp only[bs] at hc2
    refine aL (hK7 _ (aB ?_))
    refine aF rfl (bJ rfl rfl (by omega) (by omega)) ?_
    refine aE aA 1 rfl (aD ?_)
    exact⟨k+1,(by omega),by omega,dN rfl⟩
  ·
   simp only[bs] at hc1
   refine bA (hK3 _ (aC (fun K11 hK11=>(aB ?_))))
   rw[List.take_of_length_le (show rows.length≤k by omega)]
   refine aE aA 1 rfl (gW hf rfl rfl rfl rfl rfl aKh rfl (aO0 rows.flatten.length (by omega)) ?_)
   rintro _ rfl
   refine aE aA 1 rfl (aD (hK11 _ (aC (fun K12 hK12=>(aC (fun K13 hK13=>(aB (aE aA 3 rfl (aD (hK13 _ (aO (bS (ι:=Nat) (fun j=>⟨36,[(6,.own 24 4 0 (rows.take j).flatten.length),(25,.sl 1 (rows.map fun r=>[AV.sl 4 (r.map seC)])),(26,.s (.int .i64 ((rows.map fun r=>[AV.sl 4 (r.map seC)]).length:Nat))),(27,.s (.int .i64 (j:Nat)))],[(24,.buf 4 ((rows.take j).flatten.map seC))]⟩) (fun j=>j≤rows.length) (fun j=>rows.length - j) 0 ?_ ?_ ?_))))))))))))
   · exact Nat.zero_le _
   · exact dN rfl
   ·
    rintro j hC
    refine aC (fun K14 hK14=>(aB (aE aA 1 rfl (aD (hK14 _ (aC (fun K15 hK15=>(aI rfl (fun hc3=>?_) (fun hc3=>?_)))))))))
    ·
     simp only[bs] at hc3
     refine aL (hK15 _ (aC (fun K16 hK16=>(aO (aC (fun K17 hK17=>(aB ?_)))))))
     refine aF rfl (aW rfl rfl aFf nV (by first | exact ixm (by omega) | assumption | exact⟨by decide,rfl⟩)) ?_
     refine aE aA 2 rfl (aD (hK17 _ (aB ?_)))
     have hj:j<rows.length:=by omega
     have e1:=congrArg List.length (gY rows j hj)
     rw[List.length_append] at e1
     have e2:=qB rows (j+1)
     have e3:(rows[j].map seC).length=rows[j].length:=List.length_map _
     refine aE aA 2 rfl (aT hf rfl nC rfl rfl rfl (.inl rfl) (by simp only[List.length_map]) rfl (by first | rfl | simp [cV,bF]) (by first | (simp only[maxLen,List.length_map,List.length_append,List.length_cons,List.length_nil]; omega) | (simp [maxLen] <;> omega)) (by first | (simp only[List.length_map,List.length_append,List.length_cons,List.length_nil]; omega) | (simp <;> omega)) ?_)
     refine aQ (cD [25,26,27,33] rfl) ?_
     rw[show (rows.take j).flatten.length+(rows[j].map seC).length=(rows.take (j+1)).flatten.length from by omega,← List.map_append,← gY rows j hj]
     refine aE aA 1 rfl ?_
     refine bB ?_
     refine hK16 _ (aB ?_)
     refine aF rfl (bJ rfl rfl (by omega) (by omega)) ?_
     refine aE aA 1 rfl (aD ?_)
     exact⟨j+1,(by omega),by omega,dN rfl⟩
    ·
     simp only[bs] at hc3
     refine bA (hK12 _ (aC (fun K18 hK18=>(aB (aE aA 2 rfl (aD (hK18 _ (aJ ?_))))))))
     refine⟨24,(rows.flatten.map seC),by decide,?_,?_,rfl⟩
     · rw[List.take_of_length_le (show rows.length≤j by omega)]; rfl
     · rw[List.take_of_length_le (show rows.length≤j by omega)]
       show some (AV.own 24 4 0 rows.flatten.length)=_
       rw[List.length_map]
theorem vE (e:Se) (t:Int) :Den Tryz.prog 114 [.agg (seC e),.s (.int .i64 t)]  (·=.agg (stC (fO e t))):=by
 refine aS Tryz.func114 rfl (Nat.le_of_ble_eq_true rfl) (fun w0 A hf=>(aC (fun K1 hK1=>(aB (aK hf rfl (cL rfl rfl (lf rfl)) (bQ hf rfl rfl rfl fJ (aD (hK1 _ (aC (fun K2 hK2=>(aB (aE aA 3 rfl (aF rfl (bO rfl oP aC8 (l3 rfl) rfl) (aE aA 4 rfl (aF rfl (bO rfl fJ vQ (l3 rfl) rfl) ?_)))))))))))))))
 refine aP hf rfl rfl aX rfl rfl (l1 rfl) (l4 rfl) rfl (aD (hK2 _ (aJ ?_)))
 refine⟨_,rfl,?_⟩
 rfl
theorem uS (e:Se) (t:Int) :Den Tryz.prog 120 [.agg (seC e),.s (.int .i64 t)]  (·=.agg (stC (fO e t))):=by
 refine aS Tryz.func120 rfl (Nat.le_of_ble_eq_true rfl) (fun w0 A hf=>(aC (fun K1 hK1=>(aB (aK hf rfl (cL rfl rfl (lf rfl)) (bQ hf rfl rfl rfl lV (aD (hK1 _ (aC (fun K2 hK2=>(aB (aE aA 7 rfl (aF rfl (bO rfl lV vR (l3 rfl) rfl) (aP hf rfl rfl jC rfl rfl (l1 rfl) (l4 rfl) rfl (aD ?_)))))))))))))))
 refine hK2 _ (aJ ?_)
 refine⟨_,rfl,?_⟩
 rfl
theorem aPn (x e:Se) :Den Tryz.prog 199 [.agg (seC x),.adr (seC e)]  (·=.s (.bool (jJ e.1.1 x))):=by
 refine aS Tryz.func199 rfl (Nat.le_of_ble_eq_true rfl) (fun w0 A hf=>(aC (fun K1 hK1=>(aB (aK hf rfl (cL rfl rfl (lf rfl)) (aE aA 1 rfl (aD (hK1 _ (aC (fun K2 hK2=>(aB (aE aA 6 rfl (aD (hK2 _ (aJ ?_)))))))))))))))
 refine⟨_,rfl,?_⟩
 rfl
theorem zW (e:Se) (u:ByteArray) :Den Tryz.prog 185 [.agg (seC e),.adr [.s (.string u)]]  (·=.s (.bool (qM u e))):=by
 refine aS Tryz.func185 rfl (Nat.le_of_ble_eq_true rfl) (fun w0 A hf=>(aC (fun K1 hK1=>(aB (aK hf rfl (cL rfl rfl (lf rfl)) (aE aA 1 rfl (aD (hK1 _ (aC (fun K2 hK2=>(aB (aE aA 5 rfl (aD (hK2 _ (aJ ?_)))))))))))))))
 refine⟨_,rfl,?_⟩
 refine aV ?_
 unfold qM
 rw[Bool.eq_iff_iff]
 simp_all[toList_inj]
theorem aC1 (l:List Se) (n:Int) (u:ByteArray) (hl:l.length≤9223372036854775807) :Den Tryz.prog 160 [.sl 4 (l.map seC),.s (.int .i64 n),.s (.string u)]  (·=.tup [.s (.int .i64 (atK l n:Nat)),.s (.int .i64 (fM l n u))]):=by
 refine aS Tryz.func160 rfl (Nat.le_of_ble_eq_true rfl) (fun w0 A hf=>(aC (fun K1 hK1=>(aB (aE aA 2 rfl (aD (hK1 _ (aSi (aC (fun K2 hK2=>(aSj (hK2 _ (aC (fun K3 hK3=>(aC (fun K4 hK4=>(aB ?_)))))))))))))))))
 refine aE aA 3 rfl (aD (hK4 _ (aO (bS (ι:=Nat) (fun k=>⟨32,[(0,.sl 4 (l.map seC)),(1,.s (.int .i64 n)),(2,.s (.string u)),(10,.sl 4 (l.map seC)),(11,.s (.int .i64 ((l.map seC).length:Nat))),(12,.s (.int .i64 (k:Nat)))],[]⟩) (fun k=>k≤l.length∧∀ (j:Nat) (hj:j<l.length),j<k→isN n l[j]=false) (fun k=>l.length - k) 0 ?_ ?_ ?_))))
 · exact⟨Nat.zero_le _,by omega⟩
 · exact dN rfl
 ·
  rintro k hC
  obtain ⟨h1,h2⟩:=hC
  refine aC (fun K5 hK5=>(aB (aE aA 1 rfl (aD (hK5 _ (aC (fun K6 hK6=>(aI rfl (fun hc1=>?_) (fun hc1=>?_)))))))))
  ·
   simp only[bs] at hc1
   refine aL (hK6 _ (aC (fun K7 hK7=>(aO (aC (fun K8 hK8=>(aB (aE aA 1 rfl ?_))))))))
   refine aF rfl (aW rfl rfl eU dU (by first | exact ixm (by omega) | assumption | exact⟨by decide,rfl⟩)) ?_
   refine aE aA 1 rfl (bQ hf rfl rfl rfl rH (aE aA 1 rfl (aP hf rfl rfl dU rfl rfl (l1 rfl) (l4 rfl) rfl (aQ (pZ (nee 9) (sl':=[(0,_),(1,_),(2,_),(8,_),(9,_),(10,_),(11,_),(12,_)]) (m':=[]) ⟨⟨_,rfl,rfl⟩,⟨_,rfl,rfl⟩,⟨_,rfl,rfl⟩,⟨_,rfl,rfl⟩,⟨_,rfl,rfl⟩,⟨_,rfl,rfl⟩,⟨_,rfl,rfl⟩,⟨_,rfl,rfl⟩,trivial⟩ rfl) (aD (hK8 _ (aC (fun K9 hK9=>(aO (aC (fun K10 hK10=>(aB (aE aA 5 rfl (aD ?_))))))))))))))
   refine hK10 _ (aI rfl (fun hc2=>?_) (fun hc2=>?_))
   ·
    simp only[bs] at hc2
    refine bA (hK7 _ (aB ?_))
    refine aF rfl (bJ rfl rfl (by omega) (by omega)) ?_
    refine aE aA 1 rfl (aD ?_)
    exact⟨k+1,⟨by omega,fun j hj hjk=>by
     by_cases e:j=k
     · subst e; simp_all[isN]
     · exact h2 j hj (by omega)⟩,by omega,dN rfl⟩
   ·
    simp only[bs] at hc2
    obtain ⟨e1,_,e3,_⟩:=lC n u 0 0 l k (by omega) h2 (by simp_all[isN])
    refine aC (fun K11 hK11=>(aB (aE aA 5 rfl (aD (hK11 _ (aI rfl (fun hc3=>?_) (fun hc3=>?_)))))))
    ·
     simp only[bs] at hc3
     refine aC (fun K12 hK12=>(aB (aE aA 3 rfl (aD (hK12 _ (aJ ?_))))))
     refine⟨_,rfl,?_⟩
     rw[e1,e3,if_neg (by simp_all[toList_inj])]; rfl
    ·
     simp only[bs] at hc3
     refine aL (hK9 _ (aC (fun K13 hK13=>(aB (aE aA 3 rfl (aD (hK13 _ (aJ ?_))))))))
     refine⟨_,rfl,?_⟩
     rw[e1,e3,if_pos (by simp_all[toList_inj])]; rfl
  ·
   simp only[bs] at hc1
   refine bA (hK3 _ (aC (fun K14 hK14=>(aB (aE aA 4 rfl (aD (hK14 _ (aJ ?_))))))))
   refine⟨_,rfl,?_⟩
   obtain ⟨e1,e2,_⟩:=xB n u l (fun j hj=>h2 j hj (by omega))
   rw[e1,e2,List.length_map]; rfl
theorem pV (l:List Se) (n:Int) (hl:l.length≤9223372036854775807) :Den Tryz.prog 212 [.sl 4 (l.map seC),.s (.int .i64 n)]  (·=.s (.int .i64 (kZ (isN n) l))):=by
 refine aS Tryz.func212 rfl (Nat.le_of_ble_eq_true rfl) (fun w0 A hf=>(aC (fun K1 hK1=>(aB (aE aA 1 rfl (aD (hK1 _ (aC (fun K2 hK2=>(aC (fun K3 hK3=>(aB (aE aA 1 rfl (aD (hK3 _ (aO ?_))))))))))))))))
 refine bS (ι:=Nat) (fun k=>⟨20,[(0,.sl 4 (l.map seC)),(1,.s (.int .i64 n)),(5,.s (.int .i64 (k:Nat)))],[]⟩) (fun k=>k≤l.length∧∀ (j:Nat) (hj:j<l.length),j<k→isN n l[j]=false) (fun k=>l.length - k) 0 ?_ ?_ ?_
 · exact⟨Nat.zero_le _,by omega⟩
 · exact dN rfl
 ·
  rintro k hC
  obtain ⟨h1,h2⟩:=hC
  refine aC (fun K4 hK4=>(aC (fun K5 hK5=>(aB (aE aA 4 rfl (aD (hK5 _ (aI rfl (fun hc1=>?_) (fun hc1=>?_)))))))))
  ·
   simp only[bs] at hc1
   refine aL (hK4 _ (aC (fun K6 hK6=>(aO (aC (fun K7 hK7=>(aB (aE aA 2 rfl ?_))))))))
   refine aF rfl (aW rfl rfl jN fS (by first | exact ixm (by omega) | assumption | exact⟨by decide,rfl⟩)) ?_
   refine aE aA 4 rfl (aD (hK7 _ (aI rfl (fun hc2=>?_) (fun hc2=>?_))))
   ·
    simp only[bs] at hc2
    refine aC (fun K8 hK8=>(aB (aE aA 2 rfl (aD (hK8 _ (aJ ?_))))))
    refine⟨_,rfl,?_⟩
    refine dM ?_
    rw[iK (by omega) h2 (by simp_all[isN])]
   ·
    simp only[bs] at hc2
    refine aL (hK6 _ (aB (aE aA 1 rfl ?_)))
    refine aF rfl (bJ rfl rfl (by omega) (by omega)) ?_
    refine aE aA 1 rfl (aD ?_)
    exact⟨k+1,⟨by omega,fun j hj hjk=>by
     by_cases e:j=k
     · subst e; simp_all[isN]
     · exact h2 j hj (by omega)⟩,by omega,dN rfl⟩
  ·
   simp only[bs] at hc1
   refine bA (hK2 _ (aC (fun K9 hK9=>(aB (aE aA 1 rfl (aD (hK9 _ (aJ ?_))))))))
   refine⟨_,rfl,?_⟩
   refine dM ?_
   rw[lQ (fun j hj=>h2 j hj (by omega))]
end Go.Proofs.YtijnkglkchhomaaGreat
set_option linter.unusedVariables false
set_option linter.unusedSimpArgs false
namespace Go.Proofs.YtijnkglkchhomaaGreat
open Go Go.Abs
end Go.Proofs.YtijnkglkchhomaaGreat
